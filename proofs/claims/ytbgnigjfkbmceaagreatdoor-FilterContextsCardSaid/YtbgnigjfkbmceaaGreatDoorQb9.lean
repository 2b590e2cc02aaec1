/-
  Part 9 of the proof of FilterContextsP: what the statement's proof uses of the texts in wip/tpl.
-/
import Derived.Test.YtbgnigjfkbmceaaGreatDoorQb8
open Go.Proofs.Tryz (prog)
set_option maxRecDepth 10000
set_option maxHeartbeats 4000000
set_option linter.unusedVariables false
set_option linter.unusedSimpArgs false
namespace Go.Proofs.YtbgnigjfkbmceaaGreatDoor
def Bz(ns:List Nod)(i:Int):List Nod:=ns.filter fun m=>decide (m.ino≠i∨0<Bc i ns)
theorem LU{ns:List Nod}{i:Int}{m:Nod}:m∈Bz ns i↔m∈ns∧(m.ino≠i∨0<Bc i ns):=by
 unfold Bz;rw[List.mem_filter,decide_eq_true_iff]
theorem T1{ns:List Nod}{p:Nod→Bool}(h:∀m∈ns,p m=false→m.entries=[])(i:Int):Bc i (ns.filter p)=Bc i ns:=by
 induction ns with
 |nil=>rfl
 |cons x r ih=>
   rw[List.filter_cons];have ih':=ih fun m hm=>h m (by simp[hm])
   cases hp:p x with
   |true=>simp only[if_true];rw[K5,K5,ih']
   |false=>
     simp only[Bool.false_eq_true,if_false];rw[K5,h x (by simp) hp,ih'];simp[CV]
theorem Pc{es:List BM}(hs:EQ es){a b:BM}(ha:a∈es)(hb:b∈es)(e:a.1=b.1):a=b:=by
 induction es with
 |nil=>cases ha
 |cons x r ih=>
   obtain⟨h1,h2⟩:=List.pairwise_cons.1 hs;rcases List.mem_cons.1 ha with rfl|ha
   ·rcases List.mem_cons.1 hb with rfl|hb
    ·rfl
    exact absurd e (LM (h1 b hb))
   rcases List.mem_cons.1 hb with hb|hb
   ·subst hb;exact absurd e.symm (LM (h1 a (by assumption)))
   exact ih h2 (by assumption) hb
theorem VD.removed{d:Dvc}(h:VD d){n0 a:Nod}(hn0:n0∈d.nodes)(ha:a∈d.nodes)(hae:a.entries=[]){name:AM}{e0:BM}(he0:Cx n0.entries name=some e0)(hea:e0.2=a.ino):
    VD ⟨d.next,Bz (BZ d.nodes n0.ino name 0) a.ino⟩:=by
 obtain⟨hem,hen⟩:=Fv he0;have ha1:a.ino≠1:=by rw[←hea];exact(h.ent n0 hn0 e0 hem).2.1
 have hk:n0.kind=2:=h.dirOf hn0 hem
 have hna:n0.ino≠a.ino:=fun e=>by
  obtain rfl:=Cy h.asc hn0 ha e;rw[hae]at hem;cases hem
 have hcnt1:∀i,Bc i (BZ d.nodes n0.ino name 0)+b1 (a.ino=i)=Bc i d.nodes:=by
  intro i;have h1:=LQ h.asc hn0 name 0 i;have h2:=Sz (h.sorted n0 hn0) he0 i;rw[hea]at h2;omega
 have hcnt:∀i,Bc i (Bz (BZ d.nodes n0.ino name 0) a.ino)=Bc i (BZ d.nodes n0.ino name 0):=by
  refine fun i=>T1 (fun m hm hp=>?_) i;have hp':=of_decide_eq_false hp;obtain⟨n',hn',hw⟩:=E7 hm;have hmi:m.ino=a.ino:=Classical.byContradiction fun h=>hp' (.inl h);obtain rfl:=Cy h.asc hn' ha (hw.ino.symm.trans hmi);rw[hw.ents,if_neg (fun e=>hna e.symm),hae]
 have hkeep:∀{m:Nod},m∈BZ d.nodes n0.ino name 0→(m.ino=a.ino→0<Bc a.ino (BZ d.nodes n0.ino name 0))→m∈Bz (BZ d.nodes n0.ino name 0) a.ino:=by
  intro m hm hc;refine LU.2 ⟨hm,?_⟩;by_cases e:m.ino=a.ino
  ·exact .inr (hc e)
  exact .inl e
 have hfrom:∀{m:Nod},m∈Bz (BZ d.nodes n0.ino name 0) a.ino→(∃n'∈d.nodes,AsWas n0.ino name 0 n' m)∧m∈BZ d.nodes n0.ino name 0∧(m.ino≠a.ino∨0<Bc a.ino (BZ d.nodes n0.ino name 0)):=by
  intro m hm;obtain⟨h1,h2⟩:=LU.1 hm;exact⟨E7 h1,h1,h2⟩
 have hsub:∀{n' m:Nod} {e:BM},AsWas n0.ino name 0 n' m→e∈m.entries→e∈n'.entries:=by
  intro n' m e hw he;rw[hw.ents]at he;split at he
  ·rcases LR he with h1|h1
   ·exact h1
   exact absurd rfl h1.2
  exact he
 refine⟨?_,h.next2,h.nextM,?_,?_,?_,?_,?_,?_,?_,?_,?_,?_,?_,?_⟩
 ·have h1:(Bz (BZ d.nodes n0.ino name 0) a.ino).length≤(BZ d.nodes n0.ino name 0).length:=List.length_filter_le _ _;rw[PZ]at h1;exact Nat.le_trans h1 h.len
 ·obtain⟨r,rest,hr,h1,h2,h3⟩:=Pa n0.ino name 0 h.root;refine⟨r,rest.filter fun m=>decide (m.ino≠a.ino∨0<Bc a.ino (BZ d.nodes n0.ino name 0)),?_,h1,h2,h3⟩;show Bz (BZ d.nodes n0.ino name 0) a.ino=_;unfold Bz
  conv=>lhs;rw[hr]
  rw[List.filter_cons,if_pos (decide_eq_true (.inl (by rw[h1];exact fun e=>ha1 e.symm))),hr]
 ·exact List.Pairwise.filter _ (K6 h.asc _ _ _)
 ·intro m hm;obtain⟨⟨n',hn',hw⟩,_⟩:=hfrom hm;rw[hw.ino];exact h.lt n' hn'
 ·intro m hm;obtain⟨⟨n',hn',hw⟩,_⟩:=hfrom hm;rw[hw.plain];exact h.plain n' hn'
 ·intro m hm hk';obtain⟨⟨n',hn',hw⟩,_⟩:=hfrom hm;rw[hw.kind]at hk';obtain⟨h1,h2⟩:=h.leaf n' hn' hk';refine⟨hw.parent.trans h1,?_⟩;rw[hw.ents,if_neg,h2];intro e;obtain rfl:=Cy h.asc hn' hn0 e;exact hk' hk
 ·intro m hm;obtain⟨⟨n',hn',hw⟩,_⟩:=hfrom hm;rw[hw.ents];split
  ·rw[GQ];exact Nat.le_trans (List.length_filter_le _ _) (h.many n' hn')
  exact h.many n' hn'
 ·intro m hm;obtain⟨⟨n',hn',hw⟩,_⟩:=hfrom hm;rw[hw.ents];split
  ·exact K4 (h.sorted n' hn') _ _
  exact h.sorted n' hn'
 ·intro m hm e he;obtain⟨⟨n',hn',hw⟩,hm1,_⟩:=hfrom hm;obtain⟨k1,k2,q,hq,k3⟩:=h.ent n' hn' e (hsub hw he);obtain⟨m',hm',hw'⟩:=Hv n0.ino name 0 hq;refine⟨k1,k2,m',hkeep hm' (fun e1=>LO.2 ⟨m,hm1,e,he,?_⟩),hw'.ino.trans k3⟩;rw[←k3,←hw'.ino,e1]
 ·intro m hm h1;rw[hcnt];obtain⟨⟨n',hn',hw⟩,_,h2⟩:=hfrom hm;have h3:=hcnt1 m.ino;by_cases e:m.ino=a.ino
  ·rw[e]at h2 ⊢;rcases h2 with h2|h2
   ·exact absurd rfl h2
   exact h2
  rw[Jb (fun h=>e h.symm)]at h3;have:=h.link n' hn' (by rw[←hw.ino];exact h1);rw[←hw.ino]at this;omega
 ·intro m hm h1 h4;rw[hcnt];obtain⟨⟨n',hn',hw⟩,_,h2⟩:=hfrom hm;have h3:=hcnt1 m.ino;have h5:=h.one n' hn' (by rw[←hw.ino];exact h1) (by rw[←hw.kind];exact h4);rw[←hw.ino]at h5;by_cases e:m.ino=a.ino
  ·exfalso;rw[LT e.symm]at h3;rcases h2 with h2|h2
   ·exact h2 e
   rw[←e]at h2;omega
  rw[Jb (fun h=>e h.symm)]at h3;omega
 ·intro m hm h1 h4;obtain⟨⟨n',hn',hw⟩,_,h2⟩:=hfrom hm;obtain⟨p,hp',k1,e,he,k2⟩:=h.par n' hn' (by rw[←hw.ino];exact h1) (by rw[←hw.kind];exact h4);obtain⟨q,hq,hwq⟩:=Hv n0.ino name 0 hp'
  have hpa:p.ino≠a.ino:=fun e'=>by
   obtain rfl:=Cy h.asc hp' ha e';rw[hae]at he;cases he
  have hna':n'.ino≠a.ino:=fun e'=>by
   have h3:=hcnt1 m.ino;have h5:=h.one n' hn' (by rw[←hw.ino];exact h1) (by rw[←hw.kind];exact h4);rw[←hw.ino]at h5 e';rw[LT e'.symm]at h3;rcases h2 with h2|h2
   ·exact h2 e'
   rw[←e']at h2;omega
  refine⟨q,hkeep hq (fun e'=>absurd (hwq.ino.symm.trans e') hpa),by rw[hwq.ino,hw.parent];exact k1,e,?_,by rw[hw.ino];exact k2⟩;rw[hwq.ents];split
  ·rename_i heq;obtain rfl:=Cy h.asc hp' hn0 heq;refine LS he fun hnm=>?_;have:=Pc (h.sorted p hp') he hem (hnm.trans hen.symm);rw[this,hea]at k2;exact hna' k2.symm
  exact he
 obtain⟨rk,hrk⟩:=h.rank;refine⟨rk,fun m hm h1 h2=>?_⟩;obtain⟨⟨n',hn',hw⟩,_⟩:=hfrom hm;rw[hw.ino,hw.parent];exact hrk n' hn' (by rw[←hw.ino];exact h1) (by rw[←hw.kind];exact h2)
end Go.Proofs.YtbgnigjfkbmceaaGreatDoor
namespace Go.Proofs.YtbgnigjfkbmceaaGreatDoor
theorem T2:∀(xs l:List Int),xs.Nodup→(∀x∈xs,x∈l)→xs.length≤l.length
 |[],_,_,_=>BR _
 |x::xs,l,hd,hs=>by
   obtain⟨h1,h2⟩:=List.nodup_cons.1 hd;have hx:x∈l:=hs x (by simp);have ih:=T2 xs (l.erase x) h2 fun y hy=>(List.mem_erase_of_ne (fun e:y=x=>h1 (e ▸ hy))).2 (hs y (by simp[hy]));have hl:=List.length_erase_of_mem hx;have hp:0<l.length:=List.length_pos_of_mem hx;simp only[List.length_cons];omega
def LV(ns:List Nod):Nat→Int→Int→Prop
 |0,x,y=>x=y
 |k+1,x,y=>∃n∈ns,n.ino=x∧n.ino≠1∧n.kind=2∧LV ns k n.parent y
def FG(ns:List Nod)(x y:Int):Prop:=∃k,LV ns k x y
theorem T3{ns:List Nod}{rk:Int→Nat}(hrk:∀n∈ns,n.ino≠1→n.kind=2→rk n.parent<rk n.ino):∀(k:Nat) (x y:Int),LV ns k x y→∃l:List Int,l.length=k∧l.Nodup∧∀z∈l,(∃n∈ns,n.ino=z)∧rk y<rk z∧rk z≤rk x
 |0,_,_,_=>⟨[],rfl,List.nodup_nil,by simp⟩
 |k+1,x,y,h=>by
   obtain⟨n,hn,rfl,h1,h2,h3⟩:=h;obtain⟨l,e,hd,hl⟩:=T3 hrk k _ _ h3;have hlt:=hrk n hn h1 h2
   have hy:rk y≤rk n.parent:=by
    cases l with
    |nil=>
      have hk:k=0:=by simpa using e.symm
      subst hk;have:n.parent=y:=h3;rw[this];exact B3 _
    |cons z l=>
      have:=hl z (by simp);omega
   refine⟨n.ino::l,by simp[e],List.nodup_cons.2 ⟨fun hm=>?_,hd⟩,?_⟩
   ·have:=(hl _ hm).2.2;omega
   intro z hz;rcases List.mem_cons.1 hz with rfl|hz
   ·exact⟨⟨n,hn,rfl⟩,by omega,B3 _⟩
   obtain⟨q1,q2,q3⟩:=hl z hz;exact⟨q1,q2,by omega⟩
theorem VD.anc_len{d:Dvc}(h:VD d){k:Nat}{x:Int}{a:Nod}(ha:a∈d.nodes)(hk:LV d.nodes k x a.ino):k+1≤d.nodes.length:=by
 obtain⟨rk,hrk⟩:=h.rank;obtain⟨l,e,hd,hl⟩:=T3 hrk k x a.ino hk
 have:=T2 (a.ino::l) (d.nodes.map (·.ino)) (List.nodup_cons.2 ⟨fun hm=>by have:=(hl _ hm).2.1;omega,hd⟩) (fun z hz=>by
  rcases List.mem_cons.1 hz with rfl|hz
  ·exact List.mem_map.2 ⟨a,ha,rfl⟩
  obtain⟨n,hn,e⟩:=(hl z hz).1
  exact List.mem_map.2 ⟨n,hn,e⟩)
 simp only[List.length_cons,List.length_map]at this;omega
def Dz(p1 p2:Int)(name name2:AM)(a:Int)(n:Nod):List BM:=
 let es:=if n.ino=p1 then CP n.entries name 0 else n.entries
 if n.ino=p2 then CP es name2 a else es
def GR(p1 p2:Int)(name name2:AM)(a:Int)(n:Nod):Nod:=
 {n with entries:=Dz p1 p2 name name2 a n,parent:=if n.ino=a∧n.kind=2 then p2 else n.parent}
def DL(ns:List Nod)(p1 p2:Int)(name name2:AM)(a:Int):List Nod:=ns.map (GR p1 p2 name name2 a)
def Fw(p:Int)(n:Nod):Nod:=if n.kind=2 then{n with parent:=p}else n
theorem T4(ns:List Nod)(p1 p2:Int)(name name2:AM)(a:Int):CR (BZ (BZ ns p1 name 0) p2 name2 a) a (Fw p2)=DL ns p1 p2 name name2 a:=by
 unfold BZ CR DL;rw[List.map_map,List.map_map];apply List.map_congr_left;intro n _;obtain⟨ino,kind,mode,uid,gid,parent,target,entries⟩:=n;simp only[Function.comp];unfold GR Dz LP Fw;by_cases h1:ino=p1<;>by_cases h2:ino=p2<;>by_cases h3:ino=a<;>by_cases h4:kind=2<;>simp[h1,h2,h3,h4]<;>(try simp_all)
theorem Y0{es:List BM}{name name2:AM}(h:name≠name2):Cx (Ds name es) name2=Cx es name2:=by
 unfold Cx Ds;rw[List.find?_filter]
 congr 1
 funext e
 by_cases h2:e.1=name2
 ·have:e.1≠name:=fun e'=>h (e'.symm.trans h2);simp[h2];intro e';exact h e'.symm
 simp[h2]
end Go.Proofs.YtbgnigjfkbmceaaGreatDoor
namespace Go.Proofs.YtbgnigjfkbmceaaGreatDoor
section
variable {p1 p2:Int}{name name2:AM}{a:Int}{n:Nod}
theorem Y1{e:BM}(h:e∈Dz p1 p2 name name2 a n):e∈n.entries∨(n.ino=p2∧e=(name2,a)):=by
 unfold Dz at h
 have base:∀{x:BM},x∈(if n.ino=p1 then CP n.entries name 0 else n.entries)→x∈n.entries:=by
  intro x hx;split at hx
  ·rcases LR hx with h1|h1
   ·exact h1
   exact absurd rfl h1.2
  exact hx
 simp only at h;split at h
 ·rename_i h2;rcases LR h with h1|h1
  ·exact .inl (base h1)
  exact .inr ⟨h2,h1.1⟩
 exact .inl (base h)
theorem Y2{e:BM}(h:e∈n.entries)(h1:n.ino=p1→e.1≠name)(h2:n.ino=p2→e.1≠name2):e∈Dz p1 p2 name name2 a n:=by
 unfold Dz
 have base:e∈(if n.ino=p1 then CP n.entries name 0 else n.entries):=by
  split
  ·rename_i e1;exact LS h (h1 e1)
  exact h
 simp only;split
 ·rename_i e2;exact LS base (h2 e2)
 exact base
theorem Y3(h:n.ino=p2)(ha:a≠0):(name2,a)∈Dz p1 p2 name name2 a n:=by
 unfold Dz;simp only[h,if_true];exact T0 ha
theorem Y4(h:EQ n.entries):EQ (Dz p1 p2 name name2 a n):=by
 unfold Dz
 have base:EQ (if n.ino=p1 then CP n.entries name 0 else n.entries):=by
  split
  ·exact K4 h _ _
  exact h
 simp only;split
 ·exact K4 base _ _
 exact base
end
open Classical in
noncomputable def LW (S:Int→Prop) (rk:Int→Nat) (c:Nat) (x:Int):Nat:=if S x then rk x+c else rk x
theorem Pd{S:Int→Prop}{rk:Int→Nat}{c:Nat}{x:Int}(h:S x):LW S rk c x=rk x+c:=by unfold LW;rw[if_pos h]
theorem Pe{S:Int→Prop}{rk:Int→Nat}{c:Nat}{x:Int}(h:¬S x):LW S rk c x=rk x:=by unfold LW;rw[if_neg h]
theorem VD.renamed{d:Dvc}(h:VD d){n1 n2 a:Nod}(hn1:n1∈d.nodes)(hn2:n2∈d.nodes)(ha:a∈d.nodes)(hk2:n2.kind=2){name name2:AM}{e1:BM}(he1:Cx n1.entries name=some e1)(hea:e1.2=a.ino)
    (hname2:D4 name2=true) (hdiff:n1.ino=n2.ino→name≠name2) (hanc:a.kind=2→¬FG d.nodes n2.ino a.ino) {oi:Int}
    (ho:(Cx n2.entries name2=none∧(n2.entries.length<12∨n1.ino=n2.ino)∧oi=0)∨(∃eo o,Cx n2.entries name2=some eo∧o∈d.nodes∧eo.2=oi∧o.ino=oi∧oi≠a.ino∧o.entries=[])):
    VD ⟨d.next,Bz (DL d.nodes n1.ino n2.ino name name2 a.ino) oi⟩:=by
 obtain⟨hem,hen⟩:=Fv he1;have ha1:a.ino≠1:=by rw[←hea];exact(h.ent n1 hn1 e1 hem).2.1
 have ha0:a.ino≠0:=by have:=h.pos ha;omega
 have hoa:oi≠a.ino:=by
  rcases ho with⟨_,_,h1⟩|⟨_,_,_,_,_,_,h1,_⟩
  ·omega
  exact h1
 have ho1:oi≠1:=by
  rcases ho with⟨_,_,h1⟩|⟨eo,o,h1,_,h2,_⟩
  ·omega
  obtain⟨q1,_⟩:=Fv h1;rw[←h2];exact(h.ent n2 hn2 eo q1).2.1
 have hoe:∀m∈d.nodes,m.ino=oi→m.entries=[]:=by
  intro m hm e;rcases ho with⟨_,_,h1⟩|⟨eo,o,_,h1,_,h2,_,h3⟩
  ·have:=h.pos hm;omega
  obtain rfl:=Cy h.asc hm h1 (by omega);exact h3
 have hm2:=Hv n1.ino name 0 hn2;obtain⟨m2,hm2,hw2⟩:=hm2
 have hf2:Cx m2.entries name2=Cx n2.entries name2:=by
  rw[hw2.ents];split
  ·rename_i e;rw[GQ,Y0 (hdiff e.symm)]
  rfl
 have hasc1:=K6 h.asc n1.ino name 0;have hasc2:=K6 hasc1 n2.ino name2 a.ino
 have hsort2:EQ m2.entries:=by
  rw[hw2.ents];split
  ·exact K4 (h.sorted n2 hn2) _ _
  exact h.sorted n2 hn2
 have hcntR:∀i,1≤i→Bc i (DL d.nodes n1.ino n2.ino name name2 a.ino)+b1 (oi=i)=Bc i d.nodes:=by
  intro i hi;have c1:=LQ h.asc hn1 name 0 i;have c2:=Sz (h.sorted n1 hn1) he1 i;rw[hea]at c2;have c3:=LQ hasc1 hm2 name2 a.ino i;rw[hw2.ino]at c3;obtain⟨m',hm',hw'⟩:=Hv n1.ino name 0 ha;obtain⟨m'',hm'',hw''⟩:=Hv (ns:=BZ d.nodes n1.ino name 0) n2.ino name2 a.ino hm';have c4:=PX hasc2 hm'' (Fw n2.ino) i;have e4:(Fw n2.ino m'').entries=m''.entries:=by unfold Fw;split<;>rfl
  rw[e4,hw''.ino,hw'.ino,T4]at c4;rcases ho with⟨h1,_,h2⟩|⟨eo,o,h1,_,h2,_⟩
  ·have c5:=Pb (hf2.trans h1) ha0 i;rw[Jb (show¬oi=i by omega)];omega
  have c5:=Xz hsort2 (hf2.trans h1) ha0 i;rw[h2]at c5;omega
 have hmem:∀{m:Nod},m∈Bz (DL d.nodes n1.ino n2.ino name name2 a.ino) oi→(∃n∈d.nodes,m=GR n1.ino n2.ino name name2 a.ino n)∧m∈DL d.nodes n1.ino n2.ino name name2 a.ino∧(m.ino≠oi∨0<Bc oi (DL d.nodes n1.ino n2.ino name name2 a.ino)):=by
  intro m hm;obtain⟨q1,q2⟩:=LU.1 hm;obtain⟨n,hn,e⟩:=List.mem_map.1 q1;exact⟨⟨n,hn,e.symm⟩,q1,q2⟩
 have hkeep:∀{n:Nod},n∈d.nodes→(n.ino=oi→0<Bc oi (DL d.nodes n1.ino n2.ino name name2 a.ino))→GR n1.ino n2.ino name name2 a.ino n∈Bz (DL d.nodes n1.ino n2.ino name name2 a.ino) oi:=by
  intro n hn hc;refine LU.2 ⟨List.mem_map.2 ⟨n,hn,rfl⟩,?_⟩;by_cases e:n.ino=oi
  ·exact .inr (hc e)
  exact .inl e
 have hcnt:∀i,Bc i (Bz (DL d.nodes n1.ino n2.ino name name2 a.ino) oi)=Bc i (DL d.nodes n1.ino n2.ino name name2 a.ino):=by
  refine fun i=>T1 (fun m hm hp=>?_) i;have hp':=of_decide_eq_false hp;obtain⟨n,hn,rfl⟩:=List.mem_map.1 hm;have hmi:n.ino=oi:=Classical.byContradiction fun h=>hp' (.inl h);have h0:=hoe n hn hmi
  have q1:n.ino≠n1.ino:=fun e=>by
   obtain rfl:=Cy h.asc hn hn1 e;rw[h0]at hem;cases hem
  have q2:n.ino≠n2.ino:=fun e=>by
   obtain rfl:=Cy h.asc hn hn2 e;rcases ho with⟨_,_,h1⟩|⟨eo,o,h1,_⟩
   ·have:=h.pos hn;omega
   obtain⟨q,_⟩:=Fv h1;rw[h0]at q;cases q
  show Dz n1.ino n2.ino name name2 a.ino n=[];unfold Dz;simp only[q1,q2,if_false];exact h0
 have hdo:∀{n:Nod},n∈d.nodes→n.ino≠1→n.kind=2→(n.ino≠oi∨0<Bc oi (DL d.nodes n1.ino n2.ino name name2 a.ino))→n.ino≠oi:=by
  intro n hn h1 h2 hc e;rcases hc with hc|hc
  ·exact hc e
  have c1:=h.one n hn h1 h2;have c2:=hcntR n.ino (h.pos hn);rw[LT e.symm]at c2;rw[←e]at hc;omega
 refine⟨?_,h.next2,h.nextM,?_,?_,?_,?_,?_,?_,?_,?_,?_,?_,?_,?_⟩
 ·have q1:(Bz (DL d.nodes n1.ino n2.ino name name2 a.ino) oi).length≤(DL d.nodes n1.ino n2.ino name name2 a.ino).length:=List.length_filter_le _ _;have q2:(DL d.nodes n1.ino n2.ino name name2 a.ino).length=d.nodes.length:=by simp[DL]
  have:=h.len;show(Bz _ _).length≤16;omega
 ·obtain⟨r,rest,hr,h1,h2,h3⟩:=h.root;refine⟨GR n1.ino n2.ino name name2 a.ino r,(rest.map (GR n1.ino n2.ino name name2 a.ino)).filter fun m=>decide (m.ino≠oi∨0<Bc oi (DL d.nodes n1.ino n2.ino name name2 a.ino)),?_,h1,h2,?_⟩
  ·show Bz (DL d.nodes n1.ino n2.ino name name2 a.ino) oi=_;have e:DL d.nodes n1.ino n2.ino name name2 a.ino=GR n1.ino n2.ino name name2 a.ino r::rest.map (GR n1.ino n2.ino name name2 a.ino):=by unfold DL;rw[hr];rfl
   unfold Bz
   conv=>lhs;arg 2;rw[e]
   rw[List.filter_cons,if_pos (decide_eq_true (.inl (by show r.ino≠oi;rw[h1];exact fun e=>ho1 e.symm)))]
  show(if r.ino=a.ino∧r.kind=2 then n2.ino else r.parent)=1;rw[if_neg (fun e=>ha1 (by rw[←e.1];exact h1))];exact h3
 ·refine List.Pairwise.filter _ ?_;show DS (DL d.nodes n1.ino n2.ino name name2 a.ino);rw[PW]
  have e:(DL d.nodes n1.ino n2.ino name name2 a.ino).map (·.ino)=d.nodes.map (·.ino):=by
   unfold DL;rw[List.map_map];rfl
  rw[e,←PW];exact h.asc
 ·intro m hm;obtain⟨⟨n,hn,rfl⟩,_⟩:=hmem hm;exact h.lt n hn
 ·intro m hm;obtain⟨⟨n,hn,rfl⟩,_⟩:=hmem hm;exact h.plain n hn
 ·intro m hm hk;obtain⟨⟨n,hn,rfl⟩,_⟩:=hmem hm;have hk':n.kind≠2:=hk;obtain⟨q1,q2⟩:=h.leaf n hn hk';refine⟨?_,?_⟩
  ·show(if n.ino=a.ino∧n.kind=2 then n2.ino else n.parent)=0;rw[if_neg (fun e=>hk' e.2)];exact q1
  show Dz n1.ino n2.ino name name2 a.ino n=[]
  have r1:n.ino≠n1.ino:=fun e=>by
   obtain rfl:=Cy h.asc hn hn1 e;rw[q2]at hem;cases hem
  have r2:n.ino≠n2.ino:=fun e=>by
   obtain rfl:=Cy h.asc hn hn2 e;exact hk' hk2
  unfold Dz;simp only[r1,r2,if_false];exact q2
 ·intro m hm;obtain⟨⟨n,hn,rfl⟩,_⟩:=hmem hm;show(Dz n1.ino n2.ino name name2 a.ino n).length≤12;by_cases q2:n.ino=n2.ino
  ·obtain rfl:=Cy h.asc hn hn2 q2
   have e2:Dz n1.ino n.ino name name2 a.ino n=CP m2.entries name2 a.ino:=by
    unfold Dz;simp only[if_true];rw[hw2.ents]
   rw[e2,(Gx _ name2 ha0).length_eq,List.length_cons];rcases ho with⟨h1,h2,_⟩|⟨eo,o,h1,_⟩
   ·rw[N5 (hf2.trans h1),hw2.ents];rcases h2 with h2|h2
    ·split
     ·rw[GQ];have:(Ds name n.entries).length≤n.entries.length:=List.length_filter_le _ _;omega
     omega
    rw[if_pos h2.symm,GQ];obtain rfl:=Cy h.asc hn1 hn h2;have:=(N6 (h.sorted n1 hn1) he1).length_eq;rw[List.length_cons]at this;have:=h.many n1 hn1;omega
   have c1:=(N6 hsort2 (hf2.trans h1)).length_eq;rw[List.length_cons]at c1
   have c2:m2.entries.length≤n.entries.length:=by
    rw[hw2.ents];split
    ·rw[GQ];exact List.length_filter_le _ _
    exact B3 _
   have:=h.many n hn;omega
  unfold Dz;simp only[q2,if_false];split
  ·rw[GQ];exact Nat.le_trans (List.length_filter_le _ _) (h.many n hn)
  exact h.many n hn
 ·intro m hm;obtain⟨⟨n,hn,rfl⟩,_⟩:=hmem hm;exact Y4 (h.sorted n hn)
 ·intro m hm e he;obtain⟨⟨n,hn,rfl⟩,hmR,_⟩:=hmem hm;have he':e∈Dz n1.ino n2.ino name name2 a.ino n:=he;rcases Y1 he' with q|⟨_,rfl⟩
  ·obtain⟨k1,k2,x,hx,k3⟩:=h.ent n hn e q;refine⟨k1,k2,_,hkeep hx (fun e1=>LO.2 ⟨_,hmR,e,he,?_⟩),k3⟩;rw[←k3,e1]
  exact⟨hname2,ha1,_,hkeep ha (fun e1=>absurd e1.symm hoa),rfl⟩
 ·intro m hm h1;rw[hcnt];obtain⟨⟨n,hn,rfl⟩,_,hc⟩:=hmem hm;have h1':n.ino≠1:=h1;show 0<Bc n.ino _;have c1:=hcntR n.ino (h.pos hn);by_cases e:n.ino=oi
  ·rcases hc with hc|hc
   ·exact absurd e hc
   rw[e];exact hc
  rw[Jb (fun h=>e h.symm)]at c1;have:=h.link n hn h1';omega
 ·intro m hm h1 h2;rw[hcnt];obtain⟨⟨n,hn,rfl⟩,_,hc⟩:=hmem hm;have h1':n.ino≠1:=h1;have h2':n.kind=2:=h2;show Bc n.ino _=1;have c1:=hcntR n.ino (h.pos hn);rw[Jb (fun e=>hdo hn h1' h2' hc e.symm)]at c1;have:=h.one n hn h1' h2';omega
 ·intro m hm h1 h2;obtain⟨⟨n,hn,rfl⟩,_,hc⟩:=hmem hm;have h1':n.ino≠1:=h1;have h2':n.kind=2:=h2;have hno:=hdo hn h1' h2' hc;by_cases hna:n.ino=a.ino
  ·refine⟨_,hkeep hn2 (fun e=>?_),?_,(name2,a.ino),Y3 rfl ha0,hna.symm⟩
   ·exfalso;rcases ho with⟨_,_,q⟩|⟨eo,o,q,_⟩
    ·have:=h.pos hn2;omega
    obtain⟨q1,_⟩:=Fv q;rw[hoe n2 hn2 e]at q1;cases q1
   show n2.ino=if n.ino=a.ino∧n.kind=2 then n2.ino else n.parent
   rw[if_pos ⟨hna,h2'⟩]
  obtain⟨p,hp,k1,e,he,k2⟩:=h.par n hn h1' h2';refine⟨_,hkeep hp (fun e'=>?_),?_,e,Y2 he (fun e' hnm=>?_) (fun e' hnm=>?_),k2⟩
  ·exfalso;rw[hoe p hp e']at he;cases he
  ·show p.ino=if n.ino=a.ino∧n.kind=2 then n2.ino else n.parent
   rw[if_neg (fun q=>hna q.1)];exact k1
  ·obtain rfl:=Cy h.asc hp hn1 e';have:=Pc (h.sorted p hp) he hem (hnm.trans hen.symm);rw[this,hea]at k2;exact hna k2.symm
  obtain rfl:=Cy h.asc hp hn2 e';rcases ho with⟨q,_⟩|⟨eo,o,q,_,q2,_⟩
  ·exact N4 q e he hnm
  obtain⟨r1,r2⟩:=Fv q;have:=Pc (h.sorted p hp) he r1 (hnm.trans r2.symm);rw[this,q2]at k2;exact hno k2.symm
 obtain⟨rk,hrk⟩:=h.rank;by_cases hka:a.kind=2
 ·have hS:=hanc hka;refine⟨LW (fun x=>FG d.nodes x a.ino) rk (rk n2.ino+1),fun m hm h1 h2=>?_⟩;obtain⟨⟨n,hn,rfl⟩,_,_⟩:=hmem hm;have h1':n.ino≠1:=h1;have h2':n.kind=2:=h2;have eP:(GR n1.ino n2.ino name name2 a.ino n).parent=if n.ino=a.ino∧n.kind=2 then n2.ino else n.parent:=rfl
  have eI:(GR n1.ino n2.ino name name2 a.ino n).ino=n.ino:=rfl;rw[eP,eI];by_cases hna:n.ino=a.ino
  ·rw[if_pos ⟨hna,h2'⟩,Pe (S:=fun x=>FG d.nodes x a.ino) hS,Pd (S:=fun x=>FG d.nodes x a.ino) (show FG d.nodes n.ino a.ino from⟨0,hna⟩)];omega
  have hlt:=hrk n hn h1' h2';rw[if_neg (fun q=>hna q.1)];by_cases hA:FG d.nodes n.ino a.ino
  ·have hP:FG d.nodes n.parent a.ino:=by
      obtain⟨k,hk⟩:=hA
      cases k with
      |zero=>exact absurd hk hna
      |succ k=>
        obtain⟨n',hn',e1,_,_,q⟩:=hk;obtain rfl:=Cy h.asc hn' hn e1;exact⟨k,q⟩
   rw[Pd (S:=fun x=>FG d.nodes x a.ino) hP,Pd (S:=fun x=>FG d.nodes x a.ino) hA];omega
  have hP:¬FG d.nodes n.parent a.ino:=fun⟨k,hk⟩=>hA ⟨k+1,n,hn,rfl,h1',h2',hk⟩;rw[Pe (S:=fun x=>FG d.nodes x a.ino) hP,Pe (S:=fun x=>FG d.nodes x a.ino) hA];exact hlt
 refine⟨rk,fun m hm h1 h2=>?_⟩;obtain⟨⟨n,hn,rfl⟩,_,_⟩:=hmem hm;have h2':n.kind=2:=h2;show rk (if n.ino=a.ino∧n.kind=2 then n2.ino else n.parent)<rk n.ino
 rw[if_neg (fun q=>hka (by
  obtain rfl:=Cy h.asc hn ha q.1
  exact q.2))]
 exact hrk n hn h1 h2'
end Go.Proofs.YtbgnigjfkbmceaaGreatDoor
namespace Go.Proofs.YtbgnigjfkbmceaaGreatDoor
open Go.RowKit
theorem Y5(n:Nat):∀j,FY [] n j=some (n+j):=fun j=>by simp[FY]
theorem K7{bx:List (List AV)}{n:Nat}(hn:bx.length=n)(f:Af)(q:Nat)(d:Dvc)(ns:List Nod)(cap cap1:Nat):Back bx [] [DB f q d 1 cap cap1,NB ns cap1] (bx++[DB f q d (n+1) cap cap1,NB ns cap1]):=by
 subst hn;refine⟨by simp,fun i row _ h=>?_,fun k i row h=>by simp at h,fun k row h=>?_⟩
 ·rw[CT (Al.1 h).1];exact h
 rw[DC (by omega),show bx.length+k - bx.length=k by omega];simp only[List.length_nil,Nat.zero_add]at h
 match k,h with
 |0,h=>injection h with h;subst h;rw[FE (Y5 _ 1)];rfl
 |1,h=>injection h with h;subst h;rw[Et];rfl
 |k+2,h=>simp at h
theorem K8{bx:List (List AV)}{i0 i1:Nat}(h0:i0<bx.length)(h1:i1<bx.length)(hne:i0≠i1)(f:Af)(q:Nat)(d:Dvc)(ns:List Nod)(cap cap1 cap1':Nat):
    Back bx [i0,i1] [DB f q d 1 cap cap1,NB ns cap1'] ((bx.set i0 (DB f q d i1 cap cap1)).set i1 (NB ns cap1')):=by
 refine⟨by simp,fun i row hi h=>?_,fun k i row h hr=>?_,fun k row h=>by simp at h⟩
 ·simp only[List.mem_cons,List.not_mem_nil,or_false,not_or]at hi;rw[List.getElem?_set_ne (Ne.symm hi.2),List.getElem?_set_ne (Ne.symm hi.1)];exact h
 match k,h,hr with
 |0,h,hr=>
   simp at h hr;subst h;subst hr;rw[List.getElem?_set_ne (Ne.symm hne),List.getElem?_set_self h0,FE (g:=FY [i0,i1] bx.length) (j:=1) (j':=i1) rfl]
 |1,h,hr=>
   simp at h hr;subst h;subst hr;rw[List.getElem?_set_self (by simpa using h1),Et]
 |k+2,h,_=>simp at h
theorem Pg{bx:List (List AV)}{n i0 i1:Nat}(hn:bx.length=n)(h0:i0<n)(h1:i1<n)(hne:i0≠i1)(f:Af)(q:Nat)(d:Dvc)(ns ns':List Nod)(a:AG)(l cap0 cap cap1 cap2:Nat):
    Back bx [i0,i1] [DB f q d 4 cap cap2,NB ns cap1,[.bs 0 0 2 l cap0],AF a,NB ns' cap2] ((bx.set i0 (DB f q d (n+2) cap cap2)).set i1 (NB ns cap1)++[[.bs i0 0 2 l cap0],AF a,NB ns' cap2]):=by
 subst hn;have hl:((bx.set i0 (DB f q d (bx.length+2) cap cap2)).set i1 (NB ns cap1)).length=bx.length:=by simp
 refine⟨by simp,fun i row hi h=>?_,fun k i row h hr=>?_,fun k row h=>?_⟩
 ·simp only[List.mem_cons,List.not_mem_nil,or_false,not_or]at hi;rw[CT (by rw[hl];exact(Al.1 h).1),List.getElem?_set_ne (Ne.symm hi.2),List.getElem?_set_ne (Ne.symm hi.1)];exact h
 ·match k,h,hr with
  |0,h,hr=>
    simp at h hr;subst h;subst hr;rw[CT (by rw[hl];exact h0),List.getElem?_set_ne (Ne.symm hne),List.getElem?_set_self h0,FE (g:=FY [i0,i1] bx.length) (j:=4) (j':=bx.length+2) rfl]
  |1,h,hr=>
    simp at h hr;subst h;subst hr;rw[CT (by rw[hl];exact h1),List.getElem?_set_self (by simpa using h1),Et]
  |k+2,h,_=>simp at h
 rw[DC (by rw[hl];omega),hl,show bx.length+k - bx.length=k by omega]
 match k,h with
 |0,h=>injection h with h;subst h;rfl
 |1,h=>injection h with h;subst h;rfl
 |2,h=>injection h with h;subst h;rw[Et];rfl
 |k+3,h=>rw[List.getElem?_eq_none (by simp;omega)]at h;cases h
theorem Ph{bx:List (List AV)}{n i0 i1:Nat}(hn:bx.length=n)(h0:i0<n)(h1:i1<n)(hne:i0≠i1)(f:Af)(q:Nat)(d:Dvc)(ns:List Nod)(a:AG)(l cap0 cap cap1 cap1':Nat):
    Back bx [i0,i1] [DB f q d 1 cap cap1,NB ns cap1',[.bs 0 0 2 l cap0],AF a] ((bx.set i0 (DB f q d i1 cap cap1)).set i1 (NB ns cap1')++[[.bs i0 0 2 l cap0],AF a]):=by
 subst hn;have hl:((bx.set i0 (DB f q d i1 cap cap1)).set i1 (NB ns cap1')).length=bx.length:=by simp
 refine⟨by simp,fun i row hi h=>?_,fun k i row h hr=>?_,fun k row h=>?_⟩
 ·simp only[List.mem_cons,List.not_mem_nil,or_false,not_or]at hi;rw[CT (by rw[hl];exact(Al.1 h).1),List.getElem?_set_ne (Ne.symm hi.2),List.getElem?_set_ne (Ne.symm hi.1)];exact h
 ·match k,h,hr with
  |0,h,hr=>
    simp at h hr;subst h;subst hr;rw[CT (by rw[hl];exact h0),List.getElem?_set_ne (Ne.symm hne),List.getElem?_set_self h0,FE (g:=FY [i0,i1] bx.length) (j:=1) (j':=i1) rfl]
  |1,h,hr=>
    simp at h hr;subst h;subst hr;rw[CT (by rw[hl];exact h1),List.getElem?_set_self (by simpa using h1),Et]
  |k+2,h,_=>simp at h
 rw[DC (by rw[hl];omega),hl,show bx.length+k - bx.length=k by omega]
 match k,h with
 |0,h=>injection h with h;subst h;rfl
 |1,h=>injection h with h;subst h;rfl
 |k+2,h=>rw[List.getElem?_eq_none (by simp;omega)]at h;cases h
theorem T5{f:Af}{q:Nat}{d d':Dvc}(hn:d'.next=d.next)(hl:d'.nodes.length=d.nodes.length)(j cap cap1:Nat):DB f q d j cap cap1=DB (f.set q d') q d' j cap cap1:=by
 unfold DB EP Ff;rw[List.map_set,List.set_set,hn,hl]
theorem Fh{n:Nat}{bx:List (List AV)}{k i j:Nat}{f:Af}{q:Nat}{d d':Dvc}{cap cap0 cap1:Nat}(hq:q<f.length)(hn:d'.next=d.next)(hl:d'.nodes.length=d.nodes.length)(hc:f.length≤cap)(hc1:d'.nodes.length≤cap1)(hni:n≤i)(hnj:n≤j)
    (hi:bx[i]?=some (DB f q d j cap cap1)) (hj:bx[j]?=some (NB d'.nodes cap1)):F6 n (D3 n bx (k+2)) [.bs i 0 2 f.length cap0]=At (f.set q d'):=by
 have:Nat.blt i n=false:=by rw[←Bool.not_eq_true,Nat.blt_eq];omega
 have key:=Ht (n:=n) (bx:=bx) (k:=k) (i:=i) (j:=j) (f:=f.set q d') (K:=q) (d:=d') (cap:=cap) (cap0:=cap0) (cap1:=cap1) (by simp[hq]) (by simpa using hc) hc1 hni hnj (by rw[hi,T5 hn hl]) hj;rw[List.length_set]at key;have key2:AV.agg [DR (D3 n bx (k+2)) (.bs i 0 2 f.length cap0)]=AV.agg (At (f.set q d')):=key;have e:F6 n (D3 n bx (k+2)) [.bs i 0 2 f.length cap0]=[DR (D3 n bx (k+2)) (.bs i 0 2 f.length cap0)]:=by simp only[F6,ED,this]
 rw[e];injection key2
structure FlsV(f:Af):Prop where
 few:f.length≤3
 vd:∀d∈f,VD d
theorem FlsV.b{f:Af}(h:FlsV f):FlsB f:=⟨by have:=h.few;omega,fun d hd=>by have:=(h.vd d hd).len;omega,fun d hd n hn=>by have:=(h.vd d hd).many n hn;omega⟩
theorem LX{ns:List Nod}(h:DS ns){i:Nat}{n:Nod}(hi:ns[i]?=some n)(g:Nod→Nod):ns.set i (g n)=CR ns n.ino g:=by
 apply List.ext_getElem?;intro k;unfold CR;rw[List.getElem?_map,List.getElem?_set];have hil:=(Al.1 hi).1;split
 ·rename_i e;subst e;rw[hi];simp[hil]
 rename_i e
 cases hk:ns[k]? with
 |none=>rfl
 |some m=>
   have:m.ino≠n.ino:=by
    intro em;obtain⟨l1,e1⟩:=Al.1 hi;obtain⟨l2,e2⟩:=Al.1 hk;have hp:=List.pairwise_iff_getElem.1 h;rcases Nat.lt_or_gt_of_ne e with hlt|hlt
    ·have:=hp i k l1 l2 hlt;rw[e1,e2]at this;omega
    have:=hp k i l2 l1 hlt;rw[e1,e2]at this;omega
   simp[this]
def GS(f:Af)(q:Nat)(g:List Nod→List Nod):Af:=f.modify q fun d=>{d with nodes:=g d.nodes}
theorem Fi{f:Af}{q:Nat}{d:Dvc}(h:f[q]?=some d)(g:List Nod→List Nod):GS f q g=f.set q {d with nodes:=g d.nodes}:=by
 apply List.ext_getElem?;intro k;unfold GS;rw[List.getElem?_modify,List.getElem?_set];split
 ·rename_i e;subst e;rw[h];simp[(Al.1 h).1]
 simp
theorem Fj{f:Af}{dir:AG}{name:AM}(h:CF f dir name=0):∃(q i:Nat) (d:Dvc) (n0:Nod),dir.1=(q:Int)∧f[q]?=some d∧d.nodes[i]?=some n0∧n0.ino=dir.2∧EO f dir=(i:Int)∧Bp f dir=some n0∧n0.kind=2∧D4 name=true:=by
 rcases Gi f dir with⟨_,h2⟩|⟨q,i,d,n,h1,h2,h3,h4,h5,h6⟩
 ·simp[CF,h2]at h
 refine⟨q,i,d,n,h1,h2,h3,h4,h5,h6,?_⟩;simp only[CF,h6]at h;split at h
 ·rename_i hk;split at h
  ·rename_i hn;exact⟨hk,hn⟩
  omega
 omega
def CS(R:JR):AV:= .tup [.agg (At R.1), .sl 7 (R.2.1.map EH) none, .v (.int .i64 R.2.2)]
theorem Cz(e:Int):LeA (.tup [.agg [.v (.slice none 0 0)], .v (.slice none 0 0), .v (.int .i64 e)]) (CS ([],[],e)):=(by repeat (first|exact AZ _|exact LeA.nil _|exact LeL.refl _|refine LeA.agg ?_|refine LeA.tup ?_|exact LeL.nil|refine LeL.cons ?_ ?_|exact LeA.any _))
def ER(f:Af)(dir:AG)(name:AM)(a:AG):JR:=
 if CF f dir name≠0 then([],[],CF f dir name)else if Ck f a=false then([],[],2)else if a.1≠dir.1 then([],[],18)else if(Au f a).kind=2 then([],[],1)else
 if(AU f dir name).2=0 then([],[],17)else if Gk f dir=true then([],[],28)else(GS f dir.1.toNat fun ns=>BZ ns dir.2 name a.2,[(dir,name,(0,0),a)],0)
section
theorem Y6(f:Af)(dir:AG)(name:AM)(a:AG)(hv:FlsV f)(hs:name.size≤100000):AFn prog 172 [.agg (At f), .agg (AF dir), .v (.string name), .agg (AF a)] (fun r=>r=CS (ER f dir name a)):=by
 have hf:=hv.b;refine enter Tryz.func172 rfl rfl rfl rfl rfl 0 rfl ?_;refine w_ (b_ (h:=b_ (h:=b_ (h:=Aa (h:=a_ (h:=a_ (h:=e_ (q_ (w_ (l_ (h:=l_ (h:=m_ (h:=?_)))))))))))));refine A6 rfl (AB (Jv f dir name hf hs) ?_);rintro r rfl;refine a_ (h:=e_ (w_ (m_ (h:=Ao (h:=e_ (?_))))));refine A9 rfl (fun hb1=>?_) (fun hb1=>?_)
 ·have hc1:=bp hb1;refine w_ (AX (h:=m_ (h:=s_ (h:=a_ (h:=a_ (h:=e_ (A4 (A8 (?_)))))))));refine Av (r:=CS (ER f dir name a)) none (h5:=?_) (h6:=⟨rfl,rfl,rfl⟩);rw[ER,if_pos (by omega)];exact Cz _
 have hc1:=bp hb1;refine AD (w_ (l_ (h:=l_ (h:=?_))));refine A6 rfl (AB (Ec f a hf) ?_);rintro r rfl;refine m_ (h:=x_ (h:=x_ (h:=Aa (h:=s_ (h:=a_ (h:=e_ (q_ (w_ (m_ (h:=B7 (h:=e_ (?_))))))))))));refine A9 rfl (fun hb2=>?_) (fun hb2=>?_)
 ·have hc2:=bp hb2;refine w_ (AX (h:=s_ (h:=a_ (h:=a_ (h:=e_ (A4 (A8 (?_))))))));refine Av (r:=CS (ER f dir name a)) none (h5:=?_) (h6:=⟨rfl,rfl,rfl⟩);rw[ER,if_neg (by omega),if_pos hc2];exact Cz _
 have hc2:=bp hb2;refine AD (q_ (w_ (f_ (h:=l_ (h:=f_ (h:=l_ (h:=Ao (h:=e_ (?_)))))))));refine A9 rfl (fun hb3=>?_) (fun hb3=>?_)
 ·have hc3:=bp hb3;refine w_ (AX (h:=s_ (h:=a_ (h:=a_ (h:=e_ (A4 (A8 (?_))))))));refine Av (r:=CS (ER f dir name a)) none (h5:=?_) (h6:=⟨rfl,rfl,rfl⟩);rw[ER,if_neg (by omega),if_neg (by simp[hc2]),if_pos (by omega)];exact Cz _
 have hc3:=bp hb3;refine AD (q_ (w_ (f_ (h:=l_ (h:=AK (h:=e_ (?_)))))));refine A9 rfl (fun hb4=>?_) (fun hb4=>?_)
 ·have hc4:=bp hb4;refine w_ (AX (h:=s_ (h:=a_ (h:=a_ (h:=e_ (A4 (A8 (?_))))))));refine Av (r:=CS (ER f dir name a)) none (h5:=?_) (h6:=⟨rfl,rfl,rfl⟩);rw[ER,if_neg (by omega),if_neg (by simp[hc2]),if_neg (by omega),if_pos hc4];exact Cz _
 have hc4:=bp hb4;refine AD (q_ (w_ (l_ (h:=l_ (h:=m_ (h:=?_))))));refine A6 rfl (AB (Hm f dir name hf) ?_);rintro r rfl;refine m_ (h:=x_ (h:=x_ (h:=Aa (h:=s_ (h:=a_ (h:=e_ (w_ (m_ (h:=AK (h:=e_ (?_)))))))))));refine A9 rfl (fun hb5=>?_) (fun hb5=>?_)
 ·have hc5:=bp hb5;refine w_ (AX (h:=s_ (h:=a_ (h:=a_ (h:=e_ (A4 (A8 (?_))))))));refine Av (r:=CS (ER f dir name a)) none (h5:=?_) (h6:=⟨rfl,rfl,rfl⟩);rw[ER,if_neg (by omega),if_neg (by simp[hc2]),if_neg (by omega),if_neg hc4,if_pos hc5];exact Cz _
 have hc5:=bp hb5;refine AD (q_ (w_ (l_ (h:=l_ (h:=?_)))));refine A6 rfl (AB (Ok f dir hf) ?_);rintro r rfl;refine e_ (?_);refine A9 rfl (fun hb6=>?_) (fun hb6=>?_)
 ·have hc6:=bp hb6;refine w_ (AX (h:=s_ (h:=a_ (h:=a_ (h:=e_ (A4 (A8 (?_))))))));refine Av (r:=CS (ER f dir name a)) none (h5:=?_) (h6:=⟨rfl,rfl,rfl⟩);rw[ER,if_neg (by omega),if_neg (by simp[hc2]),if_neg (by omega),if_neg hc4,if_neg hc5,if_pos hc6];exact Cz _
 have hc6:=bp hb6;obtain⟨q,i,d,n0,hdq,hq,hn0,hino,hidx,hnode,hk0,hnm⟩:=Fj (name:=name) (dir:=dir) (f:=f) (by omega);have hil:=(Al.1 hn0).1;have hql:=(Al.1 hq).1;refine AD (w_ (l_ (h:=?_)));refine A6 rfl (EM [] rfl (.cons _ _ _ _ _ rfl (AZ _) .nil) (by decide) .nil (K1 f q d hf hq (by omega)) ?_);rintro r bc tc ⟨rfl,cap,cap1,hcap,hcap1,rfl,rfl⟩;refine⟨rfl,_,(K7 (n:=6) rfl f q d d.nodes cap cap1:Back _ [] _ [_,_,_,_,_,_,_,_]),?_⟩;refine Aa (h:=s_ (h:=e_ (w_ (l_ (h:=l_ (h:=m_ (h:=f_ (h:=l_ (h:=?_)))))))));refine A6 rfl (EM [6,7] rfl (.cons _ _ _ _ _ rfl (AZ _) (.cons _ _ _ _ _ rfl (AZ _) (.cons _ _ _ _ _ rfl (AZ _) (.cons _ _ _ _ _ rfl (AZ _) .nil)))) (by decide) (.cons _ _ _ _ _ rfl (FE (by rfl) _ _ _ _ _) (.cons _ _ _ _ _ rfl (Et _ _ _) .nil)) (LL f q d n0 i dir name a.2 cap cap1 hf hq hdq hidx hn0 hcap hcap1) ?_);rintro r bc tc ⟨rfl,rfl,rfl⟩;refine⟨rfl,_,(K8 (B9 rfl) (B9 rfl) (by decide) f q d _ cap cap1 cap1:Back _ [6,7] _ [_,_,_,_,_,_,_,_,_]),?_⟩;refine e_ (?_);refine Bx (fun t=>t=⟨look [(8, .bp 3 0),(9, .sl 7 [EH (dir,name,(0,0),a)] none),(10, .v (.int .i64 0))],⟨[At f,AF dir,AF a,At (f.set q {d with nodes:=d.nodes.set i {n0 with entries:=CP n0.entries name a.2}})],[]⟩⟩) ?_ ?_
 ·skip
  refine C3 ([(0,At f),(1,AF dir),(2,AF a),(6,DB f q d 7 cap cap1),(7,NB (d.nodes.set i {n0 with entries:=CP n0.entries name a.2}) cap1),(8,[.bs 6 0 2 f.length cap])]) 9 (h:=AO 0 (h:=AO 1 (h:=Ac 2 (h:=?_))));refine BN 3 rfl (fun _ hS=>GG (y:= .agg (AF (0,0))) (EE ⟨rfl,rfl⟩) (by repeat (first|exact AZ _|exact LeA.nil _|exact LeL.refl _|refine LeA.agg ⟨rfl,rfl⟩|refine LeA.tup ⟨rfl,rfl⟩|exact LeL.nil|refine LeL.cons ⟨rfl,rfl⟩ ⟨rfl,rfl⟩|exact LeA.any _)) ⟨rfl,rfl⟩) ?_;refine AO 4 (h:=?_);refine c_ 5 rfl (AB (JT dir name (0,0) a) ?_);rintro r rfl;refine o_ (h:=?_);refine Bd 6 rfl (BY rfl rfl rfl rfl rfl rfl (by repeat constructor) (by repeat constructor) ?_);refine o_ (h:=BL 7 (h:=BL 8 (h:=z_ (h:=?_))));refine AJ ?_;exact⟨_,rfl,F7 4 2 rfl (by show[_,_,_,F6 4 (D3 4 _ 2) [.bs 6 0 2 f.length cap]]=_;rw[Fh (k:=0) (i:=6) (j:=7) (d:=d) (d':={d with nodes:=d.nodes.set i {n0 with entries:=CP n0.entries name a.2}}) hql rfl (by simp) hcap (by simpa using hcap1) (by decide) (by decide) rfl rfl];rfl) (.cons _ _ _ _ rfl (AZ _) (.cons _ _ _ _ rfl (AZ _) (.cons _ _ _ _ rfl (AZ _) .nil)))⟩
 rintro t rfl;refine A4 (?_);refine A7 ?_;rw[ER,if_neg (by omega),if_neg (by simp[hc2]),if_neg (by omega),if_neg hc4,if_neg hc5,if_neg (by simp[hc6]),hdq,Int.toNat_natCast,Fi hq,←hino];unfold BZ;rw[←LX (hv.vd d (B1 hq)).asc hn0];rfl
end
theorem LY{f:Af}{dir:AG}{name:AM}{n0:Nod}(hn:Bp f dir=some n0)(hk:n0.kind=2)(h:(AU f dir name).2=0):∃e,Cx n0.entries name=some e∧AU f dir name=((dir.1,e.2),0):=by
 unfold AU at h ⊢;rw[hn]at h ⊢;simp only[hk,if_true]at h ⊢;unfold Cx;split at h
 ·exact absurd h (by decide)
 rename_i e he;exact⟨e,he,rfl⟩
def entS(ns:List Nod)(i:Nat)(n0:Nod)(name:AM)(ino:Int):List Nod:=ns.set i {n0 with entries:=CP n0.entries name ino}
theorem FH(ns:List Nod)(i:Nat)(n0:Nod)(name:AM)(ino:Int):(entS ns i n0 name ino).length=ns.length:=by simp[entS]
theorem Pi(es:List BM)(name:AM)(ino:Int):(CP es name ino).length≤es.length+1:=by
 by_cases h:ino=0
 ·subst h;rw[GQ];have:(Ds name es).length≤es.length:=List.length_filter_le _ _;omega
 rw[(Gx es name h).length_eq,List.length_cons];have:(Ds name es).length≤es.length:=List.length_filter_le _ _;omega
theorem FlsB.set_{f:Af}(hf:FlsB f){q:Nat}{d':Dvc}(hn:d'.nodes.length≤1000)(he:∀n∈d'.nodes,n.entries.length≤1000):FlsB (f.set q d'):=by
 refine⟨by simpa using hf.few,fun d hd=>?_,fun d hd n hn'=>?_⟩
 ·rcases List.mem_or_eq_of_mem_set hd with h|h
  ·exact hf.nodes d h
  rw[h];exact hn
 rcases List.mem_or_eq_of_mem_set hd with h|h
 ·exact hf.ents d h n hn'
 subst h;exact he n hn'
theorem FlsV.entS{f:Af}(hv:FlsV f){q:Nat}{d:Dvc}(hq:f[q]?=some d){i:Nat}{n0:Nod}(hn:d.nodes[i]?=some n0)(name:AM)(ino:Int):FlsB (f.set q {d with nodes:=entS d.nodes i n0 name ino}):=by
 have hd:=hv.vd d (B1 hq);refine hv.b.set_ ?_ ?_
 ·show(Go.Proofs.YtbgnigjfkbmceaaGreatDoor.entS d.nodes i n0 name ino).length≤1000;rw[FH];have:=hd.len;omega
 intro m hm;rcases List.mem_or_eq_of_mem_set hm with h|h
 ·have:=hd.many m h;omega
 rw[h];have:=Pi n0.entries name ino;have:=hd.many n0 (B1 hn);show(CP n0.entries name ino).length≤1000;omega
theorem K9{d:Dvc}(hd:VD d){i:Nat}{n0:Nod}(hn:d.nodes[i]?=some n0)(name:AM)(ino:Int):entS d.nodes i n0 name ino=BZ d.nodes n0.ino name ino:=by
 unfold entS BZ;rw[←LX hd.asc hn];rfl
theorem T6{f:Af}{a:AG}{q:Nat}{d:Dvc}(ha:a.1=(q:Int))(hq:f[q]?=some d):Fb f a=if(d.nodes.any fun n=>n.ino==a.2)then Bc a.2 d.nodes else 0:=by
 unfold Fb Bp;rw[ha,JP,hq];simp only
 cases h:d.nodes.find? (fun n=>n.ino==a.2)with
 |none=>
   have:d.nodes.any (fun n=>n.ino==a.2)=false:=by
    rw[List.any_eq_false];exact List.find?_eq_none.1 h
   simp[this]
 |some n=>
   have:d.nodes.any (fun n=>n.ino==a.2)=true:=by
    have h2:=List.find?_some h;exact List.any_eq_true.2 ⟨n,List.mem_of_find?_eq_some h,h2⟩
   simp[this]
theorem Y7{f:Af}{a:AG}{q:Nat}{d:Dvc}(ha:a.1=(q:Int))(hq:f[q]?=some d)(hl:0<Fb f a):Bz d.nodes a.2=d.nodes:=by
 rw[T6 ha hq]at hl;split at hl
 ·unfold Bz;rw[List.filter_eq_self];intro m _;exact decide_eq_true (.inr hl)
 omega
theorem drop_zero{f:Af}{a:AG}{q:Nat}{d:Dvc}(ha:a.1=(q:Int))(hq:f[q]?=some d)(hl:Fb f a=0):Bz d.nodes a.2=CW a.2 d.nodes:=by
 rw[T6 ha hq]at hl;unfold Bz CW;apply List.filter_congr;intro m hm;split at hl
 ·rw[hl,Bool.eq_iff_iff];simp
 rename_i h
 have hne:m.ino≠a.2:=by
  intro e;exact h (List.any_eq_true.2 ⟨m,hm,by simpa using e⟩)
 rw[Bool.eq_iff_iff];simp[hne]
theorem Pj{ns:List Nod}{m:Nod}{i:Int}(hm:m∈ns)(h:m.ino≠i):0<(CW i ns).length:=List.length_pos_of_mem (List.mem_filter.2 ⟨hm,by simpa using h⟩)
theorem T7{d:Dvc}(hd:VD d){i:Nat}{n0:Nod}(hn:d.nodes[i]?=some n0)(name:AM)(ino:Int):∃m∈entS d.nodes i n0 name ino,m.ino=1:=by
 obtain⟨r,hr,h1,_⟩:=hd.rootMem;rw[K9 hd hn];obtain⟨m,hm,hw⟩:=Hv n0.ino name ino hr;exact⟨m,hm,hw.ino.trans h1⟩
theorem Pk(f:Af)(q:Nat)(d d':Dvc)(a:AG)(cap cap1:Nat)(hf:FlsB (f.set q d'))(hq:q<f.length)(ha:a.1=(q:Int))(hcap:f.length≤cap)(hcap1:d'.nodes.length≤cap1)(hne:0<(CW a.2 d'.nodes).length)(hn:d'.next=d.next)(hl:d'.nodes.length=d.nodes.length):
    ACall prog 234 [.agg [.bs 0 0 2 f.length cap], .agg (AF a)] [DB f q d 1 cap cap1,NB d'.nodes cap1] (fun r b t=>t=[]∧r= .tup []∧((Bz d'.nodes a.2=d'.nodes∧b=[DB f q d 1 cap cap1,NB d'.nodes cap1,[.bs 0 0 2 f.length cap],AF a])∨(Bz d'.nodes a.2=CW a.2 d'.nodes∧∃cap2,(CW a.2 d'.nodes).length≤cap2∧b=[DB f q {d' with nodes:=CW a.2 d'.nodes} 4 cap cap2,NB d'.nodes cap1,[.bs 0 0 2 f.length cap],AF a,NB (CW a.2 d'.nodes) cap2]))):=by
 have hq':(f.set q d')[q]?=some d':=by simp[hq]
 have key:=Xu (f.set q d') q d' a cap cap1 hf hq' ha (by simpa using hcap) hcap1 hne;rw[List.length_set,←T5 hn hl]at key;refine key.mono fun r b t ⟨h1,h2,h3⟩=>⟨h1,h2,?_⟩;rcases h3 with⟨h4,h5⟩|⟨h4,cap2,h5,h6⟩
 ·exact .inl ⟨Y7 ha hq' h4,h5⟩
 refine .inr ⟨drop_zero ha hq' h4,cap2,h5,?_⟩;rw[PK]at h6;exact h6
def Fx(f:Af)(dir:AG)(name:AM):JR:=
 if CF f dir name≠0 then([],[],CF f dir name)else if(AU f dir name).2≠0 then([],[],(AU f dir name).2)else if Ax f (AU f dir name).1=true then([],[],21)else
 (GS f dir.1.toNat fun ns=>Bz (BZ ns dir.2 name 0) (AU f dir name).1.2,[(dir,name,(AU f dir name).1,(0,0))],0)
def FJ(f:Af)(dir:AG)(name:AM):JR:=
 if CF f dir name≠0 then([],[],CF f dir name)else if(AU f dir name).2≠0 then([],[],(AU f dir name).2)else if Ax f (AU f dir name).1=false then([],[],20)else if Hk f (AU f dir name).1=false then([],[],39)else
 (GS f dir.1.toNat fun ns=>Bz (BZ ns dir.2 name 0) (AU f dir name).1.2,[(dir,name,(AU f dir name).1,(0,0))],0)
section
theorem Y8(f:Af)(dir:AG)(name:AM)(hv:FlsV f)(hs:name.size≤100000):AFn prog 173 [.agg (At f), .agg (AF dir), .v (.string name)] (fun r=>r=CS (Fx f dir name)):=by
 have hf:=hv.b;refine enter Tryz.func173 rfl rfl rfl rfl rfl 0 rfl ?_;refine w_ (b_ (h:=b_ (h:=Aa (h:=a_ (h:=a_ (h:=e_ (q_ (w_ (l_ (h:=l_ (h:=m_ (h:=?_))))))))))));refine A6 rfl (AB (Jv f dir name hf hs) ?_);rintro r rfl;refine a_ (h:=e_ (w_ (m_ (h:=Ao (h:=e_ (?_))))));refine A9 rfl (fun hb1=>?_) (fun hb1=>?_)
 ·have hc1:=bp hb1;refine w_ (AX (h:=m_ (h:=s_ (h:=a_ (h:=a_ (h:=e_ (A4 (A8 (?_)))))))));refine Av (r:=CS (Fx f dir name)) none (h5:=?_) (h6:=⟨rfl,rfl,rfl⟩);rw[Fx,if_pos (by omega)];exact Cz _
 have hc1:=bp hb1;refine AD (w_ (l_ (h:=l_ (h:=m_ (h:=?_)))));refine A6 rfl (AB (Hm f dir name hf) ?_);rintro r rfl;refine m_ (h:=x_ (h:=x_ (h:=Aa (h:=s_ (h:=a_ (h:=e_ (q_ (w_ (m_ (h:=Ao (h:=e_ (?_))))))))))));refine A9 rfl (fun hb2=>?_) (fun hb2=>?_)
 ·have hc2:=bp hb2;refine w_ (AX (h:=m_ (h:=s_ (h:=a_ (h:=a_ (h:=e_ (A4 (A8 (?_)))))))));refine Av (r:=CS (Fx f dir name)) none (h5:=?_) (h6:=⟨rfl,rfl,rfl⟩);rw[Fx,if_neg (by omega),if_pos (by omega)];exact Cz _
 have hc2:=bp hb2;have hlk:(AU f dir name).2=0:=by omega
 refine AD (q_ (w_ (l_ (h:=l_ (h:=?_)))));refine A6 rfl (AB (Gl f (AU f dir name).1 hf) ?_);rintro r rfl;refine e_ (?_);refine A9 rfl (fun hb3=>?_) (fun hb3=>?_)
 ·have hc3:=bp hb3;refine w_ (AX (h:=s_ (h:=a_ (h:=a_ (h:=e_ (A4 (A8 (?_))))))));refine Av (r:=CS (Fx f dir name)) none (h5:=?_) (h6:=⟨rfl,rfl,rfl⟩);rw[Fx,if_neg (by omega),if_neg (by omega),if_pos hc3];exact Cz _
 have hc3:=bp hb3;obtain⟨q,i,d,n0,hdq,hq,hn0,hino,hidx,hnode,hk0,hnm⟩:=Fj (name:=name) (dir:=dir) (f:=f) (by omega);have hil:=(Al.1 hn0).1;have hql:=(Al.1 hq).1;have hvd:=hv.vd d (B1 hq);obtain⟨e,he,hle⟩:=LY hnode hk0 hlk;have hat1:(AU f dir name).1.1=(q:Int):=by rw[hle];exact hdq
 have hat2:(AU f dir name).1.2≠1:=by rw[hle];exact(hvd.ent n0 (B1 hn0) e (Fv he).1).2.1
 have hxl:(entS d.nodes i n0 name 0).length=d.nodes.length:=FH _ _ _ _ _
 have hkp:0<(CW (AU f dir name).1.2 (entS d.nodes i n0 name 0)).length:=by
  obtain⟨m,hm,hm1⟩:=T7 hvd hn0 name 0;exact Pj hm (by rw[hm1];exact hat2.symm)
 refine AD (w_ (l_ (h:=?_)));refine A6 rfl (EM [] rfl (.cons _ _ _ _ _ rfl (AZ _) .nil) (by decide) .nil (K1 f q d hf hq (by omega)) ?_);rintro r bc tc ⟨rfl,cap,cap1,hcap,hcap1,rfl,rfl⟩;refine⟨rfl,_,(K7 (n:=4) rfl f q d d.nodes cap cap1:Back _ [] _ [_,_,_,_,_,_]),?_⟩;refine Aa (h:=s_ (h:=e_ (w_ (l_ (h:=l_ (h:=m_ (h:=?_)))))));refine A6 rfl (EM [4,5] rfl (.cons _ _ _ _ _ rfl (AZ _) (.cons _ _ _ _ _ rfl (AZ _) (.cons _ _ _ _ _ rfl (AZ _) (.cons _ _ _ _ _ rfl (AZ _) .nil)))) (by decide) (.cons _ _ _ _ _ rfl (FE (by rfl) _ _ _ _ _) (.cons _ _ _ _ _ rfl (Et _ _ _) .nil)) (LL f q d n0 i dir name 0 cap cap1 hf hq hdq hidx hn0 hcap hcap1) ?_);rintro r bc tc ⟨rfl,rfl,rfl⟩;refine⟨rfl,_,(K8 (B9 rfl) (B9 rfl) (by decide) f q d (entS d.nodes i n0 name 0) cap cap1 cap1:Back _ [4,5] _ [_,_,_,_,_,_,_]),?_⟩;refine e_ (w_ (l_ (h:=l_ (h:=?_))));refine A6 rfl (EM [4,5] rfl (.cons _ _ _ _ _ rfl (AZ _) (.cons _ _ _ _ _ rfl (AZ _) .nil)) (by decide) (.cons _ _ _ _ _ rfl (FE (by rfl) _ _ _ _ _) (.cons _ _ _ _ _ rfl (Et _ _ _) .nil)) (Pk f q d {d with nodes:=entS d.nodes i n0 name 0} (AU f dir name).1 cap cap1 (hv.entS hq hn0 name 0) hql hat1 hcap (by rw[FH];exact hcap1) hkp rfl hxl) ?_);rintro r bc tc ⟨rfl,rfl,⟨hns,rfl⟩|⟨hns,cap2,hcap2,rfl⟩⟩
 ·refine⟨rfl,_,(Ph (n:=7) rfl (by decide) (by decide) (by decide) f q d (entS d.nodes i n0 name 0) (AU f dir name).1 f.length cap cap cap1 cap1:Back _ [4,5] _ [_,_,_,_,_,_,_,_,_]),?_⟩;have hx1:(entS d.nodes i n0 name 0).length≤cap1:=by omega
  refine e_ (?_);refine Bx (fun t=>t=⟨look [(6, .bp 2 0),(7, .sl 7 [EH (dir,name,(AU f dir name).1,(0,0))] none),(8, .v (.int .i64 0))],⟨[At f,AF dir,At (f.set q {d with nodes:=Bz (entS d.nodes i n0 name 0) (AU f dir name).1.2})],[]⟩⟩) ?_ ?_
  ·skip
   refine C3 ([(0,At f),(1,AF dir),(3,AF (AU f dir name).1),(6,[.bs 4 0 2 f.length cap])]) 9 (h:=AO 0 (h:=AO 1 (h:=Ac 2 (h:=AO 3 (h:=?_)))));refine BN 4 rfl (fun _ hS=>GG (y:= .agg (AF (0,0))) (EE ⟨rfl,rfl⟩) (by repeat (first|exact AZ _|exact LeA.nil _|exact LeL.refl _|refine LeA.agg ⟨rfl,rfl⟩|refine LeA.tup ⟨rfl,rfl⟩|exact LeL.nil|refine LeL.cons ⟨rfl,rfl⟩ ⟨rfl,rfl⟩|exact LeA.any _)) ⟨rfl,rfl⟩) ?_;refine c_ 5 rfl (AB (JT dir name (AU f dir name).1 (0,0)) ?_);rintro r rfl;refine o_ (h:=?_);refine Bd 6 rfl (BY rfl rfl rfl rfl rfl rfl (by repeat constructor) (by repeat constructor) ?_);refine o_ (h:=BL 7 (h:=BL 8 (h:=z_ (h:=?_))));refine AJ ?_;refine⟨_,rfl,?_⟩;rw[show Bz (entS d.nodes i n0 name 0) (AU f dir name).1.2=_ from hns]
   first|exact F7 3 2 rfl (congrArg (fun x=>[At f,AF dir,x]) (Fh (k:=0) (i:=4) (j:=9) (d:={d with nodes:=CW (AU f dir name).1.2 (entS d.nodes i n0 name 0)}) (d':={d with nodes:=CW (AU f dir name).1.2 (entS d.nodes i n0 name 0)}) hql rfl rfl hcap hcap2 (B9 rfl) (B9 rfl) rfl rfl)) (.cons _ _ _ _ rfl (AZ _) (.cons _ _ _ _ rfl (AZ _) (.cons _ _ _ _ rfl (AZ _) .nil)))|exact F7 3 2 rfl (congrArg (fun x=>[At f,AF dir,x]) (Fh (k:=0) (i:=4) (j:=5) (d:=d) (d':={d with nodes:=entS d.nodes i n0 name 0}) hql rfl hxl hcap hx1 (B9 rfl) (B9 rfl) rfl rfl)) (.cons _ _ _ _ rfl (AZ _) (.cons _ _ _ _ rfl (AZ _) (.cons _ _ _ _ rfl (AZ _) .nil)))
  rintro t rfl;refine A4 (?_);refine A7 ?_;rw[Fx,if_neg (by omega),if_neg (by omega),if_neg (by simp[hc3]),hdq,Int.toNat_natCast,Fi hq,←hino,←K9 (hv.vd d (B1 hq)) hn0];rfl
 refine⟨rfl,_,(Pg (n:=7) rfl (by decide) (by decide) (by decide) f q {d with nodes:=CW (AU f dir name).1.2 (entS d.nodes i n0 name 0)} (entS d.nodes i n0 name 0) (CW (AU f dir name).1.2 (entS d.nodes i n0 name 0)) (AU f dir name).1 f.length cap cap cap1 cap2:Back _ [4,5] _ [_,_,_,_,_,_,_,_,_,_]),?_⟩;refine e_ (?_);refine Bx (fun t=>t=⟨look [(6, .bp 2 0),(7, .sl 7 [EH (dir,name,(AU f dir name).1,(0,0))] none),(8, .v (.int .i64 0))],⟨[At f,AF dir,At (f.set q {d with nodes:=Bz (entS d.nodes i n0 name 0) (AU f dir name).1.2})],[]⟩⟩) ?_ ?_
 ·skip
  refine C3 ([(0,At f),(1,AF dir),(3,AF (AU f dir name).1),(6,[.bs 4 0 2 f.length cap])]) 9 (h:=AO 0 (h:=AO 1 (h:=Ac 2 (h:=AO 3 (h:=?_)))));refine BN 4 rfl (fun _ hS=>GG (y:= .agg (AF (0,0))) (EE ⟨rfl,rfl⟩) (by repeat (first|exact AZ _|exact LeA.nil _|exact LeL.refl _|refine LeA.agg ⟨rfl,rfl⟩|refine LeA.tup ⟨rfl,rfl⟩|exact LeL.nil|refine LeL.cons ⟨rfl,rfl⟩ ⟨rfl,rfl⟩|exact LeA.any _)) ⟨rfl,rfl⟩) ?_;refine c_ 5 rfl (AB (JT dir name (AU f dir name).1 (0,0)) ?_);rintro r rfl;refine o_ (h:=?_);refine Bd 6 rfl (BY rfl rfl rfl rfl rfl rfl (by repeat constructor) (by repeat constructor) ?_);refine o_ (h:=BL 7 (h:=BL 8 (h:=z_ (h:=?_))));refine AJ ?_;refine⟨_,rfl,?_⟩;rw[show Bz (entS d.nodes i n0 name 0) (AU f dir name).1.2=_ from hns]
  first|exact F7 3 2 rfl (congrArg (fun x=>[At f,AF dir,x]) (Fh (k:=0) (i:=4) (j:=9) (d:={d with nodes:=CW (AU f dir name).1.2 (entS d.nodes i n0 name 0)}) (d':={d with nodes:=CW (AU f dir name).1.2 (entS d.nodes i n0 name 0)}) hql rfl rfl hcap hcap2 (B9 rfl) (B9 rfl) rfl rfl)) (.cons _ _ _ _ rfl (AZ _) (.cons _ _ _ _ rfl (AZ _) (.cons _ _ _ _ rfl (AZ _) .nil)))|exact F7 3 2 rfl (congrArg (fun x=>[At f,AF dir,x]) (Fh (k:=0) (i:=4) (j:=5) (d:=d) (d':={d with nodes:=entS d.nodes i n0 name 0}) hql rfl hxl hcap hx1 (B9 rfl) (B9 rfl) rfl rfl)) (.cons _ _ _ _ rfl (AZ _) (.cons _ _ _ _ rfl (AZ _) (.cons _ _ _ _ rfl (AZ _) .nil)))
 rintro t rfl;refine A4 (?_);refine A7 ?_;rw[Fx,if_neg (by omega),if_neg (by omega),if_neg (by simp[hc3]),hdq,Int.toNat_natCast,Fi hq,←hino,←K9 (hv.vd d (B1 hq)) hn0];rfl
theorem Y9(f:Af)(dir:AG)(name:AM)(hv:FlsV f)(hs:name.size≤100000):AFn prog 174 [.agg (At f), .agg (AF dir), .v (.string name)] (fun r=>r=CS (FJ f dir name)):=by
 have hf:=hv.b;refine enter Tryz.func174 rfl rfl rfl rfl rfl 0 rfl ?_;refine w_ (b_ (h:=b_ (h:=Aa (h:=a_ (h:=a_ (h:=e_ (q_ (w_ (l_ (h:=l_ (h:=m_ (h:=?_))))))))))));refine A6 rfl (AB (Jv f dir name hf hs) ?_);rintro r rfl;refine a_ (h:=e_ (w_ (m_ (h:=Ao (h:=e_ (?_))))));refine A9 rfl (fun hb1=>?_) (fun hb1=>?_)
 ·have hc1:=bp hb1;refine w_ (AX (h:=m_ (h:=s_ (h:=a_ (h:=a_ (h:=e_ (A4 (A8 (?_)))))))));refine Av (r:=CS (FJ f dir name)) none (h5:=?_) (h6:=⟨rfl,rfl,rfl⟩);rw[FJ,if_pos (by omega)];exact Cz _
 have hc1:=bp hb1;refine AD (w_ (l_ (h:=l_ (h:=m_ (h:=?_)))));refine A6 rfl (AB (Hm f dir name hf) ?_);rintro r rfl;refine m_ (h:=x_ (h:=x_ (h:=Aa (h:=s_ (h:=a_ (h:=e_ (q_ (w_ (m_ (h:=Ao (h:=e_ (?_))))))))))));refine A9 rfl (fun hb2=>?_) (fun hb2=>?_)
 ·have hc2:=bp hb2;refine w_ (AX (h:=m_ (h:=s_ (h:=a_ (h:=a_ (h:=e_ (A4 (A8 (?_)))))))));refine Av (r:=CS (FJ f dir name)) none (h5:=?_) (h6:=⟨rfl,rfl,rfl⟩);rw[FJ,if_neg (by omega),if_pos (by omega)];exact Cz _
 have hc2:=bp hb2;have hlk:(AU f dir name).2=0:=by omega
 refine AD (q_ (w_ (l_ (h:=l_ (h:=?_)))));refine A6 rfl (AB (Gl f (AU f dir name).1 hf) ?_);rintro r rfl;refine B7 (h:=e_ (?_));refine A9 rfl (fun hb3=>?_) (fun hb3=>?_)
 ·have hc3:=bp hb3;refine w_ (AX (h:=s_ (h:=a_ (h:=a_ (h:=e_ (A4 (A8 (?_))))))));refine Av (r:=CS (FJ f dir name)) none (h5:=?_) (h6:=⟨rfl,rfl,rfl⟩);rw[FJ,if_neg (by omega),if_neg (by omega),if_pos hc3];exact Cz _
 have hc3:=bp hb3;refine AD (q_ (w_ (l_ (h:=l_ (h:=?_)))));refine A6 rfl (AB (Rs f (AU f dir name).1 hf) ?_);rintro r rfl;refine B7 (h:=e_ (?_));refine A9 rfl (fun hb4=>?_) (fun hb4=>?_)
 ·have hc4:=bp hb4;refine w_ (AX (h:=s_ (h:=a_ (h:=a_ (h:=e_ (A4 (A8 (?_))))))));refine Av (r:=CS (FJ f dir name)) none (h5:=?_) (h6:=⟨rfl,rfl,rfl⟩);rw[FJ,if_neg (by omega),if_neg (by omega),if_neg (by simp[hc3]),if_pos hc4];exact Cz _
 have hc4:=bp hb4;obtain⟨q,i,d,n0,hdq,hq,hn0,hino,hidx,hnode,hk0,hnm⟩:=Fj (name:=name) (dir:=dir) (f:=f) (by omega);have hil:=(Al.1 hn0).1;have hql:=(Al.1 hq).1;have hvd:=hv.vd d (B1 hq);obtain⟨e,he,hle⟩:=LY hnode hk0 hlk;have hat1:(AU f dir name).1.1=(q:Int):=by rw[hle];exact hdq
 have hat2:(AU f dir name).1.2≠1:=by rw[hle];exact(hvd.ent n0 (B1 hn0) e (Fv he).1).2.1
 have hxl:(entS d.nodes i n0 name 0).length=d.nodes.length:=FH _ _ _ _ _
 have hkp:0<(CW (AU f dir name).1.2 (entS d.nodes i n0 name 0)).length:=by
  obtain⟨m,hm,hm1⟩:=T7 hvd hn0 name 0;exact Pj hm (by rw[hm1];exact hat2.symm)
 refine AD (w_ (l_ (h:=?_)));refine A6 rfl (EM [] rfl (.cons _ _ _ _ _ rfl (AZ _) .nil) (by decide) .nil (K1 f q d hf hq (by omega)) ?_);rintro r bc tc ⟨rfl,cap,cap1,hcap,hcap1,rfl,rfl⟩;refine⟨rfl,_,(K7 (n:=4) rfl f q d d.nodes cap cap1:Back _ [] _ [_,_,_,_,_,_]),?_⟩;refine Aa (h:=s_ (h:=e_ (w_ (l_ (h:=l_ (h:=m_ (h:=?_)))))));refine A6 rfl (EM [4,5] rfl (.cons _ _ _ _ _ rfl (AZ _) (.cons _ _ _ _ _ rfl (AZ _) (.cons _ _ _ _ _ rfl (AZ _) (.cons _ _ _ _ _ rfl (AZ _) .nil)))) (by decide) (.cons _ _ _ _ _ rfl (FE (by rfl) _ _ _ _ _) (.cons _ _ _ _ _ rfl (Et _ _ _) .nil)) (LL f q d n0 i dir name 0 cap cap1 hf hq hdq hidx hn0 hcap hcap1) ?_);rintro r bc tc ⟨rfl,rfl,rfl⟩;refine⟨rfl,_,(K8 (B9 rfl) (B9 rfl) (by decide) f q d (entS d.nodes i n0 name 0) cap cap1 cap1:Back _ [4,5] _ [_,_,_,_,_,_,_]),?_⟩;refine e_ (w_ (l_ (h:=l_ (h:=?_))));refine A6 rfl (EM [4,5] rfl (.cons _ _ _ _ _ rfl (AZ _) (.cons _ _ _ _ _ rfl (AZ _) .nil)) (by decide) (.cons _ _ _ _ _ rfl (FE (by rfl) _ _ _ _ _) (.cons _ _ _ _ _ rfl (Et _ _ _) .nil)) (Pk f q d {d with nodes:=entS d.nodes i n0 name 0} (AU f dir name).1 cap cap1 (hv.entS hq hn0 name 0) hql hat1 hcap (by rw[FH];exact hcap1) hkp rfl hxl) ?_);rintro r bc tc ⟨rfl,rfl,⟨hns,rfl⟩|⟨hns,cap2,hcap2,rfl⟩⟩
 ·refine⟨rfl,_,(Ph (n:=7) rfl (by decide) (by decide) (by decide) f q d (entS d.nodes i n0 name 0) (AU f dir name).1 f.length cap cap cap1 cap1:Back _ [4,5] _ [_,_,_,_,_,_,_,_,_]),?_⟩;have hx1:(entS d.nodes i n0 name 0).length≤cap1:=by omega
  refine e_ (?_);refine Bx (fun t=>t=⟨look [(6, .bp 2 0),(7, .sl 7 [EH (dir,name,(AU f dir name).1,(0,0))] none),(8, .v (.int .i64 0))],⟨[At f,AF dir,At (f.set q {d with nodes:=Bz (entS d.nodes i n0 name 0) (AU f dir name).1.2})],[]⟩⟩) ?_ ?_
  ·skip
   refine C3 ([(0,At f),(1,AF dir),(3,AF (AU f dir name).1),(6,[.bs 4 0 2 f.length cap])]) 9 (h:=AO 0 (h:=AO 1 (h:=Ac 2 (h:=AO 3 (h:=?_)))));refine BN 4 rfl (fun _ hS=>GG (y:= .agg (AF (0,0))) (EE ⟨rfl,rfl⟩) (by repeat (first|exact AZ _|exact LeA.nil _|exact LeL.refl _|refine LeA.agg ⟨rfl,rfl⟩|refine LeA.tup ⟨rfl,rfl⟩|exact LeL.nil|refine LeL.cons ⟨rfl,rfl⟩ ⟨rfl,rfl⟩|exact LeA.any _)) ⟨rfl,rfl⟩) ?_;refine c_ 5 rfl (AB (JT dir name (AU f dir name).1 (0,0)) ?_);rintro r rfl;refine o_ (h:=?_);refine Bd 6 rfl (BY rfl rfl rfl rfl rfl rfl (by repeat constructor) (by repeat constructor) ?_);refine o_ (h:=BL 7 (h:=BL 8 (h:=z_ (h:=?_))));refine AJ ?_;refine⟨_,rfl,?_⟩;rw[show Bz (entS d.nodes i n0 name 0) (AU f dir name).1.2=_ from hns]
   first|exact F7 3 2 rfl (congrArg (fun x=>[At f,AF dir,x]) (Fh (k:=0) (i:=4) (j:=9) (d:={d with nodes:=CW (AU f dir name).1.2 (entS d.nodes i n0 name 0)}) (d':={d with nodes:=CW (AU f dir name).1.2 (entS d.nodes i n0 name 0)}) hql rfl rfl hcap hcap2 (B9 rfl) (B9 rfl) rfl rfl)) (.cons _ _ _ _ rfl (AZ _) (.cons _ _ _ _ rfl (AZ _) (.cons _ _ _ _ rfl (AZ _) .nil)))|exact F7 3 2 rfl (congrArg (fun x=>[At f,AF dir,x]) (Fh (k:=0) (i:=4) (j:=5) (d:=d) (d':={d with nodes:=entS d.nodes i n0 name 0}) hql rfl hxl hcap hx1 (B9 rfl) (B9 rfl) rfl rfl)) (.cons _ _ _ _ rfl (AZ _) (.cons _ _ _ _ rfl (AZ _) (.cons _ _ _ _ rfl (AZ _) .nil)))
  rintro t rfl;refine A4 (?_);refine A7 ?_;rw[FJ,if_neg (by omega),if_neg (by omega),if_neg (by simp[hc3]),if_neg (by simp[hc4]),hdq,Int.toNat_natCast,Fi hq,←hino,←K9 (hv.vd d (B1 hq)) hn0];rfl
 refine⟨rfl,_,(Pg (n:=7) rfl (by decide) (by decide) (by decide) f q {d with nodes:=CW (AU f dir name).1.2 (entS d.nodes i n0 name 0)} (entS d.nodes i n0 name 0) (CW (AU f dir name).1.2 (entS d.nodes i n0 name 0)) (AU f dir name).1 f.length cap cap cap1 cap2:Back _ [4,5] _ [_,_,_,_,_,_,_,_,_,_]),?_⟩;refine e_ (?_);refine Bx (fun t=>t=⟨look [(6, .bp 2 0),(7, .sl 7 [EH (dir,name,(AU f dir name).1,(0,0))] none),(8, .v (.int .i64 0))],⟨[At f,AF dir,At (f.set q {d with nodes:=Bz (entS d.nodes i n0 name 0) (AU f dir name).1.2})],[]⟩⟩) ?_ ?_
 ·skip
  refine C3 ([(0,At f),(1,AF dir),(3,AF (AU f dir name).1),(6,[.bs 4 0 2 f.length cap])]) 9 (h:=AO 0 (h:=AO 1 (h:=Ac 2 (h:=AO 3 (h:=?_)))));refine BN 4 rfl (fun _ hS=>GG (y:= .agg (AF (0,0))) (EE ⟨rfl,rfl⟩) (by repeat (first|exact AZ _|exact LeA.nil _|exact LeL.refl _|refine LeA.agg ⟨rfl,rfl⟩|refine LeA.tup ⟨rfl,rfl⟩|exact LeL.nil|refine LeL.cons ⟨rfl,rfl⟩ ⟨rfl,rfl⟩|exact LeA.any _)) ⟨rfl,rfl⟩) ?_;refine c_ 5 rfl (AB (JT dir name (AU f dir name).1 (0,0)) ?_);rintro r rfl;refine o_ (h:=?_);refine Bd 6 rfl (BY rfl rfl rfl rfl rfl rfl (by repeat constructor) (by repeat constructor) ?_);refine o_ (h:=BL 7 (h:=BL 8 (h:=z_ (h:=?_))));refine AJ ?_;refine⟨_,rfl,?_⟩;rw[show Bz (entS d.nodes i n0 name 0) (AU f dir name).1.2=_ from hns]
  first|exact F7 3 2 rfl (congrArg (fun x=>[At f,AF dir,x]) (Fh (k:=0) (i:=4) (j:=9) (d:={d with nodes:=CW (AU f dir name).1.2 (entS d.nodes i n0 name 0)}) (d':={d with nodes:=CW (AU f dir name).1.2 (entS d.nodes i n0 name 0)}) hql rfl rfl hcap hcap2 (B9 rfl) (B9 rfl) rfl rfl)) (.cons _ _ _ _ rfl (AZ _) (.cons _ _ _ _ rfl (AZ _) (.cons _ _ _ _ rfl (AZ _) .nil)))|exact F7 3 2 rfl (congrArg (fun x=>[At f,AF dir,x]) (Fh (k:=0) (i:=4) (j:=5) (d:=d) (d':={d with nodes:=entS d.nodes i n0 name 0}) hql rfl hxl hcap hx1 (B9 rfl) (B9 rfl) rfl rfl)) (.cons _ _ _ _ rfl (AZ _) (.cons _ _ _ _ rfl (AZ _) (.cons _ _ _ _ rfl (AZ _) .nil)))
 rintro t rfl;refine A4 (?_);refine A7 ?_;rw[FJ,if_neg (by omega),if_neg (by omega),if_neg (by simp[hc3]),if_neg (by simp[hc4]),hdq,Int.toNat_natCast,Fi hq,←hino,←K9 (hv.vd d (B1 hq)) hn0];rfl
end
section
variable {P:Program}{N:Dim}{ops:Array Oper}{Q:Exit→AS→Prop}{S:AH→Prop}{tl:Nat}
def T8(ops:Array Oper)(tl:Nat):Bool:=Lx ops tl
end
section
variable {P:Program}{N:Dim}{Q:Exit→AS→Prop}{l:List Oper}{S:AH→Prop}{tl:Nat}{fuel:Nat}{listed:Array Bool}{m:List (Nat×AV)}{h:AH}{op:Op}{ty:TypeId}{pos:String}{af:Array Edge}{gd:Option (Nat×Bool)}
theorem YA{i d:Nat}{x:AV}(hi:l[i]?=some ⟨some d,op,ty,pos,af,gd⟩)(hd:Nat.blt d N.n=true)(htl:(T8 l.toArray tl&&Lw l.toArray listed&& !Nat.ble tl i&&Region.free .any l.toArray listed i&&(Region.ready .any l.toArray listed).contains i)=true)
    (hw:CE l.toArray (look m) ⟨some d,op,ty,pos,af,gd⟩=some true) (hst:∀h,S h→AStep P ⟨some d,op,ty,pos,af,gd⟩ (C2 (look m)) h (fun x' h'=>x'=x∧h'=h)) (hS:S h)
    (H:AAny P N l.toArray Q S tl fuel (listed.setIfInBounds i true) ⟨look ((d,x)::m),h⟩):AAny P N l.toArray Q S tl (fuel+1) listed ⟨look m,h⟩:=by
 simp only[Bool.and_eq_true,Bool.not_eq_true']at htl;obtain⟨⟨⟨⟨t1,t0⟩,t2⟩,t3⟩,t4⟩:=htl;exact AAny.first3 (oi:=⟨some d,op,ty,pos,af,gd⟩) (G8 hi) hd t1 t2 fuel listed ⟨look m,h⟩ (Qd t0) (Region.free_spec (G8 hi) t3) (List.contains_iff_mem.1 t4) (.inl ⟨hw,hst⟩) hS H
end
theorem DT{P:Program}{N:Dim}{Q:Exit→AS→Prop}{l:List Oper}{S:AH→Prop}{tl:Nat}{fuel:Nat}{listed:Array Bool}{m:List (Nat×AV)}{h:AH}{op:Op}{ty:TypeId}{pos:String}{af:Array Edge}{gd:Option (Nat×Bool)}(i:Nat){d:Nat}{x:AV}(hi:l[i]?=some ⟨some d,op,ty,pos,af,gd⟩)(hst:∀h,S h→AStep P ⟨some d,op,ty,pos,af,gd⟩ (C2 (look m)) h (fun x' h'=>x'=x∧h'=h))(H:AAny P N l.toArray Q S tl fuel (listed.setIfInBounds i true) ⟨look ((d,x)::m),h⟩)(hd:Nat.blt d N.n=true:=by rfl)(htl:(T8 l.toArray tl&&Lw l.toArray listed&& !Nat.ble tl i&&Region.free .any l.toArray listed i&&(Region.ready .any l.toArray listed).contains i)=true:=by kernel_rfl)(hw:CE l.toArray (look m) ⟨some d,op,ty,pos,af,gd⟩=some true:=by first|rfl|exact AQ rfl rfl (BC ‹_›)|exact AQ rfl rfl (BD ‹_›)|exact AQ rfl rfl (by simp[*]))(hS:S h:=by repeat (first|exact Kq _|refine Kr rfl ?_)):AAny P N l.toArray Q S tl (fuel+1) listed ⟨look m,h⟩:=YA hi hd htl hw hst hS H
theorem Pl{f:Af}{a:AG}{q i:Nat}{d:Dvc}{n:Nod}(ha:a.1=(q:Int))(hq:f[q]?=some d)(hd:DS d.nodes)(hn:d.nodes[i]?=some n)(hi:n.ino=a.2):EO f a=(i:Int):=by
 rw[Og ha hq];refine RX hn (by simpa using hi) fun j y hj hy=>?_;obtain⟨l1,e1⟩:=Al.1 hn;obtain⟨l2,e2⟩:=Al.1 hy;have hp:=List.pairwise_iff_getElem.1 hd j i l2 l1 hj;rw[e1,e2]at hp;have:y.ino≠a.2:=by omega
 simpa using this
theorem TA(f:Af)(q:Nat)(d':Dvc)(n:Nod)(i:Nat)(a:AG)(name:AM)(ino:Int)(cap cap1:Nat)(hf:FlsB (f.set q d'))(hq:q<f.length)(ha:a.1=(q:Int))(hi:EO (f.set q d') a=(i:Int))(hn:d'.nodes[i]?=some n)(hcap:f.length≤cap)(hcap1:d'.nodes.length≤cap1):
    ACall prog 232 [.agg [.bs 0 0 2 f.length cap], .agg (AF a), .v (.string name), .v (.int .i64 ino)] [DB f q d' 1 cap cap1,NB d'.nodes cap1] (fun r b t=>t=[]∧r= .tup []∧b=[DB f q d' 1 cap cap1,NB (entS d'.nodes i n name ino) cap1]):=by
 have key:=LL (f.set q d') q d' n i a name ino cap cap1 hf (by simp[hq]) ha hi hn (by simpa using hcap) hcap1;rw[List.length_set,PK]at key;exact key
def GT(f:Af)(a:AG)(mode uid gid:Int):Af×Int:=
 if Ck f a=false then([],2)else if EF (E8 mode uid gid (Au f a))=false then([],22)else(GS f a.1.toNat fun ns=>CR ns a.2 (E8 mode uid gid),0)
def N9(R:Af×Int):AV:= .tup [.agg (At R.1), .v (.int .i64 R.2)]
theorem TB(e:Int):LeA (.tup [.agg [.v (.slice none 0 0)], .v (.int .i64 e)]) (N9 ([],e)):=(by repeat (first|exact AZ _|exact LeA.nil _|exact LeL.refl _|refine LeA.agg ?_|refine LeA.tup ?_|exact LeL.nil|refine LeL.cons ?_ ?_|exact LeA.any _))
theorem YB{n:Nod}(h:EF n=true):n.target.size≤128:=by
 unfold EF at h;split at h
 ·cases h
 split at h
 ·simp[JQ]at h;omega
 have h2:=List.isEmpty_iff.1 h;rw[ByteArray.toList_eq]at h2;have:n.target.data.size=0:=by rw[←Array.length_toList,h2];rfl
 show n.target.data.size≤128;omega
theorem LZ{f:Af}(hv:FlsV f)(a:AG):(Au f a).target.size≤128:=by
 rcases Gi f a with⟨-,h⟩|⟨k,i,d,n, -,h1,h2, -, -,h⟩
 ·simp only[Au,h,Option.getD_none];exact BR _
 simp only[Au,h,Option.getD_some];exact YB ((hv.vd d (B1 h1)).plain n (B1 h2))
def Ee(f:Af)(dir:AG)(name:AM)(n:Nod):JR:=
 if CF f dir name≠0 then([],[],CF f dir name)else if EF n=false then([],[],22)else if(AU f dir name).2=0 then([],[],17)else
 match F9 f dir.1 with
 |none=>([],[],2)
 |some d=>if 16≤d.nodes.length∨d.next=1073741824∨Gk f dir=true then([],[],28)else(f.set dir.1.toNat ⟨d.next+1,BZ d.nodes dir.2 name d.next++[Dy n d.next dir.2]⟩,[(dir,name,(0,0),(dir.1,d.next))],0)
theorem TC{f:Af}{q:Nat}{d:Dvc}{j j' cap cap1 c:Nat}(m:Nod)(hq:q<f.length):SetAt (DB f q d j cap cap1) (0+q * 2+1) [.bs j' 0 8 (d.nodes.length+1) c] (DB f q {d with nodes:=d.nodes++[m]} j' cap c):=by
 have h:=PJ (d:=d) (d':={d with nodes:=d.nodes++[m]}) (j:=j) (j':=j') (cap:=cap) (cap1:=cap1) (cap1':=c) (k:=1) (cs:=[.bs j' 0 8 (d.nodes++[m]).length c]) hq (by repeat constructor) (by simp)
 rwa [List.length_append]at h
section
theorem YC(f:Af)(a:AG)(mode uid gid:Int)(hv:FlsV f):AFn prog 176 [.agg (At f), .agg (AF a), .v (.int .i64 mode), .v (.int .i64 uid), .v (.int .i64 gid)] (fun r=>r=N9 (GT f a mode uid gid)):=by
 have hf:=hv.b;have htg:=LZ hv a;refine enter Tryz.func176 rfl rfl rfl rfl rfl 0 rfl ?_;refine w_ (b_ (h:=b_ (h:=Aa (h:=a_ (h:=e_ (w_ (l_ (h:=l_ (h:=?_)))))))));refine A6 rfl (AB (Ec f a hf) ?_);rintro r rfl;refine m_ (h:=x_ (h:=x_ (h:=Aa (h:=s_ (h:=a_ (h:=e_ (q_ (w_ (m_ (h:=B7 (h:=e_ (?_))))))))))));refine A9 rfl (fun hb1=>?_) (fun hb1=>?_)
 ·have hc1:=bp hb1;refine w_ (AX (h:=s_ (h:=a_ (h:=e_ (A4 (A8 (?_)))))));refine Av (r:=N9 (GT f a mode uid gid)) none (h5:=?_) (h6:=⟨rfl,rfl,rfl⟩);rw[GT,if_pos hc1];exact TB _
 have hc1:=bp hb1;refine AD (w_ (m_ (h:=m_ (h:=m_ (h:=f_ (h:=s_ (h:=f_ (h:=s_ (h:=f_ (h:=s_ (h:=e_ (q_ (w_ (l_ (h:=?_)))))))))))))));refine A6 rfl (AB (Rt (E8 mode uid gid (Au f a)) (by show(Au f a).target.size≤100000;omega)) ?_);rintro r rfl;refine B7 (h:=e_ (?_));refine A9 rfl (fun hb2=>?_) (fun hb2=>?_)
 ·have hc2:=bp hb2;refine w_ (AX (h:=s_ (h:=a_ (h:=e_ (A4 (A8 (?_)))))));refine Av (r:=N9 (GT f a mode uid gid)) none (h5:=?_) (h6:=⟨rfl,rfl,rfl⟩);rw[GT,if_neg (by simp[hc1]),if_pos hc2];exact TB _
 have hc2:=bp hb2;obtain⟨q,i,d,n0,hdq,hq,hn0,hino,hidx,hnode⟩:=(Gi f a).resolve_left (fun h=>by simp[Ck,h.2]at hc1);have hil:=(Al.1 hn0).1;have hql:=(Al.1 hq).1;have hng:Au f a=n0:=by simp[Au,hnode]
 refine AD (w_ (l_ (h:=?_)));refine A6 rfl (EM [] rfl (.cons _ _ _ _ _ rfl (AZ _) .nil) (by decide) .nil (K1 f q d hf hq (by omega)) ?_);rintro r bc tc ⟨rfl,cap,cap1,hcap,hcap1,rfl,rfl⟩;refine⟨rfl,_,(K7 (n:=4) rfl f q d d.nodes cap cap1:Back _ [] _ [_,_,_,_,_,_]),?_⟩;have hD0:(DB f q d 5 cap cap1)[0+q * 2+1]?=some (.bs 5 0 8 d.nodes.length cap1):=GP hql
 have hset:SetAt (NB d.nodes cap1) (0+i * 8) (Ap (E8 mode uid gid (Au f a))) (NB (d.nodes.set i (E8 mode uid gid (Au f a))) cap1):=by
  rw[hng];exact PH (k:=0) hn0 (by repeat constructor) (by simp[Ap])
 refine Aa (h:=s_ (h:=e_ (q_ (C3 ([(0,At f),(1,AF a),(3,Ap (E8 mode uid gid (Au f a))),(4,DB f q d 5 cap cap1),(6,[.bs 4 0 2 f.length cap])]) 13 (h:=Aw 0 (h:=?_))))))
 first|refine AO 1 (h:=?_)|refine BN 1 rfl (fun _ hS=>Be (row:=DB f q d 5 cap cap1) rfl (kb hS rfl) hD0 ⟨rfl,rfl⟩) ?_
 refine Aw 2 (h:=?_)
 first|refine AO 3 (h:=?_)|refine BN 3 rfl (fun _ hS=>Be (row:=DB f q d 5 cap cap1) rfl (kb hS rfl) hD0 ⟨rfl,rfl⟩) ?_
 refine BN 4 rfl (fun _ hS=>DQ (m:=q) rfl rfl hdq hql ⟨rfl,rfl⟩) ?_;refine Aw 5 (h:=?_)
 first|refine AO 6 (h:=?_)|refine BN 6 rfl (fun _ hS=>Be (row:=DB f q d 5 cap cap1) rfl (kb hS rfl) hD0 ⟨rfl,rfl⟩) ?_
 first|refine AO 7 (h:=?_)|refine BN 7 rfl (fun _ hS=>Be (row:=DB f q d 5 cap cap1) rfl (kb hS rfl) hD0 ⟨rfl,rfl⟩) ?_
 first|refine AO 8 (h:=?_)|refine BN 8 rfl (fun _ hS=>Be (row:=DB f q d 5 cap cap1) rfl (kb hS rfl) hD0 ⟨rfl,rfl⟩) ?_
 first|refine AO 10 (h:=?_)|refine BN 10 rfl (fun _ hS=>Be (row:=DB f q d 5 cap cap1) rfl (kb hS rfl) hD0 ⟨rfl,rfl⟩) ?_
 refine c_ 9 rfl (Fr 2 rfl (.cons _ _ _ _ _ rfl (LeA.of_eq (Ht hq hcap hcap1 (BR _) (BR _) rfl rfl)) (.cons _ _ _ _ _ rfl (AZ _) .nil)) (Hl f a hf) ?_);rintro r rfl;refine⟨rfl,?_⟩;refine o_ (h:=?_);refine BN 11 rfl (fun _ hS=>DQ (m:=i) rfl rfl hidx hil ⟨rfl,rfl⟩) ?_;refine Bd 12 rfl (BY rfl rfl rfl rfl rfl rfl hset (by repeat constructor) ?_);refine o_ (h:=z_ (h:=t_ (?_)));refine Bx (fun t=>t=⟨look [(10, .bp 2 0),(11, .v (.int .i64 0))],⟨[At f,AF a,At (f.set q {d with nodes:=d.nodes.set i (E8 mode uid gid (Au f a))})],[]⟩⟩) ?_ ?_
 ·skip
  refine AR (l_ (h:=s_ (h:=a_ (h:=AP (?_)))));refine AJ ?_;exact⟨_,rfl,F7 3 2 rfl (congrArg (fun x=>[At f,AF a,x]) (Fh (k:=0) (i:=4) (j:=5) (d:=d) (d':={d with nodes:=d.nodes.set i (E8 mode uid gid (Au f a))}) hql rfl (by simp) hcap (by simpa using hcap1) (B9 rfl) (B9 rfl) rfl rfl)) (.cons _ _ _ _ rfl (AZ _) (.cons _ _ _ _ rfl (AZ _) .nil))⟩
 rintro t rfl;refine A4 (?_);refine A7 ?_;rw[GT,if_neg (by simp[hc1]),if_neg (by simp[hc2]),hdq,Int.toNat_natCast,Fi hq,←hino,←LX (hv.vd d (B1 hq)).asc hn0,←hng];rfl
theorem YD(f:Af)(dir:AG)(name:AM)(n:Nod)(hv:FlsV f)(hs:name.size≤100000)(hns:n.target.size≤100000):AFn prog 177 [.agg (At f), .agg (AF dir), .v (.string name), .agg (Ap n)] (fun r=>r=CS (Ee f dir name n)):=by
 have hf:=hv.b;obtain⟨e0,he0⟩:∃e0:Int,e0=if CF f dir name≠0 then CF f dir name else if EF n=false then 22 else 0:=⟨_,rfl⟩
 refine enter Tryz.func177 rfl rfl rfl rfl rfl 0 rfl ?_;refine w_ (b_ (h:=b_ (h:=b_ (h:=Aa (h:=a_ (h:=a_ (h:=e_ (w_ (l_ (h:=l_ (h:=m_ (h:=?_))))))))))));refine A6 rfl (AB (Jv f dir name hf hs) ?_);rintro r rfl;refine a_ (h:=e_ (?_));refine Bx (fun t=>t=⟨look [(2, .v (.string name)),(4, .bp 0 0),(5, .bp 1 0),(7, .bp 2 0),(8, .bp 3 0),(9, .v (.slice none 0 0)),(10, .v (.int .i64 0)),(11, .v (.int .i64 e0))],⟨[At f,AF dir,Ap n,[.v (.slice none 0 0)]],[]⟩⟩) ?_ ?_
 ·skip
  refine w_ (m_ (h:=AK (h:=m_ (h:=?_))));refine AT true rfl rfl (fun hb1=>?_) (fun hb1=>?_)
  ·have hc1:=bp hb1;refine l_ (h:=?_);refine B2 (AB (Rt n hns) ?_);rintro r rfl;refine B7 (h:=AA (h:=e_ (?_)));refine A9 rfl (fun hb2=>?_) (fun hb2=>?_)
   ·have hc2:=bp hb2;have hee:e0=22:=by rw[he0,if_neg (by omega),if_pos hc2]
    refine AR (a_ (h:=AP (?_)));refine AJ ?_;refine⟨_,rfl,?_⟩;rw[hee];exact(wk 4 0)
   have hc2:=bp hb2;have hee:e0=CF f dir name:=by rw[he0,if_neg (by omega),if_neg (by simp[hc2]),hc1]
   refine Aq (?_);refine AJ ?_;refine⟨_,rfl,?_⟩;rw[hee];exact(wk 4 0)
  have hc1:=bp hb1;have hee:e0=CF f dir name:=by rw[he0,if_pos hc1]
  refine A3 (h:=A3 (h:=A3 (h:=AE (h:=e_ (Bj (h:=Aq (?_)))))));refine AJ ?_;refine⟨_,rfl,?_⟩;rw[hee];exact(wk 4 0)
 rintro t rfl;refine q_ (w_ (m_ (h:=Ao (h:=e_ (?_)))));refine A9 rfl (fun hb3=>?_) (fun hb3=>?_)
 ·have hc3:=bp hb3;refine w_ (AX (h:=m_ (h:=s_ (h:=a_ (h:=a_ (h:=e_ (A4 (A8 (?_)))))))));refine Av (r:=CS (Ee f dir name n)) none (h5:=?_) (h6:=⟨rfl,rfl,rfl⟩)
  rw[show Ee f dir name n=([],[],e0) by
   unfold Ee;by_cases h:CF f dir name=0
   ·rw[if_neg (by omega)]at he0 ⊢;by_cases h2:EF n=false
    ·rw[if_pos h2]at he0 ⊢;rw[he0]
    rw[if_neg h2]at he0;omega
   rw[if_pos h]at he0 ⊢;rw[he0]]
  exact Cz _
 have hc3:=bp hb3
 have hpl:CF f dir name=0:=by
  by_cases h:CF f dir name=0
  ·exact h
  rw[if_pos h]at he0;omega
 have hpn:¬EF n=false:=by
  intro h;rw[if_neg (by omega),if_pos h]at he0;omega
 refine AD (q_ (w_ (l_ (h:=l_ (h:=m_ (h:=?_))))));refine A6 rfl (AB (Hm f dir name hf) ?_);rintro r rfl;refine m_ (h:=x_ (h:=x_ (h:=Aa (h:=s_ (h:=a_ (h:=e_ (w_ (m_ (h:=AK (h:=e_ (?_)))))))))));refine A9 rfl (fun hb4=>?_) (fun hb4=>?_)
 ·have hc4:=bp hb4;refine w_ (AX (h:=s_ (h:=a_ (h:=a_ (h:=e_ (A4 (A8 (?_))))))));refine Av (r:=CS (Ee f dir name n)) none (h5:=?_) (h6:=⟨rfl,rfl,rfl⟩);rw[Ee,if_neg (by omega),if_neg hpn,if_pos (by omega)];exact Cz _
 have hc4:=bp hb4;obtain⟨q,i,d,n0,hdq,hq,hn0,hino,hidx,hnode,hk0,hnm⟩:=Fj (name:=name) (dir:=dir) (f:=f) hpl;have hil:=(Al.1 hn0).1;have hql:=(Al.1 hq).1;have hvd:=hv.vd d (B1 hq);have hatI:F9 f dir.1=some d:=by rw[hdq,JP,hq]
 have hrow:(f.map Bo)[q]?=some (Bo d):=by rw[List.getElem?_map,hq];rfl
 have hnx1:=hvd.next2;have hnx2:=hvd.nextM;have hdl:=hvd.len;refine AD (w_ (f_ (h:=l_ (h:=f_ (h:=l_ (h:=?_))))));refine A6 rfl (DX (n:=q) rfl rfl hdq hrow ?_);refine l_ (h:=Aa (h:=s_ (h:=e_ (q_ (w_ (f_ (h:=l_ (h:=n_ (h:=Cm (h:=m_ (h:=?_)))))))))));refine AT false rfl rfl (fun hb5=>?_) (fun hb5=>?_)
 ·have hc5:=bp hb5;refine A3 (h:=A3 (h:=A3 (h:=AA (h:=m_ (h:=A3 (h:=A3 (h:=A3 (h:=AA (h:=e_ (B6 (h:=w_ (AX (h:=s_ (h:=a_ (h:=a_ (h:=e_ (A4 (A8 (?_)))))))))))))))))));refine Av (r:=CS (Ee f dir name n)) none (h5:=?_) (h6:=⟨rfl,rfl,rfl⟩);rw[Ee,if_neg (by omega),if_neg hpn,if_neg (by omega),hatI];simp only;rw[if_pos (by first|exact .inl (by simp at *;omega)|exact .inr (.inl (by omega))|exact .inr (.inr (by assumption)))];exact Cz _
 have hc5:=bp hb5;refine f_ (h:=l_ (h:=AK (h:=AE (h:=m_ (h:=?_)))));refine AT false rfl rfl (fun hb6=>?_) (fun hb6=>?_)
 ·have hc6:=bp hb6;refine A3 (h:=A3 (h:=A3 (h:=AA (h:=e_ (B6 (h:=w_ (AX (h:=s_ (h:=a_ (h:=a_ (h:=e_ (A4 (A8 (?_))))))))))))));refine Av (r:=CS (Ee f dir name n)) none (h5:=?_) (h6:=⟨rfl,rfl,rfl⟩);rw[Ee,if_neg (by omega),if_neg hpn,if_neg (by omega),hatI];simp only;rw[if_pos (by first|exact .inl (by simp at *;omega)|exact .inr (.inl (by omega))|exact .inr (.inr (by assumption)))];exact Cz _
 have hc6:=bp hb6;refine l_ (h:=l_ (h:=?_));refine B2 (AB (Ok f dir hf) ?_);rintro r rfl;refine AE (h:=e_ (?_));refine A9 rfl (fun hb7=>?_) (fun hb7=>?_)
 ·have hc7:=bp hb7;refine w_ (AX (h:=s_ (h:=a_ (h:=a_ (h:=e_ (A4 (A8 (?_))))))));refine Av (r:=CS (Ee f dir name n)) none (h5:=?_) (h6:=⟨rfl,rfl,rfl⟩);rw[Ee,if_neg (by omega),if_neg hpn,if_neg (by omega),hatI];simp only;rw[if_pos (by first|exact .inl (by simp at *;omega)|exact .inr (.inl (by omega))|exact .inr (.inr (by assumption)))];exact Cz _
 have hc7:=bp hb7;refine AD (w_ (l_ (h:=?_)));refine A6 rfl (EM [] rfl (.cons _ _ _ _ _ rfl (AZ _) .nil) (by decide) .nil (K1 f q d hf hq (by omega)) ?_);rintro r bc tc ⟨rfl,cap,cap1,hcap,hcap1,rfl,rfl⟩;refine⟨rfl,_,(K7 (n:=6) rfl f q d d.nodes cap cap1:Back _ [] _ [_,_,_,_,_,_,_,_]),?_⟩;have hD0:(DB f q d 7 cap cap1)[0+q * 2+1]?=some (.bs 7 0 8 d.nodes.length cap1):=GP hql;obtain⟨mk,hmk⟩:∃mk,mk=Dy n d.next dir.2:=⟨_,rfl⟩;refine Aa (h:=s_ (h:=e_ (w_ (f_ (h:=l_ (h:=f_ (h:=l_ (h:=f_ (h:=l_ (h:=f_ (h:=l_ (h:=f_ (h:=l_ (h:=f_ (h:=l_ (h:=?_))))))))))))))));refine A6 rfl (Hj (y:= .agg (Ap ⟨d.next,n.kind,n.mode,n.uid,n.gid,0,n.target,[]⟩)) (EE ⟨rfl,rfl⟩) ?_);refine Aa (h:=s_ (h:=e_ (?_)));refine Bx (fun t=>t=⟨look [(2, .v (.string name)),(5, .bp 1 0),(8, .bp 3 0),(15, .bp 8 0),(16, .bp 9 0)],⟨[At f,AF dir,Ap n,[.v (.slice none 0 0)],AF (AU f dir name).1,Bo d,DB f q d 7 cap cap1,NB d.nodes cap1,[.bs 6 0 2 f.length cap],Ap mk],[]⟩⟩) ?_ ?_
 ·skip
  refine w_ (f_ (h:=l_ (h:=AK (h:=e_ (?_)))));refine A9 rfl (fun hb8=>?_) (fun hb8=>?_)
  ·have hc8:=bp hb8;have hmk2:mk=⟨d.next,n.kind,n.mode,n.uid,n.gid,dir.2,n.target,[]⟩:=by rw[hmk];unfold Dy;rw[if_pos hc8]
   refine AR (f_ (h:=l_ (h:=f_ (h:=s_ (h:=AP (?_))))));refine AJ ?_;refine⟨_,rfl,?_⟩;rw[hmk2];exact C4 10 0 (by simp[BK,BB,BA,Bl,Bm,AF,Ap,At,Bo])
  have hc8:=bp hb8;have hmk2:mk=⟨d.next,n.kind,n.mode,n.uid,n.gid,0,n.target,[]⟩:=by rw[hmk];unfold Dy;rw[if_neg hc8]
  refine Aq (?_);refine AJ ?_;refine⟨_,rfl,?_⟩;rw[hmk2];exact C4 10 0 (by simp[BK,BB,BA,Bl,Bm,AF,Ap,At,Bo])
 rintro t rfl;refine Bx (fun t=>∃capx,(d.nodes++[mk]).length≤capx∧t=⟨look [(2, .v (.string name)),(5, .bp 1 0),(8, .bp 3 0),(15, .bp 8 0),(16, .bp 9 0)],⟨[At f,AF dir,Ap n,[.v (.slice none 0 0)],AF (AU f dir name).1,Bo d,DB f q {d with nodes:=d.nodes++[mk]} 7 cap capx,NB (d.nodes++[mk]) capx,[.bs 6 0 2 f.length cap],Ap mk],[]⟩⟩) ?_ ?_
 ·skip
  refine C3 ([(0,At f),(1,AF dir),(2,Ap n),(3,[.v (.slice none 0 0)]),(4,AF (AU f dir name).1),(5,Bo d),(6,DB f q d 7 cap cap1),(8,[.bs 6 0 2 f.length cap]),(9,Ap mk)]) 16 (h:=?_);refine DT 0 rfl (fun h0 hS=>E0 rfl ⟨rfl,rfl⟩) ?_
  first|refine DT 1 rfl (fun h0 hS=>Be (row:=DB f q d 7 cap cap1) rfl (kb hS rfl) hD0 ⟨rfl,rfl⟩) ?_|refine DT 1 rfl (fun h0 hS=>Be rfl (kb hS rfl) rfl ⟨rfl,rfl⟩) ?_
  refine DT 2 rfl (fun h0 hS=>E0 rfl ⟨rfl,rfl⟩) ?_
  first|refine DT 3 rfl (fun h0 hS=>Be (row:=DB f q d 7 cap cap1) rfl (kb hS rfl) hD0 ⟨rfl,rfl⟩) ?_|refine DT 3 rfl (fun h0 hS=>Be rfl (kb hS rfl) rfl ⟨rfl,rfl⟩) ?_
  refine DT 4 rfl (fun h0 hS=>E0 rfl ⟨rfl,rfl⟩) ?_
  first|refine DT 5 rfl (fun h0 hS=>Be (row:=DB f q d 7 cap cap1) rfl (kb hS rfl) hD0 ⟨rfl,rfl⟩) ?_|refine DT 5 rfl (fun h0 hS=>Be rfl (kb hS rfl) rfl ⟨rfl,rfl⟩) ?_
  refine DT 6 rfl (fun h0 hS=>E0 rfl ⟨rfl,rfl⟩) ?_
  first|refine DT 7 rfl (fun h0 hS=>Be (row:=DB f q d 7 cap cap1) rfl (kb hS rfl) hD0 ⟨rfl,rfl⟩) ?_|refine DT 7 rfl (fun h0 hS=>Be rfl (kb hS rfl) rfl ⟨rfl,rfl⟩) ?_
  refine DT 8 rfl (fun h0 hS=>DQ (m:=q) rfl rfl hdq hql ⟨rfl,rfl⟩) ?_;refine DT 9 rfl (fun h0 hS=>E0 rfl ⟨rfl,rfl⟩) ?_
  first|refine DT 10 rfl (fun h0 hS=>Be (row:=DB f q d 7 cap cap1) rfl (kb hS rfl) hD0 ⟨rfl,rfl⟩) ?_|refine DT 10 rfl (fun h0 hS=>Be rfl (kb hS rfl) rfl ⟨rfl,rfl⟩) ?_
  first|refine DT 11 rfl (fun h0 hS=>Be (row:=DB f q d 7 cap cap1) rfl (kb hS rfl) hD0 ⟨rfl,rfl⟩) ?_|refine DT 11 rfl (fun h0 hS=>F2 rfl (kb hS rfl) rfl ⟨rfl,rfl⟩) ?_
  refine DT 12 rfl (fun h0 hS=>Ke (by repeat (first|exact DenseA.nil _|(apply DenseA.cons;(focus exact rfl);(focus exact rfl);(focus exact rfl);(focus exact rfl))|(apply DenseA.consE;(focus exact rfl);(focus exact rfl);(focus exact rfl)))) rfl rfl rfl rfl ⟨rfl,rfl⟩) ?_;refine c_ 13 rfl (OU rfl rfl rfl (by rw[LD hcap1];omega) N3 (by omega) (by omega) ?_ ?_)
  ·rintro hg row2 bx2 hs hb;obtain rfl:=Sn hs hg;obtain rfl:bx2=[_,_,_,_,_,_,_,_,_,_]:=hb.one.2;have hgx:(d.nodes++[mk]).length≤cap1:=by simpa using hg
   refine o_ (h:=?_);refine DT 14 rfl (fun h0 hS=>DQ (m:=q) rfl rfl hdq hql ⟨rfl,rfl⟩) ?_;refine DT 15 rfl (fun h0 hS=>E0 rfl ⟨rfl,rfl⟩) ?_;refine Bd 16 rfl (BY rfl rfl rfl rfl rfl rfl (TC mk hql) (by repeat constructor) ?_);refine o_ (h:=z_ (h:=?_));refine AJ ?_
   first|exact⟨_,⟨_,hgx,rfl⟩,Hg [0,1,2,3,4,5,6,10,8,9] (fun i hi=>absurd hi (Nat.not_lt_zero i)) (by decide) (.cons _ _ _ _ _ rfl rfl (.cons _ _ _ _ _ rfl rfl (.cons _ _ _ _ _ rfl rfl (.cons _ _ _ _ _ rfl rfl (.cons _ _ _ _ _ rfl rfl (.cons _ _ _ _ _ rfl rfl (.cons _ _ _ _ _ rfl (Hs (by rfl) _ _ _ _ _) (.cons _ _ _ _ _ rfl (Fu _ _ _) (.cons _ _ _ _ _ rfl rfl (.cons _ _ _ _ _ rfl rfl .nil)))))))))) (by repeat (first|exact SubK.nil|refine SubK.cons _ _ _ _ rfl (AZ _) ?_))⟩|exact⟨_,⟨_,hgx,rfl⟩,C4 10 0 (by simp[BK,BB,BA,Bl,Bm,AF,Ap,At,Bo])⟩
  rintro hg cap3 k bx2 hcp3 hs;rw[show((NB d.nodes cap1).drop 0).take (d.nodes.length * 8)++CJ (.agg (Ap mk))++List.replicate ((cap3 - (d.nodes.length+1)) * 8) AV.any=NB (d.nodes++[mk]) cap3 from Sm d.nodes mk cap1 cap3]at hs;obtain⟨rfl,rfl⟩:k=10∧bx2=[_,_,_,_,_,_,_,_,_,_,_]:=hs.eq;have hgx:(d.nodes++[mk]).length≤cap3:=by simpa using hcp3
  refine o_ (h:=?_);refine DT 14 rfl (fun h0 hS=>DQ (m:=q) rfl rfl hdq hql ⟨rfl,rfl⟩) ?_;refine DT 15 rfl (fun h0 hS=>E0 rfl ⟨rfl,rfl⟩) ?_;refine Bd 16 rfl (BY rfl rfl rfl rfl rfl rfl (TC mk hql) (by repeat constructor) ?_);refine o_ (h:=z_ (h:=?_));refine AJ ?_
  first|exact⟨_,⟨_,hgx,rfl⟩,Hg [0,1,2,3,4,5,6,10,8,9] (fun i hi=>absurd hi (Nat.not_lt_zero i)) (by decide) (.cons _ _ _ _ _ rfl rfl (.cons _ _ _ _ _ rfl rfl (.cons _ _ _ _ _ rfl rfl (.cons _ _ _ _ _ rfl rfl (.cons _ _ _ _ _ rfl rfl (.cons _ _ _ _ _ rfl rfl (.cons _ _ _ _ _ rfl (Hs (by rfl) _ _ _ _ _) (.cons _ _ _ _ _ rfl (Fu _ _ _) (.cons _ _ _ _ _ rfl rfl (.cons _ _ _ _ _ rfl rfl .nil)))))))))) (by repeat (first|exact SubK.nil|refine SubK.cons _ _ _ _ rfl (AZ _) ?_))⟩|exact⟨_,⟨_,hgx,rfl⟩,C4 10 0 (by simp[BK,BB,BA,Bl,Bm,AF,Ap,At,Bo])⟩
 rintro t ⟨capx,hcapx,rfl⟩;have hasc2:DS (d.nodes++[mk]):=List.pairwise_append.2 ⟨hvd.asc,List.pairwise_singleton _ _,fun x hx y hy=>by obtain rfl:=List.mem_singleton.1 hy;rw[hmk];exact hvd.lt x hx⟩;have hn2:(d.nodes++[mk])[i]?=some n0:=by rw[CT hil];exact hn0
 have hidx2:EO (f.set q ⟨d.next+1,d.nodes++[mk]⟩) dir=(i:Int):=Pl hdq (d:=⟨d.next+1,d.nodes++[mk]⟩) (by simp[hql]) hasc2 hn2 hino
 have hf2:FlsB (f.set q ⟨d.next+1,d.nodes++[mk]⟩):=hf.set_ (by have:=hvd.len;simp;omega) (fun m hm=>by
  rcases List.mem_append.1 hm with h|h
  ·have:=hvd.many m h;omega
  obtain rfl:=List.mem_singleton.1 h;rw[hmk];simp[Dy])
 have hmki:mk.ino=d.next:=by rw[hmk];rfl
 have hmk0:(Ap mk)[0+0]?=some (.v (.int .i64 d.next)):=by rw[hmk];rfl
 refine w_ (f_ (h:=l_ (h:=f_ (h:=l_ (h:=?_)))));refine A6 rfl (DQ (m:=q) rfl rfl hdq hql ?_);refine f_ (h:=?_);refine A6 rfl (Be rfl rfl (XR hql) ?_);refine A6 rfl (JB rfl rfl (by dsimp only;omega) ?_);refine A6 rfl (DQ (m:=q) rfl rfl hdq hql ?_);refine f_ (h:=?_);refine Ki (BY rfl rfl rfl rfl rfl rfl (PJ (d':=⟨d.next+1,d.nodes++[mk]⟩) (j':=7) (cap1':=capx) (k:=0) (cs:=[.v (.int .i64 (d.next+1))]) hql (by repeat constructor) (by simp)) (by repeat constructor) ?_);refine e_ (w_ (l_ (h:=l_ (h:=m_ (h:=f_ (h:=l_ (h:=?_)))))));refine A6 rfl (EM [6,7] rfl (.cons _ _ _ _ _ rfl (AZ _) (.cons _ _ _ _ _ rfl (AZ _) (.cons _ _ _ _ _ rfl (AZ _) (.cons _ _ _ _ _ rfl (LeA.of_eq (show AV.v (.int .i64 mk.ino)=_ by rw[hmki])) .nil)))) (by decide) (.cons _ _ _ _ _ rfl (FE (by rfl) _ _ _ _ _) (.cons _ _ _ _ _ rfl (Et _ _ _) .nil)) (TA f q ⟨d.next+1,d.nodes++[mk]⟩ n0 i dir name d.next cap capx hf2 hql hdq hidx2 hn2 hcap hcapx) ?_);rintro r bc tc ⟨rfl,rfl,rfl⟩;refine⟨rfl,_,(K8 (B9 rfl) (B9 rfl) (by decide) f q ⟨d.next+1,d.nodes++[mk]⟩ (entS (d.nodes++[mk]) i n0 name d.next) cap capx capx:Back _ [6,7] _ [_,_,_,_,_,_,_,_,_,_]),?_⟩;refine e_ (?_);refine Bx (fun t=>t=⟨look [(8, .bp 3 0),(9, .sl 7 [EH (dir,name,(0,0),(dir.1,d.next))] none),(10, .v (.int .i64 0))],⟨[At f,AF dir,Ap n,At (f.set q ⟨d.next+1,entS (d.nodes++[mk]) i n0 name d.next⟩)],[]⟩⟩) ?_ ?_
 ·skip
  refine C3 ([(0,At f),(1,AF dir),(2,Ap n),(4,AF (AU f dir name).1),(5,Bo d),(8,[.bs 6 0 2 f.length cap]),(9,Ap mk)]) 13 (h:=AO 0 (h:=AO 1 (h:=Ac 2 (h:=?_))));refine BN 3 rfl (fun _ hS=>GG (y:= .agg (AF (0,0))) (EE ⟨rfl,rfl⟩) (by repeat (first|exact AZ _|exact LeA.nil _|exact LeL.refl _|refine LeA.agg ⟨rfl,rfl⟩|refine LeA.tup ⟨rfl,rfl⟩|exact LeL.nil|refine LeL.cons ⟨rfl,rfl⟩ ⟨rfl,rfl⟩|exact LeA.any _)) ⟨rfl,rfl⟩) ?_;refine Aw 4 (h:=AO 5 (h:=Aw 6 (h:=?_)));refine BN 7 rfl (fun _ hS=>Be (row:=Ap mk) rfl (kb hS rfl) hmk0 ⟨rfl,rfl⟩) ?_;refine Fa 8 (h:=?_);refine c_ 9 rfl (AB (JT dir name (0,0) (dir.1,d.next)) ?_);rintro r rfl;refine o_ (h:=?_);refine Bd 10 rfl (BY rfl rfl rfl rfl rfl rfl (by repeat constructor) (by repeat constructor) ?_);refine o_ (h:=BL 11 (h:=BL 12 (h:=z_ (h:=?_))));refine AJ ?_;exact⟨_,rfl,F7 4 2 rfl (congrArg (fun x=>[At f,AF dir,Ap n,x]) (Fh (k:=0) (i:=6) (j:=7) (d:=⟨d.next+1,d.nodes++[mk]⟩) (d':=⟨d.next+1,entS (d.nodes++[mk]) i n0 name d.next⟩) hql rfl (FH _ _ _ _ _) hcap (by rw[FH];exact hcapx) (B9 rfl) (B9 rfl) rfl rfl)) (.cons _ _ _ _ rfl (AZ _) (.cons _ _ _ _ rfl (AZ _) (.cons _ _ _ _ rfl (AZ _) .nil)))⟩
 rintro t rfl;refine A4 (?_);refine A7 ?_;rw[List.length_map]at hc5;rw[Ee,if_neg (by omega),if_neg hpn,if_neg (by omega),hatI];simp only;rw[if_neg (by rw[hc7];simp;omega),hdq,Int.toNat_natCast,←hino,←K9 hvd hn0,hino,←hmk,show entS d.nodes i n0 name d.next++[mk]=entS (d.nodes++[mk]) i n0 name d.next by unfold entS;rw[List.set_append_left _ _ hil],←hdq];rfl
end
theorem TD(f:Af)(hf:FlsB f):AFn prog 182 [.agg (At f)] (fun r=>r= .agg (At f)):=by
 intro w St bl vs hr hv;have hbl:bl=[]:=by have:=hr.bxlen;simpa using this
 subst hbl;simp only[AY]at hv;obtain⟨z,zs,rfl,hz,rfl⟩:=hv;have hz':Am St w (.agg (At f)) z:=by have:=EX _ _ hz;simpa[CU,DO,At]using this
 have hF:=SS hr.stlt hf hz';refine Calls.mono (Old.Copy_any z f w hF) ?_;rintro e w' ⟨dv,L,rfl,hD,hL,hB⟩;have hsz:=hB.size;obtain⟨d1,d2,d3,d4⟩:=hD;let St':Nat→Nat→Prop:=fun b o=>St b o∨(w.heap.size≤b∧b<w'.heap.size);let G':Gh:=⟨St',[],[]⟩;have hfresh:∀{α:Type} {sz:Nat} {cell:α→Nat→Value} {E:TypeId} {v:Value} {xs:List α},Old.OwnL sz cell E w' w.heap.size v xs→∀b,v.ownBlock=some b→∀o,St' b o:=fun h b hb o=> .inr (h.lt b hb)
 have hents:∀(y:Nod×Value),Old.OwnL 2 Old.entCell 234 w' w.heap.size y.2 y.1.entries→Am St' w' (.sl 2 (y.1.entries.map CG) none) y.2:=by
  intro y hy;refine L9 hy (hfresh hy) (fun _ _=>rfl) fun e _ j av hj=>?_
  match j,hj with
  |0,hj=>injection hj with hj;subst hj;simp only[Am];rfl
  |1,hj=>injection hj with hj;subst hj;simp only[Am];rfl
 have hnod:∀(y:Nod×Value),Old.OwnL 2 Old.entCell 234 w' w.heap.size y.2 y.1.entries→∀j av,(Ap y.1)[j]?=some av→Am St' w' av (Old.nodCell y j):=by
  intro y hy j av hj
  match j,hj with
  |0,hj=>injection hj with hj;subst hj;simp only[Am];rfl
  |1,hj=>injection hj with hj;subst hj;simp only[Am];rfl
  |2,hj=>injection hj with hj;subst hj;simp only[Am];rfl
  |3,hj=>injection hj with hj;subst hj;simp only[Am];rfl
  |4,hj=>injection hj with hj;subst hj;simp only[Am];rfl
  |5,hj=>injection hj with hj;subst hj;simp only[Am];rfl
  |6,hj=>injection hj with hj;subst hj;simp only[Am];rfl
  |7,hj=>injection hj with hj;subst hj;exact hents y hy
  |j+8,hj=>exact absurd hj (by simp[Ap])
 have hdev:Am St' w' (.sl 2 (L.map fun x=>Bo (Old.dvcOf x)) none) dv:=by
  refine L9 d1 (hfresh d1) (fun _ _=>rfl) fun x hx j av hj=>?_;obtain⟨f1,f2,f3⟩:=(d2 x hx).1
  match j,hj with
  |0,hj=>injection hj with hj;subst hj;simp only[Am];rfl
  |1,hj=>
    injection hj with hj;subst hj;have key:=L9 f1 (St:=St') (hfresh f1) (enc:=fun y=>Ap y.1) (fun _ _=>rfl) fun z hz j av hj=>hnod z (f2 z hz).1 j av hj;have e:((Old.dvcOf x).nodes.map Ap)=x.2.2.map fun y=>Ap y.1:=by simp[Old.dvcOf]
    rw[e];exact key
  |j+2,hj=>exact absurd hj (by simp[Bo])
 have hst:∀b o,St b o→b<w.heap.size:=hr.stlt;refine⟨.agg (At f),[],[],G',⟨rfl,rfl,rfl⟩,⟨?_,?_,?_,?_,rfl,?_,?_,?_,?_,rfl,?_,?_,?_⟩,⟨?_,?_,?_⟩,?_⟩
 ·intro i b hi;simp at hi
 ·exact⟨hB.os,hB.tape,hB.output,hB.size,fun k hk _=>hB.block k hk⟩
 ·rintro b o (h|h)
  ·have:=hst b o h;omega
  exact h.2
 ·rintro b o (h|h)
  ·exact .inl h
  exact .inr h.1
 ·show([]:List Nat).Nodup;simp
 ·intro b hb;simp[G']at hb
 ·intro b hb;simp[G']at hb
 ·intro i b row hi;simp[G']at hi
 ·intro g n u T sz rows hg;simp[G']at hg
 ·intro g n u hg;simp[G']at hg
 ·intro g g' n n' u u' hg;simp[G']at hg
 ·exact fun b o h=>⟨.inl h,hB.cell (p:=⟨b,o,none⟩) (hst b o h)⟩
 ·intro i b hi;simp at hi
 ·intro g n u hg;simp at hg
 refine F0 _ _ ?_;unfold At;rw[←hL,Old.flsOf,List.map_map];simp only[Am,BW];have hdev2:Am St' w' (.sl 2 (L.map (Bo ∘ Old.dvcOf)) none) dv:=hdev;simp only[Am]at hdev2;exact⟨[dv],rfl,dv,[],rfl,hdev2,rfl⟩
end Go.Proofs.YtbgnigjfkbmceaaGreatDoor
