/-
  Part 7 of the proof of WatchReplacedP: what the statement's proof uses of the texts in wip/tpl.
-/
import Derived.Test.YtobclmbkdhbnpaaGreatDoorQa6
open Go.Proofs.Tryz (prog)
set_option maxRecDepth 10000
set_option maxHeartbeats 4000000
set_option linter.unusedVariables false
set_option linter.unusedSimpArgs false
namespace Go.Proofs.YtobclmbkdhbnpaaGreatDoor
theorem TN:∀(xs l:List Int),xs.Nodup→(∀x∈xs,x∈l)→xs.length≤l.length
 |[],_,_,_=>BJ _
 |x::xs,l,hd,hs=>by
   obtain⟨h1,h2⟩:=List.nodup_cons.1 hd;have hx:x∈l:=hs x (by simp);have ih:=TN xs (l.erase x) h2 fun y hy=>(List.mem_erase_of_ne (fun e:y=x=>h1 (e ▸ hy))).2 (hs y (by simp[hy]));have hl:=List.length_erase_of_mem hx;have hp:0<l.length:=List.length_pos_of_mem hx;simp only[List.length_cons];omega
def MH(ns:List Nod):Nat→Int→Int→Prop
 |0,x,y=>x=y
 |k+1,x,y=>∃n∈ns,n.ino=x∧n.ino≠1∧n.kind=2∧MH ns k n.parent y
def Fm(ns:List Nod)(x y:Int):Prop:=∃k,MH ns k x y
theorem TO{ns:List Nod}{rk:Int→Nat}(hrk:∀n∈ns,n.ino≠1→n.kind=2→rk n.parent<rk n.ino):∀(k:Nat) (x y:Int),MH ns k x y→∃l:List Int,l.length=k∧l.Nodup∧∀z∈l,(∃n∈ns,n.ino=z)∧rk y<rk z∧rk z≤rk x
 |0,_,_,_=>⟨[],rfl,List.nodup_nil,by simp⟩
 |k+1,x,y,h=>by
   obtain⟨n,hn,rfl,h1,h2,h3⟩:=h;obtain⟨l,e,hd,hl⟩:=TO hrk k _ _ h3;have hlt:=hrk n hn h1 h2
   have hy:rk y≤rk n.parent:=by
    cases l with
    |nil=>
      have hk:k=0:=by simpa using e.symm
      subst hk;have:n.parent=y:=h3;rw[this];exact Av _
    |cons z l=>
      have:=hl z (by simp);omega
   refine⟨n.ino::l,by simp[e],List.nodup_cons.2 ⟨fun hm=>?_,hd⟩,?_⟩
   ·have:=(hl _ hm).2.2;omega
   intro z hz;rcases List.mem_cons.1 hz with rfl|hz
   ·exact⟨⟨n,hn,rfl⟩,by omega,Av _⟩
   obtain⟨q1,q2,q3⟩:=hl z hz;exact⟨q1,q2,by omega⟩
theorem VD.anc_len{d:Dvc}(h:VD d){k:Nat}{x:Int}{a:Nod}(ha:a∈d.nodes)(hk:MH d.nodes k x a.ino):k+1≤d.nodes.length:=by
 obtain⟨rk,hrk⟩:=h.rank;obtain⟨l,e,hd,hl⟩:=TO hrk k x a.ino hk
 have:=TN (a.ino::l) (d.nodes.map (·.ino)) (List.nodup_cons.2 ⟨fun hm=>by have:=(hl _ hm).2.1;omega,hd⟩) (fun z hz=>by
  rcases List.mem_cons.1 hz with rfl|hz
  ·exact List.mem_map.2 ⟨a,ha,rfl⟩
  obtain⟨n,hn,e⟩:=(hl z hz).1
  exact List.mem_map.2 ⟨n,hn,e⟩)
 simp only[List.length_cons,List.length_map]at this;omega
def EO(p1 p2:Int)(name name2:AE)(a:Int)(n:Nod):List B1:=
 let es:=if n.ino=p1 then CU n.entries name 0 else n.entries
 if n.ino=p2 then CU es name2 a else es
def H3(p1 p2:Int)(name name2:AE)(a:Int)(n:Nod):Nod:=
 {n with entries:=EO p1 p2 name name2 a n,parent:=if n.ino=a∧n.kind=2 then p2 else n.parent}
def Dd(ns:List Nod)(p1 p2:Int)(name name2:AE)(a:Int):List Nod:=ns.map (H3 p1 p2 name name2 a)
def GS(p:Int)(n:Nod):Nod:=if n.kind=2 then{n with parent:=p}else n
theorem TP(ns:List Nod)(p1 p2:Int)(name name2:AE)(a:Int):CZ (BS (BS ns p1 name 0) p2 name2 a) a (GS p2)=Dd ns p1 p2 name name2 a:=by
 unfold BS CZ Dd;rw[List.map_map,List.map_map];apply List.map_congr_left;intro n _;obtain⟨ino,kind,mode,uid,gid,parent,target,entries⟩:=n;simp only[Function.comp];unfold H3 EO MC GS;by_cases h1:ino=p1<;>by_cases h2:ino=p2<;>by_cases h3:ino=a<;>by_cases h4:kind=2<;>simp[h1,h2,h3,h4]<;>(try simp_all)
theorem Y7{es:List B1}{name name2:AE}(h:name≠name2):DL (Ds name es) name2=DL es name2:=by
 unfold DL Ds;rw[List.find?_filter]
 congr 1
 funext e
 by_cases h2:e.1=name2
 ·have:e.1≠name:=fun e'=>h (e'.symm.trans h2);simp[h2];intro e';exact h e'.symm
 simp[h2]
end Go.Proofs.YtobclmbkdhbnpaaGreatDoor
namespace Go.Proofs.YtobclmbkdhbnpaaGreatDoor
section
variable {p1 p2:Int}{name name2:AE}{a:Int}{n:Nod}
theorem Y8{e:B1}(h:e∈EO p1 p2 name name2 a n):e∈n.entries∨(n.ino=p2∧e=(name2,a)):=by
 unfold EO at h
 have base:∀{x:B1},x∈(if n.ino=p1 then CU n.entries name 0 else n.entries)→x∈n.entries:=by
  intro x hx;split at hx
  ·rcases ME hx with h1|h1
   ·exact h1
   exact absurd rfl h1.2
  exact hx
 simp only at h;split at h
 ·rename_i h2;rcases ME h with h1|h1
  ·exact .inl (base h1)
  exact .inr ⟨h2,h1.1⟩
 exact .inl (base h)
theorem Y9{e:B1}(h:e∈n.entries)(h1:n.ino=p1→e.1≠name)(h2:n.ino=p2→e.1≠name2):e∈EO p1 p2 name name2 a n:=by
 unfold EO
 have base:e∈(if n.ino=p1 then CU n.entries name 0 else n.entries):=by
  split
  ·rename_i e1;exact MF h (h1 e1)
  exact h
 simp only;split
 ·rename_i e2;exact MF base (h2 e2)
 exact base
theorem YA(h:n.ino=p2)(ha:a≠0):(name2,a)∈EO p1 p2 name name2 a n:=by
 unfold EO;simp only[h,if_true];exact TL ha
theorem YB(h:Ei n.entries):Ei (EO p1 p2 name name2 a n):=by
 unfold EO
 have base:Ei (if n.ino=p1 then CU n.entries name 0 else n.entries):=by
  split
  ·exact Kk h _ _
  exact h
 simp only;split
 ·exact Kk base _ _
 exact base
end
open Classical in
noncomputable def MJ (S:Int→Prop) (rk:Int→Nat) (c:Nat) (x:Int):Nat:=if S x then rk x+c else rk x
theorem QA{S:Int→Prop}{rk:Int→Nat}{c:Nat}{x:Int}(h:S x):MJ S rk c x=rk x+c:=by unfold MJ;rw[if_pos h]
theorem QB{S:Int→Prop}{rk:Int→Nat}{c:Nat}{x:Int}(h:¬S x):MJ S rk c x=rk x:=by unfold MJ;rw[if_neg h]
theorem VD.renamed{d:Dvc}(h:VD d){n1 n2 a:Nod}(hn1:n1∈d.nodes)(hn2:n2∈d.nodes)(ha:a∈d.nodes)(hk2:n2.kind=2){name name2:AE}{e1:B1}(he1:DL n1.entries name=some e1)(hea:e1.2=a.ino)
    (hname2:D4 name2=true) (hdiff:n1.ino=n2.ino→name≠name2) (hanc:a.kind=2→¬Fm d.nodes n2.ino a.ino) {oi:Int}
    (ho:(DL n2.entries name2=none∧(n2.entries.length<12∨n1.ino=n2.ino)∧oi=0)∨(∃eo o,DL n2.entries name2=some eo∧o∈d.nodes∧eo.2=oi∧o.ino=oi∧oi≠a.ino∧o.entries=[])):
    VD ⟨d.next,Bx (Dd d.nodes n1.ino n2.ino name name2 a.ino) oi⟩:=by
 obtain⟨hem,hen⟩:=FO he1;have ha1:a.ino≠1:=by rw[←hea];exact(h.ent n1 hn1 e1 hem).2.1
 have ha0:a.ino≠0:=by have:=h.pos ha;omega
 have hoa:oi≠a.ino:=by
  rcases ho with⟨_,_,h1⟩|⟨_,_,_,_,_,_,h1,_⟩
  ·omega
  exact h1
 have ho1:oi≠1:=by
  rcases ho with⟨_,_,h1⟩|⟨eo,o,h1,_,h2,_⟩
  ·omega
  obtain⟨q1,_⟩:=FO h1;rw[←h2];exact(h.ent n2 hn2 eo q1).2.1
 have hoe:∀m∈d.nodes,m.ino=oi→m.entries=[]:=by
  intro m hm e;rcases ho with⟨_,_,h1⟩|⟨eo,o,_,h1,_,h2,_,h3⟩
  ·have:=h.pos hm;omega
  obtain rfl:=Cy h.asc hm h1 (by omega);exact h3
 have hm2:=GR n1.ino name 0 hn2;obtain⟨m2,hm2,hw2⟩:=hm2
 have hf2:DL m2.entries name2=DL n2.entries name2:=by
  rw[hw2.ents];split
  ·rename_i e;rw[Fk,Y7 (hdiff e.symm)]
  rfl
 have hasc1:=Km h.asc n1.ino name 0;have hasc2:=Km hasc1 n2.ino name2 a.ino
 have hsort2:Ei m2.entries:=by
  rw[hw2.ents];split
  ·exact Kk (h.sorted n2 hn2) _ _
  exact h.sorted n2 hn2
 have hcntR:∀i,1≤i→Bg i (Dd d.nodes n1.ino n2.ino name name2 a.ino)+b1 (oi=i)=Bg i d.nodes:=by
  intro i hi;have c1:=MD h.asc hn1 name 0 i;have c2:=TK (h.sorted n1 hn1) he1 i;rw[hea]at c2;have c3:=MD hasc1 hm2 name2 a.ino i;rw[hw2.ino]at c3;obtain⟨m',hm',hw'⟩:=GR n1.ino name 0 ha;obtain⟨m'',hm'',hw''⟩:=GR (ns:=BS d.nodes n1.ino name 0) n2.ino name2 a.ino hm';have c4:=Q5 hasc2 hm'' (GS n2.ino) i;have e4:(GS n2.ino m'').entries=m''.entries:=by unfold GS;split<;>rfl
  rw[e4,hw''.ino,hw'.ino,TP]at c4;rcases ho with⟨h1,_,h2⟩|⟨eo,o,h1,_,h2,_⟩
  ·have c5:=Q9 (hf2.trans h1) ha0 i;rw[K1 (show¬oi=i by omega)];omega
  have c5:=Y6 hsort2 (hf2.trans h1) ha0 i;rw[h2]at c5;omega
 have hmem:∀{m:Nod},m∈Bx (Dd d.nodes n1.ino n2.ino name name2 a.ino) oi→(∃n∈d.nodes,m=H3 n1.ino n2.ino name name2 a.ino n)∧m∈Dd d.nodes n1.ino n2.ino name name2 a.ino∧(m.ino≠oi∨0<Bg oi (Dd d.nodes n1.ino n2.ino name name2 a.ino)):=by
  intro m hm;obtain⟨q1,q2⟩:=K4.1 hm;obtain⟨n,hn,e⟩:=List.mem_map.1 q1;exact⟨⟨n,hn,e.symm⟩,q1,q2⟩
 have hkeep:∀{n:Nod},n∈d.nodes→(n.ino=oi→0<Bg oi (Dd d.nodes n1.ino n2.ino name name2 a.ino))→H3 n1.ino n2.ino name name2 a.ino n∈Bx (Dd d.nodes n1.ino n2.ino name name2 a.ino) oi:=by
  intro n hn hc;refine K4.2 ⟨List.mem_map.2 ⟨n,hn,rfl⟩,?_⟩;by_cases e:n.ino=oi
  ·exact .inr (hc e)
  exact .inl e
 have hcnt:∀i,Bg i (Bx (Dd d.nodes n1.ino n2.ino name name2 a.ino) oi)=Bg i (Dd d.nodes n1.ino n2.ino name name2 a.ino):=by
  refine fun i=>TM (fun m hm hp=>?_) i;have hp':=of_decide_eq_false hp;obtain⟨n,hn,rfl⟩:=List.mem_map.1 hm;have hmi:n.ino=oi:=Classical.byContradiction fun h=>hp' (.inl h);have h0:=hoe n hn hmi
  have q1:n.ino≠n1.ino:=fun e=>by
   obtain rfl:=Cy h.asc hn hn1 e;rw[h0]at hem;cases hem
  have q2:n.ino≠n2.ino:=fun e=>by
   obtain rfl:=Cy h.asc hn hn2 e;rcases ho with⟨_,_,h1⟩|⟨eo,o,h1,_⟩
   ·have:=h.pos hn;omega
   obtain⟨q,_⟩:=FO h1;rw[h0]at q;cases q
  show EO n1.ino n2.ino name name2 a.ino n=[];unfold EO;simp only[q1,q2,if_false];exact h0
 have hdo:∀{n:Nod},n∈d.nodes→n.ino≠1→n.kind=2→(n.ino≠oi∨0<Bg oi (Dd d.nodes n1.ino n2.ino name name2 a.ino))→n.ino≠oi:=by
  intro n hn h1 h2 hc e;rcases hc with hc|hc
  ·exact hc e
  have c1:=h.one n hn h1 h2;have c2:=hcntR n.ino (h.pos hn);rw[MG e.symm]at c2;rw[←e]at hc;omega
 refine⟨?_,h.next2,h.nextM,?_,?_,?_,?_,?_,?_,?_,?_,?_,?_,?_,?_⟩
 ·have q1:(Bx (Dd d.nodes n1.ino n2.ino name name2 a.ino) oi).length≤(Dd d.nodes n1.ino n2.ino name name2 a.ino).length:=List.length_filter_le _ _;have q2:(Dd d.nodes n1.ino n2.ino name name2 a.ino).length=d.nodes.length:=by simp[Dd]
  have:=h.len;show(Bx _ _).length≤16;omega
 ·obtain⟨r,rest,hr,h1,h2,h3⟩:=h.root;refine⟨H3 n1.ino n2.ino name name2 a.ino r,(rest.map (H3 n1.ino n2.ino name name2 a.ino)).filter fun m=>decide (m.ino≠oi∨0<Bg oi (Dd d.nodes n1.ino n2.ino name name2 a.ino)),?_,h1,h2,?_⟩
  ·show Bx (Dd d.nodes n1.ino n2.ino name name2 a.ino) oi=_;have e:Dd d.nodes n1.ino n2.ino name name2 a.ino=H3 n1.ino n2.ino name name2 a.ino r::rest.map (H3 n1.ino n2.ino name name2 a.ino):=by unfold Dd;rw[hr];rfl
   unfold Bx
   conv=>lhs;arg 2;rw[e]
   rw[List.filter_cons,if_pos (decide_eq_true (.inl (by show r.ino≠oi;rw[h1];exact fun e=>ho1 e.symm)))]
  show(if r.ino=a.ino∧r.kind=2 then n2.ino else r.parent)=1;rw[if_neg (fun e=>ha1 (by rw[←e.1];exact h1))];exact h3
 ·refine List.Pairwise.filter _ ?_;show DX (Dd d.nodes n1.ino n2.ino name name2 a.ino);rw[Q4]
  have e:(Dd d.nodes n1.ino n2.ino name name2 a.ino).map (·.ino)=d.nodes.map (·.ino):=by
   unfold Dd;rw[List.map_map];rfl
  rw[e,←Q4];exact h.asc
 ·intro m hm;obtain⟨⟨n,hn,rfl⟩,_⟩:=hmem hm;exact h.lt n hn
 ·intro m hm;obtain⟨⟨n,hn,rfl⟩,_⟩:=hmem hm;exact h.plain n hn
 ·intro m hm hk;obtain⟨⟨n,hn,rfl⟩,_⟩:=hmem hm;have hk':n.kind≠2:=hk;obtain⟨q1,q2⟩:=h.leaf n hn hk';refine⟨?_,?_⟩
  ·show(if n.ino=a.ino∧n.kind=2 then n2.ino else n.parent)=0;rw[if_neg (fun e=>hk' e.2)];exact q1
  show EO n1.ino n2.ino name name2 a.ino n=[]
  have r1:n.ino≠n1.ino:=fun e=>by
   obtain rfl:=Cy h.asc hn hn1 e;rw[q2]at hem;cases hem
  have r2:n.ino≠n2.ino:=fun e=>by
   obtain rfl:=Cy h.asc hn hn2 e;exact hk' hk2
  unfold EO;simp only[r1,r2,if_false];exact q2
 ·intro m hm;obtain⟨⟨n,hn,rfl⟩,_⟩:=hmem hm;show(EO n1.ino n2.ino name name2 a.ino n).length≤12;by_cases q2:n.ino=n2.ino
  ·obtain rfl:=Cy h.asc hn hn2 q2
   have e2:EO n1.ino n.ino name name2 a.ino n=CU m2.entries name2 a.ino:=by
    unfold EO;simp only[if_true];rw[hw2.ents]
   rw[e2,(H0 _ name2 ha0).length_eq,List.length_cons];rcases ho with⟨h1,h2,_⟩|⟨eo,o,h1,_⟩
   ·rw[Nr (hf2.trans h1),hw2.ents];rcases h2 with h2|h2
    ·split
     ·rw[Fk];have:(Ds name n.entries).length≤n.entries.length:=List.length_filter_le _ _;omega
     omega
    rw[if_pos h2.symm,Fk];obtain rfl:=Cy h.asc hn1 hn h2;have:=(Ns (h.sorted n1 hn1) he1).length_eq;rw[List.length_cons]at this;have:=h.many n1 hn1;omega
   have c1:=(Ns hsort2 (hf2.trans h1)).length_eq;rw[List.length_cons]at c1
   have c2:m2.entries.length≤n.entries.length:=by
    rw[hw2.ents];split
    ·rw[Fk];exact List.length_filter_le _ _
    exact Av _
   have:=h.many n hn;omega
  unfold EO;simp only[q2,if_false];split
  ·rw[Fk];exact Nat.le_trans (List.length_filter_le _ _) (h.many n hn)
  exact h.many n hn
 ·intro m hm;obtain⟨⟨n,hn,rfl⟩,_⟩:=hmem hm;exact YB (h.sorted n hn)
 ·intro m hm e he;obtain⟨⟨n,hn,rfl⟩,hmR,_⟩:=hmem hm;have he':e∈EO n1.ino n2.ino name name2 a.ino n:=he;rcases Y8 he' with q|⟨_,rfl⟩
  ·obtain⟨k1,k2,x,hx,k3⟩:=h.ent n hn e q;refine⟨k1,k2,_,hkeep hx (fun e1=>MB.2 ⟨_,hmR,e,he,?_⟩),k3⟩;rw[←k3,e1]
  exact⟨hname2,ha1,_,hkeep ha (fun e1=>absurd e1.symm hoa),rfl⟩
 ·intro m hm h1;rw[hcnt];obtain⟨⟨n,hn,rfl⟩,_,hc⟩:=hmem hm;have h1':n.ino≠1:=h1;show 0<Bg n.ino _;have c1:=hcntR n.ino (h.pos hn);by_cases e:n.ino=oi
  ·rcases hc with hc|hc
   ·exact absurd e hc
   rw[e];exact hc
  rw[K1 (fun h=>e h.symm)]at c1;have:=h.link n hn h1';omega
 ·intro m hm h1 h2;rw[hcnt];obtain⟨⟨n,hn,rfl⟩,_,hc⟩:=hmem hm;have h1':n.ino≠1:=h1;have h2':n.kind=2:=h2;show Bg n.ino _=1;have c1:=hcntR n.ino (h.pos hn);rw[K1 (fun e=>hdo hn h1' h2' hc e.symm)]at c1;have:=h.one n hn h1' h2';omega
 ·intro m hm h1 h2;obtain⟨⟨n,hn,rfl⟩,_,hc⟩:=hmem hm;have h1':n.ino≠1:=h1;have h2':n.kind=2:=h2;have hno:=hdo hn h1' h2' hc;by_cases hna:n.ino=a.ino
  ·refine⟨_,hkeep hn2 (fun e=>?_),?_,(name2,a.ino),YA rfl ha0,hna.symm⟩
   ·exfalso;rcases ho with⟨_,_,q⟩|⟨eo,o,q,_⟩
    ·have:=h.pos hn2;omega
    obtain⟨q1,_⟩:=FO q;rw[hoe n2 hn2 e]at q1;cases q1
   show n2.ino=if n.ino=a.ino∧n.kind=2 then n2.ino else n.parent
   rw[if_pos ⟨hna,h2'⟩]
  obtain⟨p,hp,k1,e,he,k2⟩:=h.par n hn h1' h2';refine⟨_,hkeep hp (fun e'=>?_),?_,e,Y9 he (fun e' hnm=>?_) (fun e' hnm=>?_),k2⟩
  ·exfalso;rw[hoe p hp e']at he;cases he
  ·show p.ino=if n.ino=a.ino∧n.kind=2 then n2.ino else n.parent
   rw[if_neg (fun q=>hna q.1)];exact k1
  ·obtain rfl:=Cy h.asc hp hn1 e';have:=Nv (h.sorted p hp) he hem (hnm.trans hen.symm);rw[this,hea]at k2;exact hna k2.symm
  obtain rfl:=Cy h.asc hp hn2 e';rcases ho with⟨q,_⟩|⟨eo,o,q,_,q2,_⟩
  ·exact MA q e he hnm
  obtain⟨r1,r2⟩:=FO q;have:=Nv (h.sorted p hp) he r1 (hnm.trans r2.symm);rw[this,q2]at k2;exact hno k2.symm
 obtain⟨rk,hrk⟩:=h.rank;by_cases hka:a.kind=2
 ·have hS:=hanc hka;refine⟨MJ (fun x=>Fm d.nodes x a.ino) rk (rk n2.ino+1),fun m hm h1 h2=>?_⟩;obtain⟨⟨n,hn,rfl⟩,_,_⟩:=hmem hm;have h1':n.ino≠1:=h1;have h2':n.kind=2:=h2;have eP:(H3 n1.ino n2.ino name name2 a.ino n).parent=if n.ino=a.ino∧n.kind=2 then n2.ino else n.parent:=rfl
  have eI:(H3 n1.ino n2.ino name name2 a.ino n).ino=n.ino:=rfl;rw[eP,eI];by_cases hna:n.ino=a.ino
  ·rw[if_pos ⟨hna,h2'⟩,QB (S:=fun x=>Fm d.nodes x a.ino) hS,QA (S:=fun x=>Fm d.nodes x a.ino) (show Fm d.nodes n.ino a.ino from⟨0,hna⟩)];omega
  have hlt:=hrk n hn h1' h2';rw[if_neg (fun q=>hna q.1)];by_cases hA:Fm d.nodes n.ino a.ino
  ·have hP:Fm d.nodes n.parent a.ino:=by
      obtain⟨k,hk⟩:=hA
      cases k with
      |zero=>exact absurd hk hna
      |succ k=>
        obtain⟨n',hn',e1,_,_,q⟩:=hk;obtain rfl:=Cy h.asc hn' hn e1;exact⟨k,q⟩
   rw[QA (S:=fun x=>Fm d.nodes x a.ino) hP,QA (S:=fun x=>Fm d.nodes x a.ino) hA];omega
  have hP:¬Fm d.nodes n.parent a.ino:=fun⟨k,hk⟩=>hA ⟨k+1,n,hn,rfl,h1',h2',hk⟩;rw[QB (S:=fun x=>Fm d.nodes x a.ino) hP,QB (S:=fun x=>Fm d.nodes x a.ino) hA];exact hlt
 refine⟨rk,fun m hm h1 h2=>?_⟩;obtain⟨⟨n,hn,rfl⟩,_,_⟩:=hmem hm;have h2':n.kind=2:=h2;show rk (if n.ino=a.ino∧n.kind=2 then n2.ino else n.parent)<rk n.ino
 rw[if_neg (fun q=>hka (by
  obtain rfl:=Cy h.asc hn ha q.1
  exact q.2))]
 exact hrk n hn h1 h2'
end Go.Proofs.YtobclmbkdhbnpaaGreatDoor
namespace Go.Proofs.YtobclmbkdhbnpaaGreatDoor
open Go.RowKit
theorem YC(n:Nat):∀j,E0 [] n j=some (n+j):=fun j=>by simp[E0]
theorem Kn{bx:List (List AV)}{n:Nat}(hn:bx.length=n)(f:AT)(q:Nat)(d:Dvc)(ns:List Nod)(cap cap1:Nat):Back bx [] [DB f q d 1 cap cap1,NB ns cap1] (bx++[DB f q d (n+1) cap cap1,NB ns cap1]):=by
 subst hn;refine⟨by simp,fun i row _ h=>?_,fun k i row h=>by simp at h,fun k row h=>?_⟩
 ·rw[Ca (Ai.1 h).1];exact h
 rw[DP (by omega),show bx.length+k - bx.length=k by omega];simp only[List.length_nil,Nat.zero_add]at h
 match k,h with
 |0,h=>injection h with h;subst h;rw[Fj (YC _ 1)];rfl
 |1,h=>injection h with h;subst h;rw[FN];rfl
 |k+2,h=>simp at h
theorem Ko{bx:List (List AV)}{i0 i1:Nat}(h0:i0<bx.length)(h1:i1<bx.length)(hne:i0≠i1)(f:AT)(q:Nat)(d:Dvc)(ns:List Nod)(cap cap1 cap1':Nat):
    Back bx [i0,i1] [DB f q d 1 cap cap1,NB ns cap1'] ((bx.set i0 (DB f q d i1 cap cap1)).set i1 (NB ns cap1')):=by
 refine⟨by simp,fun i row hi h=>?_,fun k i row h hr=>?_,fun k row h=>by simp at h⟩
 ·simp only[List.mem_cons,List.not_mem_nil,or_false,not_or]at hi;rw[List.getElem?_set_ne (Ne.symm hi.2),List.getElem?_set_ne (Ne.symm hi.1)];exact h
 match k,h,hr with
 |0,h,hr=>
   simp at h hr;subst h;subst hr;rw[List.getElem?_set_ne (Ne.symm hne),List.getElem?_set_self h0,Fj (g:=E0 [i0,i1] bx.length) (j:=1) (j':=i1) rfl]
 |1,h,hr=>
   simp at h hr;subst h;subst hr;rw[List.getElem?_set_self (by simpa using h1),FN]
 |k+2,h,_=>simp at h
theorem QC{bx:List (List AV)}{n i0 i1:Nat}(hn:bx.length=n)(h0:i0<n)(h1:i1<n)(hne:i0≠i1)(f:AT)(q:Nat)(d:Dvc)(ns ns':List Nod)(a:A9)(l cap0 cap cap1 cap2:Nat):
    Back bx [i0,i1] [DB f q d 4 cap cap2,NB ns cap1,[.bs 0 0 2 l cap0],AB a,NB ns' cap2] ((bx.set i0 (DB f q d (n+2) cap cap2)).set i1 (NB ns cap1)++[[.bs i0 0 2 l cap0],AB a,NB ns' cap2]):=by
 subst hn;have hl:((bx.set i0 (DB f q d (bx.length+2) cap cap2)).set i1 (NB ns cap1)).length=bx.length:=by simp
 refine⟨by simp,fun i row hi h=>?_,fun k i row h hr=>?_,fun k row h=>?_⟩
 ·simp only[List.mem_cons,List.not_mem_nil,or_false,not_or]at hi;rw[Ca (by rw[hl];exact(Ai.1 h).1),List.getElem?_set_ne (Ne.symm hi.2),List.getElem?_set_ne (Ne.symm hi.1)];exact h
 ·match k,h,hr with
  |0,h,hr=>
    simp at h hr;subst h;subst hr;rw[Ca (by rw[hl];exact h0),List.getElem?_set_ne (Ne.symm hne),List.getElem?_set_self h0,Fj (g:=E0 [i0,i1] bx.length) (j:=4) (j':=bx.length+2) rfl]
  |1,h,hr=>
    simp at h hr;subst h;subst hr;rw[Ca (by rw[hl];exact h1),List.getElem?_set_self (by simpa using h1),FN]
  |k+2,h,_=>simp at h
 rw[DP (by rw[hl];omega),hl,show bx.length+k - bx.length=k by omega]
 match k,h with
 |0,h=>injection h with h;subst h;rfl
 |1,h=>injection h with h;subst h;rfl
 |2,h=>injection h with h;subst h;rw[FN];rfl
 |k+3,h=>rw[List.getElem?_eq_none (by simp;omega)]at h;cases h
theorem QD{bx:List (List AV)}{n i0 i1:Nat}(hn:bx.length=n)(h0:i0<n)(h1:i1<n)(hne:i0≠i1)(f:AT)(q:Nat)(d:Dvc)(ns:List Nod)(a:A9)(l cap0 cap cap1 cap1':Nat):
    Back bx [i0,i1] [DB f q d 1 cap cap1,NB ns cap1',[.bs 0 0 2 l cap0],AB a] ((bx.set i0 (DB f q d i1 cap cap1)).set i1 (NB ns cap1')++[[.bs i0 0 2 l cap0],AB a]):=by
 subst hn;have hl:((bx.set i0 (DB f q d i1 cap cap1)).set i1 (NB ns cap1')).length=bx.length:=by simp
 refine⟨by simp,fun i row hi h=>?_,fun k i row h hr=>?_,fun k row h=>?_⟩
 ·simp only[List.mem_cons,List.not_mem_nil,or_false,not_or]at hi;rw[Ca (by rw[hl];exact(Ai.1 h).1),List.getElem?_set_ne (Ne.symm hi.2),List.getElem?_set_ne (Ne.symm hi.1)];exact h
 ·match k,h,hr with
  |0,h,hr=>
    simp at h hr;subst h;subst hr;rw[Ca (by rw[hl];exact h0),List.getElem?_set_ne (Ne.symm hne),List.getElem?_set_self h0,Fj (g:=E0 [i0,i1] bx.length) (j:=1) (j':=i1) rfl]
  |1,h,hr=>
    simp at h hr;subst h;subst hr;rw[Ca (by rw[hl];exact h1),List.getElem?_set_self (by simpa using h1),FN]
  |k+2,h,_=>simp at h
 rw[DP (by rw[hl];omega),hl,show bx.length+k - bx.length=k by omega]
 match k,h with
 |0,h=>injection h with h;subst h;rfl
 |1,h=>injection h with h;subst h;rfl
 |k+2,h=>rw[List.getElem?_eq_none (by simp;omega)]at h;cases h
theorem TQ{f:AT}{q:Nat}{d d':Dvc}(hn:d'.next=d.next)(hl:d'.nodes.length=d.nodes.length)(j cap cap1:Nat):DB f q d j cap cap1=DB (f.set q d') q d' j cap cap1:=by
 unfold DB Et G8;rw[List.map_set,List.set_set,hn,hl]
theorem G9{n:Nat}{bx:List (List AV)}{k i j:Nat}{f:AT}{q:Nat}{d d':Dvc}{cap cap0 cap1:Nat}(hq:q<f.length)(hn:d'.next=d.next)(hl:d'.nodes.length=d.nodes.length)(hc:f.length≤cap)(hc1:d'.nodes.length≤cap1)(hni:n≤i)(hnj:n≤j)
    (hi:bx[i]?=some (DB f q d j cap cap1)) (hj:bx[j]?=some (NB d'.nodes cap1)):Fg n (DV n bx (k+2)) [.bs i 0 2 f.length cap0]=Al (f.set q d'):=by
 have:Nat.blt i n=false:=by rw[←Bool.not_eq_true,Nat.blt_eq];omega
 have key:=JO (n:=n) (bx:=bx) (k:=k) (i:=i) (j:=j) (f:=f.set q d') (K:=q) (d:=d') (cap:=cap) (cap0:=cap0) (cap1:=cap1) (by simp[hq]) (by simpa using hc) hc1 hni hnj (by rw[hi,TQ hn hl]) hj;rw[List.length_set]at key;have key2:AV.agg [Dj (DV n bx (k+2)) (.bs i 0 2 f.length cap0)]=AV.agg (Al (f.set q d')):=key;have e:Fg n (DV n bx (k+2)) [.bs i 0 2 f.length cap0]=[Dj (DV n bx (k+2)) (.bs i 0 2 f.length cap0)]:=by simp only[Fg,Eh,this]
 rw[e];injection key2
structure FlsV(f:AT):Prop where
 few:f.length≤3
 vd:∀d∈f,VD d
theorem FlsV.b{f:AT}(h:FlsV f):FlsB f:=⟨by have:=h.few;omega,fun d hd=>by have:=(h.vd d hd).len;omega,fun d hd n hn=>by have:=(h.vd d hd).many n hn;omega⟩
theorem MK{ns:List Nod}(h:DX ns){i:Nat}{n:Nod}(hi:ns[i]?=some n)(g:Nod→Nod):ns.set i (g n)=CZ ns n.ino g:=by
 apply List.ext_getElem?;intro k;unfold CZ;rw[List.getElem?_map,List.getElem?_set];have hil:=(Ai.1 hi).1;split
 ·rename_i e;subst e;rw[hi];simp[hil]
 rename_i e
 cases hk:ns[k]? with
 |none=>rfl
 |some m=>
   have:m.ino≠n.ino:=by
    intro em;obtain⟨l1,e1⟩:=Ai.1 hi;obtain⟨l2,e2⟩:=Ai.1 hk;have hp:=List.pairwise_iff_getElem.1 h;rcases Nat.lt_or_gt_of_ne e with hlt|hlt
    ·have:=hp i k l1 l2 hlt;rw[e1,e2]at this;omega
    have:=hp k i l2 l1 hlt;rw[e1,e2]at this;omega
   simp[this]
def FP(f:AT)(q:Nat)(g:List Nod→List Nod):AT:=f.modify q fun d=>{d with nodes:=g d.nodes}
theorem F7{f:AT}{q:Nat}{d:Dvc}(h:f[q]?=some d)(g:List Nod→List Nod):FP f q g=f.set q {d with nodes:=g d.nodes}:=by
 apply List.ext_getElem?;intro k;unfold FP;rw[List.getElem?_modify,List.getElem?_set];split
 ·rename_i e;subst e;rw[h];simp[(Ai.1 h).1]
 simp
theorem Ea{f:AT}{dir:A9}{name:AE}(h:C6 f dir name=0):∃(q i:Nat) (d:Dvc) (n0:Nod),dir.1=(q:Int)∧f[q]?=some d∧d.nodes[i]?=some n0∧n0.ino=dir.2∧EX f dir=(i:Int)∧Bo f dir=some n0∧n0.kind=2∧D4 name=true:=by
 rcases Gu f dir with⟨_,h2⟩|⟨q,i,d,n,h1,h2,h3,h4,h5,h6⟩
 ·simp[C6,h2]at h
 refine⟨q,i,d,n,h1,h2,h3,h4,h5,h6,?_⟩;simp only[C6,h6]at h;split at h
 ·rename_i hk;split at h
  ·rename_i hn;exact⟨hk,hn⟩
  omega
 omega
def CV(R:Dl):AV:= .tup [.agg (Al R.1), .sl 7 (R.2.1.map CN) none, .v (.int .i64 R.2.2)]
theorem DM(e:Int):LeA (.tup [.agg [.v (.slice none 0 0)], .v (.slice none 0 0), .v (.int .i64 e)]) (CV ([],[],e)):=(by repeat (first|exact AM _|exact LeA.nil _|exact LeL.refl _|refine LeA.agg ?_|refine LeA.tup ?_|exact LeL.nil|refine LeL.cons ?_ ?_|exact LeA.any _))
def E1(f:AT)(dir:A9)(name:AE)(a:A9):Dl:=
 if C6 f dir name≠0 then([],[],C6 f dir name)else if Cc f a=false then([],[],2)else if a.1≠dir.1 then([],[],18)else if(AZ f a).kind=2 then([],[],1)else
 if(AD f dir name).2=0 then([],[],17)else if Hi f dir=true then([],[],28)else(FP f dir.1.toNat fun ns=>BS ns dir.2 name a.2,[(dir,name,(0,0),a)],0)
section
theorem YD(f:AT)(dir:A9)(name:AE)(a:A9)(hv:FlsV f)(hs:name.size≤100000):AFn prog 19 [.agg (Al f), .agg (AB dir), .v (.string name), .agg (AB a)] (fun r=>r=CV (E1 f dir name a)):=by
 have hf:=hv.b;refine enter Tryz.func19 rfl rfl rfl rfl rfl 0 rfl ?_;refine w_ (b_ (h:=b_ (h:=b_ (h:=Af (h:=a_ (h:=a_ (h:=e_ (q_ (w_ (l_ (h:=l_ (h:=m_ (h:=?_)))))))))))));refine A7 rfl (AK (Kd f dir name hf hs) ?_);rintro r rfl;refine a_ (h:=e_ (w_ (m_ (h:=BX (h:=e_ (?_))))));refine A8 rfl (fun hb1=>?_) (fun hb1=>?_)
 ·have hc1:=bp hb1;refine w_ (Aa (h:=m_ (h:=s_ (h:=a_ (h:=a_ (h:=e_ (A6 (A4 (?_)))))))));refine B0 (r:=CV (E1 f dir name a)) none (h5:=?_) (h6:=⟨rfl,rfl,rfl⟩);rw[E1,if_pos (by omega)];exact DM _
 have hc1:=bp hb1;refine AN (w_ (l_ (h:=l_ (h:=?_))));refine A7 rfl (AK (Dm f a hf) ?_);rintro r rfl;refine m_ (h:=x_ (h:=x_ (h:=Af (h:=s_ (h:=a_ (h:=e_ (q_ (w_ (m_ (h:=BZ (h:=e_ (?_))))))))))));refine A8 rfl (fun hb2=>?_) (fun hb2=>?_)
 ·have hc2:=bp hb2;refine w_ (Aa (h:=s_ (h:=a_ (h:=a_ (h:=e_ (A6 (A4 (?_))))))));refine B0 (r:=CV (E1 f dir name a)) none (h5:=?_) (h6:=⟨rfl,rfl,rfl⟩);rw[E1,if_neg (by omega),if_pos hc2];exact DM _
 have hc2:=bp hb2;refine AN (q_ (w_ (f_ (h:=l_ (h:=f_ (h:=l_ (h:=BX (h:=e_ (?_)))))))));refine A8 rfl (fun hb3=>?_) (fun hb3=>?_)
 ·have hc3:=bp hb3;refine w_ (Aa (h:=s_ (h:=a_ (h:=a_ (h:=e_ (A6 (A4 (?_))))))));refine B0 (r:=CV (E1 f dir name a)) none (h5:=?_) (h6:=⟨rfl,rfl,rfl⟩);rw[E1,if_neg (by omega),if_neg (by simp[hc2]),if_pos (by omega)];exact DM _
 have hc3:=bp hb3;refine AN (q_ (w_ (f_ (h:=l_ (h:=Ac (h:=e_ (?_)))))));refine A8 rfl (fun hb4=>?_) (fun hb4=>?_)
 ·have hc4:=bp hb4;refine w_ (Aa (h:=s_ (h:=a_ (h:=a_ (h:=e_ (A6 (A4 (?_))))))));refine B0 (r:=CV (E1 f dir name a)) none (h5:=?_) (h6:=⟨rfl,rfl,rfl⟩);rw[E1,if_neg (by omega),if_neg (by simp[hc2]),if_neg (by omega),if_pos hc4];exact DM _
 have hc4:=bp hb4;refine AN (q_ (w_ (l_ (h:=l_ (h:=m_ (h:=?_))))));refine A7 rfl (AK (GO f dir name hf) ?_);rintro r rfl;refine m_ (h:=x_ (h:=x_ (h:=Af (h:=s_ (h:=a_ (h:=e_ (w_ (m_ (h:=Ac (h:=e_ (?_)))))))))));refine A8 rfl (fun hb5=>?_) (fun hb5=>?_)
 ·have hc5:=bp hb5;refine w_ (Aa (h:=s_ (h:=a_ (h:=a_ (h:=e_ (A6 (A4 (?_))))))));refine B0 (r:=CV (E1 f dir name a)) none (h5:=?_) (h6:=⟨rfl,rfl,rfl⟩);rw[E1,if_neg (by omega),if_neg (by simp[hc2]),if_neg (by omega),if_neg hc4,if_pos hc5];exact DM _
 have hc5:=bp hb5;refine AN (q_ (w_ (l_ (h:=l_ (h:=?_)))));refine A7 rfl (AK (PW f dir hf) ?_);rintro r rfl;refine e_ (?_);refine A8 rfl (fun hb6=>?_) (fun hb6=>?_)
 ·have hc6:=bp hb6;refine w_ (Aa (h:=s_ (h:=a_ (h:=a_ (h:=e_ (A6 (A4 (?_))))))));refine B0 (r:=CV (E1 f dir name a)) none (h5:=?_) (h6:=⟨rfl,rfl,rfl⟩);rw[E1,if_neg (by omega),if_neg (by simp[hc2]),if_neg (by omega),if_neg hc4,if_neg hc5,if_pos hc6];exact DM _
 have hc6:=bp hb6;obtain⟨q,i,d,n0,hdq,hq,hn0,hino,hidx,hnode,hk0,hnm⟩:=Ea (name:=name) (dir:=dir) (f:=f) (by omega);have hil:=(Ai.1 hn0).1;have hql:=(Ai.1 hq).1;refine AN (w_ (l_ (h:=?_)));refine A7 rfl (DJ [] rfl (.cons _ _ _ _ _ rfl (AM _) .nil) (by decide) .nil (Ki f q d hf hq (by omega)) ?_);rintro r bc tc ⟨rfl,cap,cap1,hcap,hcap1,rfl,rfl⟩;refine⟨rfl,_,(Kn (n:=6) rfl f q d d.nodes cap cap1:Back _ [] _ [_,_,_,_,_,_,_,_]),?_⟩;refine Af (h:=s_ (h:=e_ (w_ (l_ (h:=l_ (h:=m_ (h:=f_ (h:=l_ (h:=?_)))))))));refine A7 rfl (DJ [6,7] rfl (.cons _ _ _ _ _ rfl (AM _) (.cons _ _ _ _ _ rfl (AM _) (.cons _ _ _ _ _ rfl (AM _) (.cons _ _ _ _ _ rfl (AM _) .nil)))) (by decide) (.cons _ _ _ _ _ rfl (Fj (by rfl) _ _ _ _ _) (.cons _ _ _ _ _ rfl (FN _ _ _) .nil)) (M7 f q d n0 i dir name a.2 cap cap1 hf hq hdq hidx hn0 hcap hcap1) ?_);rintro r bc tc ⟨rfl,rfl,rfl⟩;refine⟨rfl,_,(Ko (B6 rfl) (B6 rfl) (by decide) f q d _ cap cap1 cap1:Back _ [6,7] _ [_,_,_,_,_,_,_,_,_]),?_⟩;refine e_ (?_);refine BY (fun t=>t=⟨look [(8, .bp 3 0),(9, .sl 7 [CN (dir,name,(0,0),a)] none),(10, .v (.int .i64 0))],⟨[Al f,AB dir,AB a,Al (f.set q {d with nodes:=d.nodes.set i {n0 with entries:=CU n0.entries name a.2}})],[]⟩⟩) ?_ ?_
 ·skip
  refine Bi ([(0,Al f),(1,AB dir),(2,AB a),(6,DB f q d 7 cap cap1),(7,NB (d.nodes.set i {n0 with entries:=CU n0.entries name a.2}) cap1),(8,[.bs 6 0 2 f.length cap])]) 9 (h:=AF 0 (h:=AF 1 (h:=AP 2 (h:=?_))));refine B4 3 rfl (fun _ hS=>F0 (y:= .agg (AB (0,0))) (DK ⟨rfl,rfl⟩) (by repeat (first|exact AM _|exact LeA.nil _|exact LeL.refl _|refine LeA.agg ⟨rfl,rfl⟩|refine LeA.tup ⟨rfl,rfl⟩|exact LeL.nil|refine LeL.cons ⟨rfl,rfl⟩ ⟨rfl,rfl⟩|exact LeA.any _)) ⟨rfl,rfl⟩) ?_;refine AF 4 (h:=?_);refine c_ 5 rfl (AK (Ju dir name (0,0) a) ?_);rintro r rfl;refine o_ (h:=?_);refine B8 6 rfl (B3 rfl rfl rfl rfl rfl rfl (by repeat constructor) (by repeat constructor) ?_);refine o_ (h:=BN 7 (h:=BN 8 (h:=z_ (h:=?_))));refine AJ ?_;exact⟨_,rfl,F3 4 2 rfl (by show[_,_,_,Fg 4 (DV 4 _ 2) [.bs 6 0 2 f.length cap]]=_;rw[G9 (k:=0) (i:=6) (j:=7) (d:=d) (d':={d with nodes:=d.nodes.set i {n0 with entries:=CU n0.entries name a.2}}) hql rfl (by simp) hcap (by simpa using hcap1) (by decide) (by decide) rfl rfl];rfl) (.cons _ _ _ _ rfl (AM _) (.cons _ _ _ _ rfl (AM _) (.cons _ _ _ _ rfl (AM _) .nil)))⟩
 rintro t rfl;refine A6 (?_);refine AA ?_;rw[E1,if_neg (by omega),if_neg (by simp[hc2]),if_neg (by omega),if_neg hc4,if_neg hc5,if_neg (by simp[hc6]),hdq,Int.toNat_natCast,F7 hq,←hino];unfold BS;rw[←MK (hv.vd d (Aj hq)).asc hn0];rfl
end
theorem ML{f:AT}{dir:A9}{name:AE}{n0:Nod}(hn:Bo f dir=some n0)(hk:n0.kind=2)(h:(AD f dir name).2=0):∃e,DL n0.entries name=some e∧AD f dir name=((dir.1,e.2),0):=by
 unfold AD at h ⊢;rw[hn]at h ⊢;simp only[hk,if_true]at h ⊢;unfold DL;split at h
 ·exact absurd h (by decide)
 rename_i e he;exact⟨e,he,rfl⟩
def entS(ns:List Nod)(i:Nat)(n0:Nod)(name:AE)(ino:Int):List Nod:=ns.set i {n0 with entries:=CU n0.entries name ino}
theorem Fn(ns:List Nod)(i:Nat)(n0:Nod)(name:AE)(ino:Int):(entS ns i n0 name ino).length=ns.length:=by simp[entS]
theorem QE(es:List B1)(name:AE)(ino:Int):(CU es name ino).length≤es.length+1:=by
 by_cases h:ino=0
 ·subst h;rw[Fk];have:(Ds name es).length≤es.length:=List.length_filter_le _ _;omega
 rw[(H0 es name h).length_eq,List.length_cons];have:(Ds name es).length≤es.length:=List.length_filter_le _ _;omega
theorem FlsB.set_{f:AT}(hf:FlsB f){q:Nat}{d':Dvc}(hn:d'.nodes.length≤1000)(he:∀n∈d'.nodes,n.entries.length≤1000):FlsB (f.set q d'):=by
 refine⟨by simpa using hf.few,fun d hd=>?_,fun d hd n hn'=>?_⟩
 ·rcases List.mem_or_eq_of_mem_set hd with h|h
  ·exact hf.nodes d h
  rw[h];exact hn
 rcases List.mem_or_eq_of_mem_set hd with h|h
 ·exact hf.ents d h n hn'
 subst h;exact he n hn'
theorem FlsV.entS{f:AT}(hv:FlsV f){q:Nat}{d:Dvc}(hq:f[q]?=some d){i:Nat}{n0:Nod}(hn:d.nodes[i]?=some n0)(name:AE)(ino:Int):FlsB (f.set q {d with nodes:=entS d.nodes i n0 name ino}):=by
 have hd:=hv.vd d (Aj hq);refine hv.b.set_ ?_ ?_
 ·show(Go.Proofs.YtobclmbkdhbnpaaGreatDoor.entS d.nodes i n0 name ino).length≤1000;rw[Fn];have:=hd.len;omega
 intro m hm;rcases List.mem_or_eq_of_mem_set hm with h|h
 ·have:=hd.many m h;omega
 rw[h];have:=QE n0.entries name ino;have:=hd.many n0 (Aj hn);show(CU n0.entries name ino).length≤1000;omega
theorem Kq{d:Dvc}(hd:VD d){i:Nat}{n0:Nod}(hn:d.nodes[i]?=some n0)(name:AE)(ino:Int):entS d.nodes i n0 name ino=BS d.nodes n0.ino name ino:=by
 unfold entS BS;rw[←MK hd.asc hn];rfl
theorem TR{f:AT}{a:A9}{q:Nat}{d:Dvc}(ha:a.1=(q:Int))(hq:f[q]?=some d):F6 f a=if(d.nodes.any fun n=>n.ino==a.2)then Bg a.2 d.nodes else 0:=by
 unfold F6 Bo;rw[ha,Hg,hq];simp only
 cases h:d.nodes.find? (fun n=>n.ino==a.2)with
 |none=>
   have:d.nodes.any (fun n=>n.ino==a.2)=false:=by
    rw[List.any_eq_false];exact List.find?_eq_none.1 h
   simp[this]
 |some n=>
   have:d.nodes.any (fun n=>n.ino==a.2)=true:=by
    have h2:=List.find?_some h;exact List.any_eq_true.2 ⟨n,List.mem_of_find?_eq_some h,h2⟩
   simp[this]
theorem YE{f:AT}{a:A9}{q:Nat}{d:Dvc}(ha:a.1=(q:Int))(hq:f[q]?=some d)(hl:0<F6 f a):Bx d.nodes a.2=d.nodes:=by
 rw[TR ha hq]at hl;split at hl
 ·unfold Bx;rw[List.filter_eq_self];intro m _;exact decide_eq_true (.inr hl)
 omega
theorem drop_zero{f:AT}{a:A9}{q:Nat}{d:Dvc}(ha:a.1=(q:Int))(hq:f[q]?=some d)(hl:F6 f a=0):Bx d.nodes a.2=Ch a.2 d.nodes:=by
 rw[TR ha hq]at hl;unfold Bx Ch;apply List.filter_congr;intro m hm;split at hl
 ·rw[hl,Bool.eq_iff_iff];simp
 rename_i h
 have hne:m.ino≠a.2:=by
  intro e;exact h (List.any_eq_true.2 ⟨m,hm,by simpa using e⟩)
 rw[Bool.eq_iff_iff];simp[hne]
theorem QF{ns:List Nod}{m:Nod}{i:Int}(hm:m∈ns)(h:m.ino≠i):0<(Ch i ns).length:=List.length_pos_of_mem (List.mem_filter.2 ⟨hm,by simpa using h⟩)
theorem TS{d:Dvc}(hd:VD d){i:Nat}{n0:Nod}(hn:d.nodes[i]?=some n0)(name:AE)(ino:Int):∃m∈entS d.nodes i n0 name ino,m.ino=1:=by
 obtain⟨r,hr,h1,_⟩:=hd.rootMem;rw[Kq hd hn];obtain⟨m,hm,hw⟩:=GR n0.ino name ino hr;exact⟨m,hm,hw.ino.trans h1⟩
theorem QG(f:AT)(q:Nat)(d d':Dvc)(a:A9)(cap cap1:Nat)(hf:FlsB (f.set q d'))(hq:q<f.length)(ha:a.1=(q:Int))(hcap:f.length≤cap)(hcap1:d'.nodes.length≤cap1)(hne:0<(Ch a.2 d'.nodes).length)(hn:d'.next=d.next)(hl:d'.nodes.length=d.nodes.length):
    ACall prog 38 [.agg [.bs 0 0 2 f.length cap], .agg (AB a)] [DB f q d 1 cap cap1,NB d'.nodes cap1] (fun r b t=>t=[]∧r= .tup []∧((Bx d'.nodes a.2=d'.nodes∧b=[DB f q d 1 cap cap1,NB d'.nodes cap1,[.bs 0 0 2 f.length cap],AB a])∨(Bx d'.nodes a.2=Ch a.2 d'.nodes∧∃cap2,(Ch a.2 d'.nodes).length≤cap2∧b=[DB f q {d' with nodes:=Ch a.2 d'.nodes} 4 cap cap2,NB d'.nodes cap1,[.bs 0 0 2 f.length cap],AB a,NB (Ch a.2 d'.nodes) cap2]))):=by
 have hq':(f.set q d')[q]?=some d':=by simp[hq]
 have key:=Y1 (f.set q d') q d' a cap cap1 hf hq' ha (by simpa using hcap) hcap1 hne;rw[List.length_set,←TQ hn hl]at key;refine key.mono fun r b t ⟨h1,h2,h3⟩=>⟨h1,h2,?_⟩;rcases h3 with⟨h4,h5⟩|⟨h4,cap2,h5,h6⟩
 ·exact .inl ⟨YE ha hq' h4,h5⟩
 refine .inr ⟨drop_zero ha hq' h4,cap2,h5,?_⟩;rw[Q0]at h6;exact h6
def FQ(f:AT)(dir:A9)(name:AE):Dl:=
 if C6 f dir name≠0 then([],[],C6 f dir name)else if(AD f dir name).2≠0 then([],[],(AD f dir name).2)else if Ag f (AD f dir name).1=true then([],[],21)else
 (FP f dir.1.toNat fun ns=>Bx (BS ns dir.2 name 0) (AD f dir name).1.2,[(dir,name,(AD f dir name).1,(0,0))],0)
def Eu(f:AT)(dir:A9)(name:AE):Dl:=
 if C6 f dir name≠0 then([],[],C6 f dir name)else if(AD f dir name).2≠0 then([],[],(AD f dir name).2)else if Ag f (AD f dir name).1=false then([],[],20)else if Hj f (AD f dir name).1=false then([],[],39)else
 (FP f dir.1.toNat fun ns=>Bx (BS ns dir.2 name 0) (AD f dir name).1.2,[(dir,name,(AD f dir name).1,(0,0))],0)
section
theorem YF(f:AT)(dir:A9)(name:AE)(hv:FlsV f)(hs:name.size≤100000):AFn prog 21 [.agg (Al f), .agg (AB dir), .v (.string name)] (fun r=>r=CV (FQ f dir name)):=by
 have hf:=hv.b;refine enter Tryz.func21 rfl rfl rfl rfl rfl 0 rfl ?_;refine w_ (b_ (h:=b_ (h:=Af (h:=a_ (h:=a_ (h:=e_ (q_ (w_ (l_ (h:=l_ (h:=m_ (h:=?_))))))))))));refine A7 rfl (AK (Kd f dir name hf hs) ?_);rintro r rfl;refine a_ (h:=e_ (w_ (m_ (h:=BX (h:=e_ (?_))))));refine A8 rfl (fun hb1=>?_) (fun hb1=>?_)
 ·have hc1:=bp hb1;refine w_ (Aa (h:=m_ (h:=s_ (h:=a_ (h:=a_ (h:=e_ (A6 (A4 (?_)))))))));refine B0 (r:=CV (FQ f dir name)) none (h5:=?_) (h6:=⟨rfl,rfl,rfl⟩);rw[FQ,if_pos (by omega)];exact DM _
 have hc1:=bp hb1;refine AN (w_ (l_ (h:=l_ (h:=m_ (h:=?_)))));refine A7 rfl (AK (GO f dir name hf) ?_);rintro r rfl;refine m_ (h:=x_ (h:=x_ (h:=Af (h:=s_ (h:=a_ (h:=e_ (q_ (w_ (m_ (h:=BX (h:=e_ (?_))))))))))));refine A8 rfl (fun hb2=>?_) (fun hb2=>?_)
 ·have hc2:=bp hb2;refine w_ (Aa (h:=m_ (h:=s_ (h:=a_ (h:=a_ (h:=e_ (A6 (A4 (?_)))))))));refine B0 (r:=CV (FQ f dir name)) none (h5:=?_) (h6:=⟨rfl,rfl,rfl⟩);rw[FQ,if_neg (by omega),if_pos (by omega)];exact DM _
 have hc2:=bp hb2;have hlk:(AD f dir name).2=0:=by omega
 refine AN (q_ (w_ (l_ (h:=l_ (h:=?_)))));refine A7 rfl (AK (Fi f (AD f dir name).1 hf) ?_);rintro r rfl;refine e_ (?_);refine A8 rfl (fun hb3=>?_) (fun hb3=>?_)
 ·have hc3:=bp hb3;refine w_ (Aa (h:=s_ (h:=a_ (h:=a_ (h:=e_ (A6 (A4 (?_))))))));refine B0 (r:=CV (FQ f dir name)) none (h5:=?_) (h6:=⟨rfl,rfl,rfl⟩);rw[FQ,if_neg (by omega),if_neg (by omega),if_pos hc3];exact DM _
 have hc3:=bp hb3;obtain⟨q,i,d,n0,hdq,hq,hn0,hino,hidx,hnode,hk0,hnm⟩:=Ea (name:=name) (dir:=dir) (f:=f) (by omega);have hil:=(Ai.1 hn0).1;have hql:=(Ai.1 hq).1;have hvd:=hv.vd d (Aj hq);obtain⟨e,he,hle⟩:=ML hnode hk0 hlk;have hat1:(AD f dir name).1.1=(q:Int):=by rw[hle];exact hdq
 have hat2:(AD f dir name).1.2≠1:=by rw[hle];exact(hvd.ent n0 (Aj hn0) e (FO he).1).2.1
 have hxl:(entS d.nodes i n0 name 0).length=d.nodes.length:=Fn _ _ _ _ _
 have hkp:0<(Ch (AD f dir name).1.2 (entS d.nodes i n0 name 0)).length:=by
  obtain⟨m,hm,hm1⟩:=TS hvd hn0 name 0;exact QF hm (by rw[hm1];exact hat2.symm)
 refine AN (w_ (l_ (h:=?_)));refine A7 rfl (DJ [] rfl (.cons _ _ _ _ _ rfl (AM _) .nil) (by decide) .nil (Ki f q d hf hq (by omega)) ?_);rintro r bc tc ⟨rfl,cap,cap1,hcap,hcap1,rfl,rfl⟩;refine⟨rfl,_,(Kn (n:=4) rfl f q d d.nodes cap cap1:Back _ [] _ [_,_,_,_,_,_]),?_⟩;refine Af (h:=s_ (h:=e_ (w_ (l_ (h:=l_ (h:=m_ (h:=?_)))))));refine A7 rfl (DJ [4,5] rfl (.cons _ _ _ _ _ rfl (AM _) (.cons _ _ _ _ _ rfl (AM _) (.cons _ _ _ _ _ rfl (AM _) (.cons _ _ _ _ _ rfl (AM _) .nil)))) (by decide) (.cons _ _ _ _ _ rfl (Fj (by rfl) _ _ _ _ _) (.cons _ _ _ _ _ rfl (FN _ _ _) .nil)) (M7 f q d n0 i dir name 0 cap cap1 hf hq hdq hidx hn0 hcap hcap1) ?_);rintro r bc tc ⟨rfl,rfl,rfl⟩;refine⟨rfl,_,(Ko (B6 rfl) (B6 rfl) (by decide) f q d (entS d.nodes i n0 name 0) cap cap1 cap1:Back _ [4,5] _ [_,_,_,_,_,_,_]),?_⟩;refine e_ (w_ (l_ (h:=l_ (h:=?_))));refine A7 rfl (DJ [4,5] rfl (.cons _ _ _ _ _ rfl (AM _) (.cons _ _ _ _ _ rfl (AM _) .nil)) (by decide) (.cons _ _ _ _ _ rfl (Fj (by rfl) _ _ _ _ _) (.cons _ _ _ _ _ rfl (FN _ _ _) .nil)) (QG f q d {d with nodes:=entS d.nodes i n0 name 0} (AD f dir name).1 cap cap1 (hv.entS hq hn0 name 0) hql hat1 hcap (by rw[Fn];exact hcap1) hkp rfl hxl) ?_);rintro r bc tc ⟨rfl,rfl,⟨hns,rfl⟩|⟨hns,cap2,hcap2,rfl⟩⟩
 ·refine⟨rfl,_,(QD (n:=7) rfl (by decide) (by decide) (by decide) f q d (entS d.nodes i n0 name 0) (AD f dir name).1 f.length cap cap cap1 cap1:Back _ [4,5] _ [_,_,_,_,_,_,_,_,_]),?_⟩;have hx1:(entS d.nodes i n0 name 0).length≤cap1:=by omega
  refine e_ (?_);refine BY (fun t=>t=⟨look [(6, .bp 2 0),(7, .sl 7 [CN (dir,name,(AD f dir name).1,(0,0))] none),(8, .v (.int .i64 0))],⟨[Al f,AB dir,Al (f.set q {d with nodes:=Bx (entS d.nodes i n0 name 0) (AD f dir name).1.2})],[]⟩⟩) ?_ ?_
  ·skip
   refine Bi ([(0,Al f),(1,AB dir),(3,AB (AD f dir name).1),(6,[.bs 4 0 2 f.length cap])]) 9 (h:=AF 0 (h:=AF 1 (h:=AP 2 (h:=AF 3 (h:=?_)))));refine B4 4 rfl (fun _ hS=>F0 (y:= .agg (AB (0,0))) (DK ⟨rfl,rfl⟩) (by repeat (first|exact AM _|exact LeA.nil _|exact LeL.refl _|refine LeA.agg ⟨rfl,rfl⟩|refine LeA.tup ⟨rfl,rfl⟩|exact LeL.nil|refine LeL.cons ⟨rfl,rfl⟩ ⟨rfl,rfl⟩|exact LeA.any _)) ⟨rfl,rfl⟩) ?_;refine c_ 5 rfl (AK (Ju dir name (AD f dir name).1 (0,0)) ?_);rintro r rfl;refine o_ (h:=?_);refine B8 6 rfl (B3 rfl rfl rfl rfl rfl rfl (by repeat constructor) (by repeat constructor) ?_);refine o_ (h:=BN 7 (h:=BN 8 (h:=z_ (h:=?_))));refine AJ ?_;refine⟨_,rfl,?_⟩;rw[show Bx (entS d.nodes i n0 name 0) (AD f dir name).1.2=_ from hns]
   first|exact F3 3 2 rfl (congrArg (fun x=>[Al f,AB dir,x]) (G9 (k:=0) (i:=4) (j:=9) (d:={d with nodes:=Ch (AD f dir name).1.2 (entS d.nodes i n0 name 0)}) (d':={d with nodes:=Ch (AD f dir name).1.2 (entS d.nodes i n0 name 0)}) hql rfl rfl hcap hcap2 (B6 rfl) (B6 rfl) rfl rfl)) (.cons _ _ _ _ rfl (AM _) (.cons _ _ _ _ rfl (AM _) (.cons _ _ _ _ rfl (AM _) .nil)))|exact F3 3 2 rfl (congrArg (fun x=>[Al f,AB dir,x]) (G9 (k:=0) (i:=4) (j:=5) (d:=d) (d':={d with nodes:=entS d.nodes i n0 name 0}) hql rfl hxl hcap hx1 (B6 rfl) (B6 rfl) rfl rfl)) (.cons _ _ _ _ rfl (AM _) (.cons _ _ _ _ rfl (AM _) (.cons _ _ _ _ rfl (AM _) .nil)))
  rintro t rfl;refine A6 (?_);refine AA ?_;rw[FQ,if_neg (by omega),if_neg (by omega),if_neg (by simp[hc3]),hdq,Int.toNat_natCast,F7 hq,←hino,←Kq (hv.vd d (Aj hq)) hn0];rfl
 refine⟨rfl,_,(QC (n:=7) rfl (by decide) (by decide) (by decide) f q {d with nodes:=Ch (AD f dir name).1.2 (entS d.nodes i n0 name 0)} (entS d.nodes i n0 name 0) (Ch (AD f dir name).1.2 (entS d.nodes i n0 name 0)) (AD f dir name).1 f.length cap cap cap1 cap2:Back _ [4,5] _ [_,_,_,_,_,_,_,_,_,_]),?_⟩;refine e_ (?_);refine BY (fun t=>t=⟨look [(6, .bp 2 0),(7, .sl 7 [CN (dir,name,(AD f dir name).1,(0,0))] none),(8, .v (.int .i64 0))],⟨[Al f,AB dir,Al (f.set q {d with nodes:=Bx (entS d.nodes i n0 name 0) (AD f dir name).1.2})],[]⟩⟩) ?_ ?_
 ·skip
  refine Bi ([(0,Al f),(1,AB dir),(3,AB (AD f dir name).1),(6,[.bs 4 0 2 f.length cap])]) 9 (h:=AF 0 (h:=AF 1 (h:=AP 2 (h:=AF 3 (h:=?_)))));refine B4 4 rfl (fun _ hS=>F0 (y:= .agg (AB (0,0))) (DK ⟨rfl,rfl⟩) (by repeat (first|exact AM _|exact LeA.nil _|exact LeL.refl _|refine LeA.agg ⟨rfl,rfl⟩|refine LeA.tup ⟨rfl,rfl⟩|exact LeL.nil|refine LeL.cons ⟨rfl,rfl⟩ ⟨rfl,rfl⟩|exact LeA.any _)) ⟨rfl,rfl⟩) ?_;refine c_ 5 rfl (AK (Ju dir name (AD f dir name).1 (0,0)) ?_);rintro r rfl;refine o_ (h:=?_);refine B8 6 rfl (B3 rfl rfl rfl rfl rfl rfl (by repeat constructor) (by repeat constructor) ?_);refine o_ (h:=BN 7 (h:=BN 8 (h:=z_ (h:=?_))));refine AJ ?_;refine⟨_,rfl,?_⟩;rw[show Bx (entS d.nodes i n0 name 0) (AD f dir name).1.2=_ from hns]
  first|exact F3 3 2 rfl (congrArg (fun x=>[Al f,AB dir,x]) (G9 (k:=0) (i:=4) (j:=9) (d:={d with nodes:=Ch (AD f dir name).1.2 (entS d.nodes i n0 name 0)}) (d':={d with nodes:=Ch (AD f dir name).1.2 (entS d.nodes i n0 name 0)}) hql rfl rfl hcap hcap2 (B6 rfl) (B6 rfl) rfl rfl)) (.cons _ _ _ _ rfl (AM _) (.cons _ _ _ _ rfl (AM _) (.cons _ _ _ _ rfl (AM _) .nil)))|exact F3 3 2 rfl (congrArg (fun x=>[Al f,AB dir,x]) (G9 (k:=0) (i:=4) (j:=5) (d:=d) (d':={d with nodes:=entS d.nodes i n0 name 0}) hql rfl hxl hcap hx1 (B6 rfl) (B6 rfl) rfl rfl)) (.cons _ _ _ _ rfl (AM _) (.cons _ _ _ _ rfl (AM _) (.cons _ _ _ _ rfl (AM _) .nil)))
 rintro t rfl;refine A6 (?_);refine AA ?_;rw[FQ,if_neg (by omega),if_neg (by omega),if_neg (by simp[hc3]),hdq,Int.toNat_natCast,F7 hq,←hino,←Kq (hv.vd d (Aj hq)) hn0];rfl
theorem YG(f:AT)(dir:A9)(name:AE)(hv:FlsV f)(hs:name.size≤100000):AFn prog 83 [.agg (Al f), .agg (AB dir), .v (.string name)] (fun r=>r=CV (Eu f dir name)):=by
 have hf:=hv.b;refine enter Tryz.func83 rfl rfl rfl rfl rfl 0 rfl ?_;refine w_ (b_ (h:=b_ (h:=Af (h:=a_ (h:=a_ (h:=e_ (q_ (w_ (l_ (h:=l_ (h:=m_ (h:=?_))))))))))));refine A7 rfl (AK (Kd f dir name hf hs) ?_);rintro r rfl;refine a_ (h:=e_ (w_ (m_ (h:=BX (h:=e_ (?_))))));refine A8 rfl (fun hb1=>?_) (fun hb1=>?_)
 ·have hc1:=bp hb1;refine w_ (Aa (h:=m_ (h:=s_ (h:=a_ (h:=a_ (h:=e_ (A6 (A4 (?_)))))))));refine B0 (r:=CV (Eu f dir name)) none (h5:=?_) (h6:=⟨rfl,rfl,rfl⟩);rw[Eu,if_pos (by omega)];exact DM _
 have hc1:=bp hb1;refine AN (w_ (l_ (h:=l_ (h:=m_ (h:=?_)))));refine A7 rfl (AK (GO f dir name hf) ?_);rintro r rfl;refine m_ (h:=x_ (h:=x_ (h:=Af (h:=s_ (h:=a_ (h:=e_ (q_ (w_ (m_ (h:=BX (h:=e_ (?_))))))))))));refine A8 rfl (fun hb2=>?_) (fun hb2=>?_)
 ·have hc2:=bp hb2;refine w_ (Aa (h:=m_ (h:=s_ (h:=a_ (h:=a_ (h:=e_ (A6 (A4 (?_)))))))));refine B0 (r:=CV (Eu f dir name)) none (h5:=?_) (h6:=⟨rfl,rfl,rfl⟩);rw[Eu,if_neg (by omega),if_pos (by omega)];exact DM _
 have hc2:=bp hb2;have hlk:(AD f dir name).2=0:=by omega
 refine AN (q_ (w_ (l_ (h:=l_ (h:=?_)))));refine A7 rfl (AK (Fi f (AD f dir name).1 hf) ?_);rintro r rfl;refine BZ (h:=e_ (?_));refine A8 rfl (fun hb3=>?_) (fun hb3=>?_)
 ·have hc3:=bp hb3;refine w_ (Aa (h:=s_ (h:=a_ (h:=a_ (h:=e_ (A6 (A4 (?_))))))));refine B0 (r:=CV (Eu f dir name)) none (h5:=?_) (h6:=⟨rfl,rfl,rfl⟩);rw[Eu,if_neg (by omega),if_neg (by omega),if_pos hc3];exact DM _
 have hc3:=bp hb3;refine AN (q_ (w_ (l_ (h:=l_ (h:=?_)))));refine A7 rfl (AK (Se f (AD f dir name).1 hf) ?_);rintro r rfl;refine BZ (h:=e_ (?_));refine A8 rfl (fun hb4=>?_) (fun hb4=>?_)
 ·have hc4:=bp hb4;refine w_ (Aa (h:=s_ (h:=a_ (h:=a_ (h:=e_ (A6 (A4 (?_))))))));refine B0 (r:=CV (Eu f dir name)) none (h5:=?_) (h6:=⟨rfl,rfl,rfl⟩);rw[Eu,if_neg (by omega),if_neg (by omega),if_neg (by simp[hc3]),if_pos hc4];exact DM _
 have hc4:=bp hb4;obtain⟨q,i,d,n0,hdq,hq,hn0,hino,hidx,hnode,hk0,hnm⟩:=Ea (name:=name) (dir:=dir) (f:=f) (by omega);have hil:=(Ai.1 hn0).1;have hql:=(Ai.1 hq).1;have hvd:=hv.vd d (Aj hq);obtain⟨e,he,hle⟩:=ML hnode hk0 hlk;have hat1:(AD f dir name).1.1=(q:Int):=by rw[hle];exact hdq
 have hat2:(AD f dir name).1.2≠1:=by rw[hle];exact(hvd.ent n0 (Aj hn0) e (FO he).1).2.1
 have hxl:(entS d.nodes i n0 name 0).length=d.nodes.length:=Fn _ _ _ _ _
 have hkp:0<(Ch (AD f dir name).1.2 (entS d.nodes i n0 name 0)).length:=by
  obtain⟨m,hm,hm1⟩:=TS hvd hn0 name 0;exact QF hm (by rw[hm1];exact hat2.symm)
 refine AN (w_ (l_ (h:=?_)));refine A7 rfl (DJ [] rfl (.cons _ _ _ _ _ rfl (AM _) .nil) (by decide) .nil (Ki f q d hf hq (by omega)) ?_);rintro r bc tc ⟨rfl,cap,cap1,hcap,hcap1,rfl,rfl⟩;refine⟨rfl,_,(Kn (n:=4) rfl f q d d.nodes cap cap1:Back _ [] _ [_,_,_,_,_,_]),?_⟩;refine Af (h:=s_ (h:=e_ (w_ (l_ (h:=l_ (h:=m_ (h:=?_)))))));refine A7 rfl (DJ [4,5] rfl (.cons _ _ _ _ _ rfl (AM _) (.cons _ _ _ _ _ rfl (AM _) (.cons _ _ _ _ _ rfl (AM _) (.cons _ _ _ _ _ rfl (AM _) .nil)))) (by decide) (.cons _ _ _ _ _ rfl (Fj (by rfl) _ _ _ _ _) (.cons _ _ _ _ _ rfl (FN _ _ _) .nil)) (M7 f q d n0 i dir name 0 cap cap1 hf hq hdq hidx hn0 hcap hcap1) ?_);rintro r bc tc ⟨rfl,rfl,rfl⟩;refine⟨rfl,_,(Ko (B6 rfl) (B6 rfl) (by decide) f q d (entS d.nodes i n0 name 0) cap cap1 cap1:Back _ [4,5] _ [_,_,_,_,_,_,_]),?_⟩;refine e_ (w_ (l_ (h:=l_ (h:=?_))));refine A7 rfl (DJ [4,5] rfl (.cons _ _ _ _ _ rfl (AM _) (.cons _ _ _ _ _ rfl (AM _) .nil)) (by decide) (.cons _ _ _ _ _ rfl (Fj (by rfl) _ _ _ _ _) (.cons _ _ _ _ _ rfl (FN _ _ _) .nil)) (QG f q d {d with nodes:=entS d.nodes i n0 name 0} (AD f dir name).1 cap cap1 (hv.entS hq hn0 name 0) hql hat1 hcap (by rw[Fn];exact hcap1) hkp rfl hxl) ?_);rintro r bc tc ⟨rfl,rfl,⟨hns,rfl⟩|⟨hns,cap2,hcap2,rfl⟩⟩
 ·refine⟨rfl,_,(QD (n:=7) rfl (by decide) (by decide) (by decide) f q d (entS d.nodes i n0 name 0) (AD f dir name).1 f.length cap cap cap1 cap1:Back _ [4,5] _ [_,_,_,_,_,_,_,_,_]),?_⟩;have hx1:(entS d.nodes i n0 name 0).length≤cap1:=by omega
  refine e_ (?_);refine BY (fun t=>t=⟨look [(6, .bp 2 0),(7, .sl 7 [CN (dir,name,(AD f dir name).1,(0,0))] none),(8, .v (.int .i64 0))],⟨[Al f,AB dir,Al (f.set q {d with nodes:=Bx (entS d.nodes i n0 name 0) (AD f dir name).1.2})],[]⟩⟩) ?_ ?_
  ·skip
   refine Bi ([(0,Al f),(1,AB dir),(3,AB (AD f dir name).1),(6,[.bs 4 0 2 f.length cap])]) 9 (h:=AF 0 (h:=AF 1 (h:=AP 2 (h:=AF 3 (h:=?_)))));refine B4 4 rfl (fun _ hS=>F0 (y:= .agg (AB (0,0))) (DK ⟨rfl,rfl⟩) (by repeat (first|exact AM _|exact LeA.nil _|exact LeL.refl _|refine LeA.agg ⟨rfl,rfl⟩|refine LeA.tup ⟨rfl,rfl⟩|exact LeL.nil|refine LeL.cons ⟨rfl,rfl⟩ ⟨rfl,rfl⟩|exact LeA.any _)) ⟨rfl,rfl⟩) ?_;refine c_ 5 rfl (AK (Ju dir name (AD f dir name).1 (0,0)) ?_);rintro r rfl;refine o_ (h:=?_);refine B8 6 rfl (B3 rfl rfl rfl rfl rfl rfl (by repeat constructor) (by repeat constructor) ?_);refine o_ (h:=BN 7 (h:=BN 8 (h:=z_ (h:=?_))));refine AJ ?_;refine⟨_,rfl,?_⟩;rw[show Bx (entS d.nodes i n0 name 0) (AD f dir name).1.2=_ from hns]
   first|exact F3 3 2 rfl (congrArg (fun x=>[Al f,AB dir,x]) (G9 (k:=0) (i:=4) (j:=9) (d:={d with nodes:=Ch (AD f dir name).1.2 (entS d.nodes i n0 name 0)}) (d':={d with nodes:=Ch (AD f dir name).1.2 (entS d.nodes i n0 name 0)}) hql rfl rfl hcap hcap2 (B6 rfl) (B6 rfl) rfl rfl)) (.cons _ _ _ _ rfl (AM _) (.cons _ _ _ _ rfl (AM _) (.cons _ _ _ _ rfl (AM _) .nil)))|exact F3 3 2 rfl (congrArg (fun x=>[Al f,AB dir,x]) (G9 (k:=0) (i:=4) (j:=5) (d:=d) (d':={d with nodes:=entS d.nodes i n0 name 0}) hql rfl hxl hcap hx1 (B6 rfl) (B6 rfl) rfl rfl)) (.cons _ _ _ _ rfl (AM _) (.cons _ _ _ _ rfl (AM _) (.cons _ _ _ _ rfl (AM _) .nil)))
  rintro t rfl;refine A6 (?_);refine AA ?_;rw[Eu,if_neg (by omega),if_neg (by omega),if_neg (by simp[hc3]),if_neg (by simp[hc4]),hdq,Int.toNat_natCast,F7 hq,←hino,←Kq (hv.vd d (Aj hq)) hn0];rfl
 refine⟨rfl,_,(QC (n:=7) rfl (by decide) (by decide) (by decide) f q {d with nodes:=Ch (AD f dir name).1.2 (entS d.nodes i n0 name 0)} (entS d.nodes i n0 name 0) (Ch (AD f dir name).1.2 (entS d.nodes i n0 name 0)) (AD f dir name).1 f.length cap cap cap1 cap2:Back _ [4,5] _ [_,_,_,_,_,_,_,_,_,_]),?_⟩;refine e_ (?_);refine BY (fun t=>t=⟨look [(6, .bp 2 0),(7, .sl 7 [CN (dir,name,(AD f dir name).1,(0,0))] none),(8, .v (.int .i64 0))],⟨[Al f,AB dir,Al (f.set q {d with nodes:=Bx (entS d.nodes i n0 name 0) (AD f dir name).1.2})],[]⟩⟩) ?_ ?_
 ·skip
  refine Bi ([(0,Al f),(1,AB dir),(3,AB (AD f dir name).1),(6,[.bs 4 0 2 f.length cap])]) 9 (h:=AF 0 (h:=AF 1 (h:=AP 2 (h:=AF 3 (h:=?_)))));refine B4 4 rfl (fun _ hS=>F0 (y:= .agg (AB (0,0))) (DK ⟨rfl,rfl⟩) (by repeat (first|exact AM _|exact LeA.nil _|exact LeL.refl _|refine LeA.agg ⟨rfl,rfl⟩|refine LeA.tup ⟨rfl,rfl⟩|exact LeL.nil|refine LeL.cons ⟨rfl,rfl⟩ ⟨rfl,rfl⟩|exact LeA.any _)) ⟨rfl,rfl⟩) ?_;refine c_ 5 rfl (AK (Ju dir name (AD f dir name).1 (0,0)) ?_);rintro r rfl;refine o_ (h:=?_);refine B8 6 rfl (B3 rfl rfl rfl rfl rfl rfl (by repeat constructor) (by repeat constructor) ?_);refine o_ (h:=BN 7 (h:=BN 8 (h:=z_ (h:=?_))));refine AJ ?_;refine⟨_,rfl,?_⟩;rw[show Bx (entS d.nodes i n0 name 0) (AD f dir name).1.2=_ from hns]
  first|exact F3 3 2 rfl (congrArg (fun x=>[Al f,AB dir,x]) (G9 (k:=0) (i:=4) (j:=9) (d:={d with nodes:=Ch (AD f dir name).1.2 (entS d.nodes i n0 name 0)}) (d':={d with nodes:=Ch (AD f dir name).1.2 (entS d.nodes i n0 name 0)}) hql rfl rfl hcap hcap2 (B6 rfl) (B6 rfl) rfl rfl)) (.cons _ _ _ _ rfl (AM _) (.cons _ _ _ _ rfl (AM _) (.cons _ _ _ _ rfl (AM _) .nil)))|exact F3 3 2 rfl (congrArg (fun x=>[Al f,AB dir,x]) (G9 (k:=0) (i:=4) (j:=5) (d:=d) (d':={d with nodes:=entS d.nodes i n0 name 0}) hql rfl hxl hcap hx1 (B6 rfl) (B6 rfl) rfl rfl)) (.cons _ _ _ _ rfl (AM _) (.cons _ _ _ _ rfl (AM _) (.cons _ _ _ _ rfl (AM _) .nil)))
 rintro t rfl;refine A6 (?_);refine AA ?_;rw[Eu,if_neg (by omega),if_neg (by omega),if_neg (by simp[hc3]),if_neg (by simp[hc4]),hdq,Int.toNat_natCast,F7 hq,←hino,←Kq (hv.vd d (Aj hq)) hn0];rfl
end
section
variable {P:Program}{N:Dim}{ops:Array Oper}{Q:Exit→AS→Prop}{S:AH→Prop}{tl:Nat}
def TT(ops:Array Oper)(tl:Nat):Bool:=Mt ops tl
end
section
variable {P:Program}{N:Dim}{Q:Exit→AS→Prop}{l:List Oper}{S:AH→Prop}{tl:Nat}{fuel:Nat}{listed:Array Bool}{m:List (Nat×AV)}{h:AH}{op:Op}{ty:TypeId}{pos:String}{af:Array Edge}{gd:Option (Nat×Bool)}
theorem YH{i d:Nat}{x:AV}(hi:l[i]?=some ⟨some d,op,ty,pos,af,gd⟩)(hd:Nat.blt d N.n=true)(htl:(TT l.toArray tl&&Ms l.toArray listed&& !Nat.ble tl i&&Region.free .any l.toArray listed i&&(Region.ready .any l.toArray listed).contains i)=true)
    (hw:CP l.toArray (look m) ⟨some d,op,ty,pos,af,gd⟩=some true) (hst:∀h,S h→AStep P ⟨some d,op,ty,pos,af,gd⟩ (CA (look m)) h (fun x' h'=>x'=x∧h'=h)) (hS:S h)
    (H:AAny P N l.toArray Q S tl fuel (listed.setIfInBounds i true) ⟨look ((d,x)::m),h⟩):AAny P N l.toArray Q S tl (fuel+1) listed ⟨look m,h⟩:=by
 simp only[Bool.and_eq_true,Bool.not_eq_true']at htl;obtain⟨⟨⟨⟨t1,t0⟩,t2⟩,t3⟩,t4⟩:=htl;exact AAny.first3 (oi:=⟨some d,op,ty,pos,af,gd⟩) (Gk hi) hd t1 t2 fuel listed ⟨look m,h⟩ (Rj t0) (Region.free_spec (Gk hi) t3) (List.contains_iff_mem.1 t4) (.inl ⟨hw,hst⟩) hS H
end
theorem Dn{P:Program}{N:Dim}{Q:Exit→AS→Prop}{l:List Oper}{S:AH→Prop}{tl:Nat}{fuel:Nat}{listed:Array Bool}{m:List (Nat×AV)}{h:AH}{op:Op}{ty:TypeId}{pos:String}{af:Array Edge}{gd:Option (Nat×Bool)}(i:Nat){d:Nat}{x:AV}(hi:l[i]?=some ⟨some d,op,ty,pos,af,gd⟩)(hst:∀h,S h→AStep P ⟨some d,op,ty,pos,af,gd⟩ (CA (look m)) h (fun x' h'=>x'=x∧h'=h))(H:AAny P N l.toArray Q S tl fuel (listed.setIfInBounds i true) ⟨look ((d,x)::m),h⟩)(hd:Nat.blt d N.n=true:=by rfl)(htl:(TT l.toArray tl&&Ms l.toArray listed&& !Nat.ble tl i&&Region.free .any l.toArray listed i&&(Region.ready .any l.toArray listed).contains i)=true:=by kernel_rfl)(hw:CP l.toArray (look m) ⟨some d,op,ty,pos,af,gd⟩=some true:=by first|rfl|exact AO rfl rfl (BG ‹_›)|exact AO rfl rfl (BH ‹_›)|exact AO rfl rfl (by simp[*]))(hS:S h:=by repeat (first|exact Ll _|refine Lm rfl ?_)):AAny P N l.toArray Q S tl (fuel+1) listed ⟨look m,h⟩:=YH hi hd htl hw hst hS H
theorem QH{f:AT}{a:A9}{q i:Nat}{d:Dvc}{n:Nod}(ha:a.1=(q:Int))(hq:f[q]?=some d)(hd:DX d.nodes)(hn:d.nodes[i]?=some n)(hi:n.ino=a.2):EX f a=(i:Int):=by
 rw[PV ha hq];refine SX hn (by simpa using hi) fun j y hj hy=>?_;obtain⟨l1,e1⟩:=Ai.1 hn;obtain⟨l2,e2⟩:=Ai.1 hy;have hp:=List.pairwise_iff_getElem.1 hd j i l2 l1 hj;rw[e1,e2]at hp;have:y.ino≠a.2:=by omega
 simpa using this
theorem TU(f:AT)(q:Nat)(d':Dvc)(n:Nod)(i:Nat)(a:A9)(name:AE)(ino:Int)(cap cap1:Nat)(hf:FlsB (f.set q d'))(hq:q<f.length)(ha:a.1=(q:Int))(hi:EX (f.set q d') a=(i:Int))(hn:d'.nodes[i]?=some n)(hcap:f.length≤cap)(hcap1:d'.nodes.length≤cap1):
    ACall prog 37 [.agg [.bs 0 0 2 f.length cap], .agg (AB a), .v (.string name), .v (.int .i64 ino)] [DB f q d' 1 cap cap1,NB d'.nodes cap1] (fun r b t=>t=[]∧r= .tup []∧b=[DB f q d' 1 cap cap1,NB (entS d'.nodes i n name ino) cap1]):=by
 have key:=M7 (f.set q d') q d' n i a name ino cap cap1 hf (by simp[hq]) ha hi hn (by simpa using hcap) hcap1;rw[List.length_set,Q0]at key;exact key
def GA(f:AT)(a:A9)(mode uid gid:Int):AT×Int:=
 if Cc f a=false then([],2)else if EM (EZ mode uid gid (AZ f a))=false then([],22)else(FP f a.1.toNat fun ns=>CZ ns a.2 (EZ mode uid gid),0)
def Nx(R:AT×Int):AV:= .tup [.agg (Al R.1), .v (.int .i64 R.2)]
theorem TV(e:Int):LeA (.tup [.agg [.v (.slice none 0 0)], .v (.int .i64 e)]) (Nx ([],e)):=(by repeat (first|exact AM _|exact LeA.nil _|exact LeL.refl _|refine LeA.agg ?_|refine LeA.tup ?_|exact LeL.nil|refine LeL.cons ?_ ?_|exact LeA.any _))
theorem YJ{n:Nod}(h:EM n=true):n.target.size≤128:=by
 unfold EM at h;split at h
 ·cases h
 split at h
 ·simp[JH]at h;omega
 have h2:=List.isEmpty_iff.1 h;rw[ByteArray.toList_eq]at h2;have:n.target.data.size=0:=by rw[←Array.length_toList,h2];rfl
 show n.target.data.size≤128;omega
theorem MM{f:AT}(hv:FlsV f)(a:A9):(AZ f a).target.size≤128:=by
 rcases Gu f a with⟨-,h⟩|⟨k,i,d,n, -,h1,h2, -, -,h⟩
 ·simp only[AZ,h,Option.getD_none];exact BJ _
 simp only[AZ,h,Option.getD_some];exact YJ ((hv.vd d (Aj h1)).plain n (Aj h2))
def Du(f:AT)(dir:A9)(name:AE)(n:Nod):Dl:=
 if C6 f dir name≠0 then([],[],C6 f dir name)else if EM n=false then([],[],22)else if(AD f dir name).2=0 then([],[],17)else
 match FK f dir.1 with
 |none=>([],[],2)
 |some d=>if 16≤d.nodes.length∨d.next=1073741824∨Hi f dir=true then([],[],28)else(f.set dir.1.toNat ⟨d.next+1,BS d.nodes dir.2 name d.next++[EN n d.next dir.2]⟩,[(dir,name,(0,0),(dir.1,d.next))],0)
theorem TW{f:AT}{q:Nat}{d:Dvc}{j j' cap cap1 c:Nat}(m:Nod)(hq:q<f.length):SetAt (DB f q d j cap cap1) (0+q * 2+1) [.bs j' 0 8 (d.nodes.length+1) c] (DB f q {d with nodes:=d.nodes++[m]} j' cap c):=by
 have h:=Pz (d:=d) (d':={d with nodes:=d.nodes++[m]}) (j:=j) (j':=j') (cap:=cap) (cap1:=cap1) (cap1':=c) (k:=1) (cs:=[.bs j' 0 8 (d.nodes++[m]).length c]) hq (by repeat constructor) (by simp)
 rwa [List.length_append]at h
section
theorem YK(f:AT)(a:A9)(mode uid gid:Int)(hv:FlsV f):AFn prog 84 [.agg (Al f), .agg (AB a), .v (.int .i64 mode), .v (.int .i64 uid), .v (.int .i64 gid)] (fun r=>r=Nx (GA f a mode uid gid)):=by
 have hf:=hv.b;have htg:=MM hv a;refine enter Tryz.func84 rfl rfl rfl rfl rfl 0 rfl ?_;refine w_ (b_ (h:=b_ (h:=Af (h:=a_ (h:=e_ (w_ (l_ (h:=l_ (h:=?_)))))))));refine A7 rfl (AK (Dm f a hf) ?_);rintro r rfl;refine m_ (h:=x_ (h:=x_ (h:=Af (h:=s_ (h:=a_ (h:=e_ (q_ (w_ (m_ (h:=BZ (h:=e_ (?_))))))))))));refine A8 rfl (fun hb1=>?_) (fun hb1=>?_)
 ·have hc1:=bp hb1;refine w_ (Aa (h:=s_ (h:=a_ (h:=e_ (A6 (A4 (?_)))))));refine B0 (r:=Nx (GA f a mode uid gid)) none (h5:=?_) (h6:=⟨rfl,rfl,rfl⟩);rw[GA,if_pos hc1];exact TV _
 have hc1:=bp hb1;refine AN (w_ (m_ (h:=m_ (h:=m_ (h:=f_ (h:=s_ (h:=f_ (h:=s_ (h:=f_ (h:=s_ (h:=e_ (q_ (w_ (l_ (h:=?_)))))))))))))));refine A7 rfl (AK (Nh (EZ mode uid gid (AZ f a)) (by show(AZ f a).target.size≤100000;omega)) ?_);rintro r rfl;refine BZ (h:=e_ (?_));refine A8 rfl (fun hb2=>?_) (fun hb2=>?_)
 ·have hc2:=bp hb2;refine w_ (Aa (h:=s_ (h:=a_ (h:=e_ (A6 (A4 (?_)))))));refine B0 (r:=Nx (GA f a mode uid gid)) none (h5:=?_) (h6:=⟨rfl,rfl,rfl⟩);rw[GA,if_neg (by simp[hc1]),if_pos hc2];exact TV _
 have hc2:=bp hb2;obtain⟨q,i,d,n0,hdq,hq,hn0,hino,hidx,hnode⟩:=(Gu f a).resolve_left (fun h=>by simp[Cc,h.2]at hc1);have hil:=(Ai.1 hn0).1;have hql:=(Ai.1 hq).1;have hng:AZ f a=n0:=by simp[AZ,hnode]
 refine AN (w_ (l_ (h:=?_)));refine A7 rfl (DJ [] rfl (.cons _ _ _ _ _ rfl (AM _) .nil) (by decide) .nil (Ki f q d hf hq (by omega)) ?_);rintro r bc tc ⟨rfl,cap,cap1,hcap,hcap1,rfl,rfl⟩;refine⟨rfl,_,(Kn (n:=4) rfl f q d d.nodes cap cap1:Back _ [] _ [_,_,_,_,_,_]),?_⟩;have hD0:(DB f q d 5 cap cap1)[0+q * 2+1]?=some (.bs 5 0 8 d.nodes.length cap1):=Gz hql
 have hset:SetAt (NB d.nodes cap1) (0+i * 8) (Ab (EZ mode uid gid (AZ f a))) (NB (d.nodes.set i (EZ mode uid gid (AZ f a))) cap1):=by
  rw[hng];exact Py (k:=0) hn0 (by repeat constructor) (by simp[Ab])
 refine Af (h:=s_ (h:=e_ (q_ (Bi ([(0,Al f),(1,AB a),(3,Ab (EZ mode uid gid (AZ f a))),(4,DB f q d 5 cap cap1),(6,[.bs 4 0 2 f.length cap])]) 13 (h:=AQ 0 (h:=?_))))))
 first|refine AF 1 (h:=?_)|refine B4 1 rfl (fun _ hS=>Bh (row:=DB f q d 5 cap cap1) rfl (kb hS rfl) hD0 ⟨rfl,rfl⟩) ?_
 refine AQ 2 (h:=?_)
 first|refine AF 3 (h:=?_)|refine B4 3 rfl (fun _ hS=>Bh (row:=DB f q d 5 cap cap1) rfl (kb hS rfl) hD0 ⟨rfl,rfl⟩) ?_
 refine B4 4 rfl (fun _ hS=>DG (m:=q) rfl rfl hdq hql ⟨rfl,rfl⟩) ?_;refine AQ 5 (h:=?_)
 first|refine AF 6 (h:=?_)|refine B4 6 rfl (fun _ hS=>Bh (row:=DB f q d 5 cap cap1) rfl (kb hS rfl) hD0 ⟨rfl,rfl⟩) ?_
 first|refine AF 7 (h:=?_)|refine B4 7 rfl (fun _ hS=>Bh (row:=DB f q d 5 cap cap1) rfl (kb hS rfl) hD0 ⟨rfl,rfl⟩) ?_
 first|refine AF 8 (h:=?_)|refine B4 8 rfl (fun _ hS=>Bh (row:=DB f q d 5 cap cap1) rfl (kb hS rfl) hD0 ⟨rfl,rfl⟩) ?_
 first|refine AF 10 (h:=?_)|refine B4 10 rfl (fun _ hS=>Bh (row:=DB f q d 5 cap cap1) rfl (kb hS rfl) hD0 ⟨rfl,rfl⟩) ?_
 refine c_ 9 rfl (ET 2 rfl (.cons _ _ _ _ _ rfl (LeA.of_eq (JO hq hcap hcap1 (BJ _) (BJ _) rfl rfl)) (.cons _ _ _ _ _ rfl (AM _) .nil)) (Gv f a hf) ?_);rintro r rfl;refine⟨rfl,?_⟩;refine o_ (h:=?_);refine B4 11 rfl (fun _ hS=>DG (m:=i) rfl rfl hidx hil ⟨rfl,rfl⟩) ?_;refine B8 12 rfl (B3 rfl rfl rfl rfl rfl rfl hset (by repeat constructor) ?_);refine o_ (h:=z_ (h:=t_ (?_)));refine BY (fun t=>t=⟨look [(10, .bp 2 0),(11, .v (.int .i64 0))],⟨[Al f,AB a,Al (f.set q {d with nodes:=d.nodes.set i (EZ mode uid gid (AZ f a))})],[]⟩⟩) ?_ ?_
 ·skip
  refine AX (l_ (h:=s_ (h:=a_ (h:=AW (?_)))));refine AJ ?_;exact⟨_,rfl,F3 3 2 rfl (congrArg (fun x=>[Al f,AB a,x]) (G9 (k:=0) (i:=4) (j:=5) (d:=d) (d':={d with nodes:=d.nodes.set i (EZ mode uid gid (AZ f a))}) hql rfl (by simp) hcap (by simpa using hcap1) (B6 rfl) (B6 rfl) rfl rfl)) (.cons _ _ _ _ rfl (AM _) (.cons _ _ _ _ rfl (AM _) .nil))⟩
 rintro t rfl;refine A6 (?_);refine AA ?_;rw[GA,if_neg (by simp[hc1]),if_neg (by simp[hc2]),hdq,Int.toNat_natCast,F7 hq,←hino,←MK (hv.vd d (Aj hq)).asc hn0,←hng];rfl
theorem TX(f:AT)(dir:A9)(name:AE)(n:Nod)(hv:FlsV f)(hs:name.size≤100000)(hns:n.target.size≤100000):AFn prog 18 [.agg (Al f), .agg (AB dir), .v (.string name), .agg (Ab n)] (fun r=>r=CV (Du f dir name n)):=by
 have hf:=hv.b;obtain⟨e0,he0⟩:∃e0:Int,e0=if C6 f dir name≠0 then C6 f dir name else if EM n=false then 22 else 0:=⟨_,rfl⟩
 refine enter Tryz.func18 rfl rfl rfl rfl rfl 0 rfl ?_;refine w_ (b_ (h:=b_ (h:=b_ (h:=Af (h:=a_ (h:=a_ (h:=e_ (w_ (l_ (h:=l_ (h:=m_ (h:=?_))))))))))));refine A7 rfl (AK (Kd f dir name hf hs) ?_);rintro r rfl;refine a_ (h:=e_ (?_));refine BY (fun t=>t=⟨look [(2, .v (.string name)),(4, .bp 0 0),(5, .bp 1 0),(7, .bp 2 0),(8, .bp 3 0),(9, .v (.slice none 0 0)),(10, .v (.int .i64 0)),(11, .v (.int .i64 e0))],⟨[Al f,AB dir,Ab n,[.v (.slice none 0 0)]],[]⟩⟩) ?_ ?_
 ·skip
  refine w_ (m_ (h:=Ac (h:=m_ (h:=?_))));refine As true rfl rfl (fun hb1=>?_) (fun hb1=>?_)
  ·have hc1:=bp hb1;refine l_ (h:=?_);refine Aw (AK (Nh n hns) ?_);rintro r rfl;refine BZ (h:=AU (h:=e_ (?_)));refine A8 rfl (fun hb2=>?_) (fun hb2=>?_)
   ·have hc2:=bp hb2;have hee:e0=22:=by rw[he0,if_neg (by omega),if_pos hc2]
    refine AX (a_ (h:=AW (?_)));refine AJ ?_;refine⟨_,rfl,?_⟩;rw[hee];exact(wk 4 0)
   have hc2:=bp hb2;have hee:e0=C6 f dir name:=by rw[he0,if_neg (by omega),if_neg (by simp[hc2]),hc1]
   refine BA (?_);refine AJ ?_;refine⟨_,rfl,?_⟩;rw[hee];exact(wk 4 0)
  have hc1:=bp hb1;have hee:e0=C6 f dir name:=by rw[he0,if_pos hc1]
  refine A3 (h:=A3 (h:=A3 (h:=Ah (h:=e_ (F5 (h:=BA (?_)))))));refine AJ ?_;refine⟨_,rfl,?_⟩;rw[hee];exact(wk 4 0)
 rintro t rfl;refine q_ (w_ (m_ (h:=BX (h:=e_ (?_)))));refine A8 rfl (fun hb3=>?_) (fun hb3=>?_)
 ·have hc3:=bp hb3;refine w_ (Aa (h:=m_ (h:=s_ (h:=a_ (h:=a_ (h:=e_ (A6 (A4 (?_)))))))));refine B0 (r:=CV (Du f dir name n)) none (h5:=?_) (h6:=⟨rfl,rfl,rfl⟩)
  rw[show Du f dir name n=([],[],e0) by
   unfold Du;by_cases h:C6 f dir name=0
   ·rw[if_neg (by omega)]at he0 ⊢;by_cases h2:EM n=false
    ·rw[if_pos h2]at he0 ⊢;rw[he0]
    rw[if_neg h2]at he0;omega
   rw[if_pos h]at he0 ⊢;rw[he0]]
  exact DM _
 have hc3:=bp hb3
 have hpl:C6 f dir name=0:=by
  by_cases h:C6 f dir name=0
  ·exact h
  rw[if_pos h]at he0;omega
 have hpn:¬EM n=false:=by
  intro h;rw[if_neg (by omega),if_pos h]at he0;omega
 refine AN (q_ (w_ (l_ (h:=l_ (h:=m_ (h:=?_))))));refine A7 rfl (AK (GO f dir name hf) ?_);rintro r rfl;refine m_ (h:=x_ (h:=x_ (h:=Af (h:=s_ (h:=a_ (h:=e_ (w_ (m_ (h:=Ac (h:=e_ (?_)))))))))));refine A8 rfl (fun hb4=>?_) (fun hb4=>?_)
 ·have hc4:=bp hb4;refine w_ (Aa (h:=s_ (h:=a_ (h:=a_ (h:=e_ (A6 (A4 (?_))))))));refine B0 (r:=CV (Du f dir name n)) none (h5:=?_) (h6:=⟨rfl,rfl,rfl⟩);rw[Du,if_neg (by omega),if_neg hpn,if_pos (by omega)];exact DM _
 have hc4:=bp hb4;obtain⟨q,i,d,n0,hdq,hq,hn0,hino,hidx,hnode,hk0,hnm⟩:=Ea (name:=name) (dir:=dir) (f:=f) hpl;have hil:=(Ai.1 hn0).1;have hql:=(Ai.1 hq).1;have hvd:=hv.vd d (Aj hq);have hatI:FK f dir.1=some d:=by rw[hdq,Hg,hq]
 have hrow:(f.map Be)[q]?=some (Be d):=by rw[List.getElem?_map,hq];rfl
 have hnx1:=hvd.next2;have hnx2:=hvd.nextM;have hdl:=hvd.len;refine AN (w_ (f_ (h:=l_ (h:=f_ (h:=l_ (h:=?_))))));refine A7 rfl (CM (n:=q) rfl rfl hdq hrow ?_);refine l_ (h:=Af (h:=s_ (h:=e_ (q_ (w_ (f_ (h:=l_ (h:=n_ (h:=G6 (h:=m_ (h:=?_)))))))))));refine As false rfl rfl (fun hb5=>?_) (fun hb5=>?_)
 ·have hc5:=bp hb5;refine A3 (h:=A3 (h:=A3 (h:=AU (h:=m_ (h:=A3 (h:=A3 (h:=A3 (h:=AU (h:=e_ (BQ (h:=w_ (Aa (h:=s_ (h:=a_ (h:=a_ (h:=e_ (A6 (A4 (?_)))))))))))))))))));refine B0 (r:=CV (Du f dir name n)) none (h5:=?_) (h6:=⟨rfl,rfl,rfl⟩);rw[Du,if_neg (by omega),if_neg hpn,if_neg (by omega),hatI];simp only;rw[if_pos (by first|exact .inl (by simp at *;omega)|exact .inr (.inl (by omega))|exact .inr (.inr (by assumption)))];exact DM _
 have hc5:=bp hb5;refine f_ (h:=l_ (h:=Ac (h:=Ah (h:=m_ (h:=?_)))));refine As false rfl rfl (fun hb6=>?_) (fun hb6=>?_)
 ·have hc6:=bp hb6;refine A3 (h:=A3 (h:=A3 (h:=AU (h:=e_ (BQ (h:=w_ (Aa (h:=s_ (h:=a_ (h:=a_ (h:=e_ (A6 (A4 (?_))))))))))))));refine B0 (r:=CV (Du f dir name n)) none (h5:=?_) (h6:=⟨rfl,rfl,rfl⟩);rw[Du,if_neg (by omega),if_neg hpn,if_neg (by omega),hatI];simp only;rw[if_pos (by first|exact .inl (by simp at *;omega)|exact .inr (.inl (by omega))|exact .inr (.inr (by assumption)))];exact DM _
 have hc6:=bp hb6;refine l_ (h:=l_ (h:=?_));refine Aw (AK (PW f dir hf) ?_);rintro r rfl;refine Ah (h:=e_ (?_));refine A8 rfl (fun hb7=>?_) (fun hb7=>?_)
 ·have hc7:=bp hb7;refine w_ (Aa (h:=s_ (h:=a_ (h:=a_ (h:=e_ (A6 (A4 (?_))))))));refine B0 (r:=CV (Du f dir name n)) none (h5:=?_) (h6:=⟨rfl,rfl,rfl⟩);rw[Du,if_neg (by omega),if_neg hpn,if_neg (by omega),hatI];simp only;rw[if_pos (by first|exact .inl (by simp at *;omega)|exact .inr (.inl (by omega))|exact .inr (.inr (by assumption)))];exact DM _
 have hc7:=bp hb7;refine AN (w_ (l_ (h:=?_)));refine A7 rfl (DJ [] rfl (.cons _ _ _ _ _ rfl (AM _) .nil) (by decide) .nil (Ki f q d hf hq (by omega)) ?_);rintro r bc tc ⟨rfl,cap,cap1,hcap,hcap1,rfl,rfl⟩;refine⟨rfl,_,(Kn (n:=6) rfl f q d d.nodes cap cap1:Back _ [] _ [_,_,_,_,_,_,_,_]),?_⟩;have hD0:(DB f q d 7 cap cap1)[0+q * 2+1]?=some (.bs 7 0 8 d.nodes.length cap1):=Gz hql;obtain⟨mk,hmk⟩:∃mk,mk=EN n d.next dir.2:=⟨_,rfl⟩;refine Af (h:=s_ (h:=e_ (w_ (f_ (h:=l_ (h:=f_ (h:=l_ (h:=f_ (h:=l_ (h:=f_ (h:=l_ (h:=f_ (h:=l_ (h:=f_ (h:=l_ (h:=?_))))))))))))))));refine A7 rfl (FJ (y:= .agg (Ab ⟨d.next,n.kind,n.mode,n.uid,n.gid,0,n.target,[]⟩)) (DK ⟨rfl,rfl⟩) ?_);refine Af (h:=s_ (h:=e_ (?_)));refine BY (fun t=>t=⟨look [(2, .v (.string name)),(5, .bp 1 0),(8, .bp 3 0),(15, .bp 8 0),(16, .bp 9 0)],⟨[Al f,AB dir,Ab n,[.v (.slice none 0 0)],AB (AD f dir name).1,Be d,DB f q d 7 cap cap1,NB d.nodes cap1,[.bs 6 0 2 f.length cap],Ab mk],[]⟩⟩) ?_ ?_
 ·skip
  refine w_ (f_ (h:=l_ (h:=Ac (h:=e_ (?_)))));refine A8 rfl (fun hb8=>?_) (fun hb8=>?_)
  ·have hc8:=bp hb8;have hmk2:mk=⟨d.next,n.kind,n.mode,n.uid,n.gid,dir.2,n.target,[]⟩:=by rw[hmk];unfold EN;rw[if_pos hc8]
   refine AX (f_ (h:=l_ (h:=f_ (h:=s_ (h:=AW (?_))))));refine AJ ?_;refine⟨_,rfl,?_⟩;rw[hmk2];exact Bj 10 0 (by simp[At,Aq,Ap,Bq,Br,AB,Ab,Al,Be])
  have hc8:=bp hb8;have hmk2:mk=⟨d.next,n.kind,n.mode,n.uid,n.gid,0,n.target,[]⟩:=by rw[hmk];unfold EN;rw[if_neg hc8]
  refine BA (?_);refine AJ ?_;refine⟨_,rfl,?_⟩;rw[hmk2];exact Bj 10 0 (by simp[At,Aq,Ap,Bq,Br,AB,Ab,Al,Be])
 rintro t rfl;refine BY (fun t=>∃capx,(d.nodes++[mk]).length≤capx∧t=⟨look [(2, .v (.string name)),(5, .bp 1 0),(8, .bp 3 0),(15, .bp 8 0),(16, .bp 9 0)],⟨[Al f,AB dir,Ab n,[.v (.slice none 0 0)],AB (AD f dir name).1,Be d,DB f q {d with nodes:=d.nodes++[mk]} 7 cap capx,NB (d.nodes++[mk]) capx,[.bs 6 0 2 f.length cap],Ab mk],[]⟩⟩) ?_ ?_
 ·skip
  refine Bi ([(0,Al f),(1,AB dir),(2,Ab n),(3,[.v (.slice none 0 0)]),(4,AB (AD f dir name).1),(5,Be d),(6,DB f q d 7 cap cap1),(8,[.bs 6 0 2 f.length cap]),(9,Ab mk)]) 16 (h:=?_);refine Dn 0 rfl (fun h0 hS=>Ee rfl ⟨rfl,rfl⟩) ?_
  first|refine Dn 1 rfl (fun h0 hS=>Bh (row:=DB f q d 7 cap cap1) rfl (kb hS rfl) hD0 ⟨rfl,rfl⟩) ?_|refine Dn 1 rfl (fun h0 hS=>Bh rfl (kb hS rfl) rfl ⟨rfl,rfl⟩) ?_
  refine Dn 2 rfl (fun h0 hS=>Ee rfl ⟨rfl,rfl⟩) ?_
  first|refine Dn 3 rfl (fun h0 hS=>Bh (row:=DB f q d 7 cap cap1) rfl (kb hS rfl) hD0 ⟨rfl,rfl⟩) ?_|refine Dn 3 rfl (fun h0 hS=>Bh rfl (kb hS rfl) rfl ⟨rfl,rfl⟩) ?_
  refine Dn 4 rfl (fun h0 hS=>Ee rfl ⟨rfl,rfl⟩) ?_
  first|refine Dn 5 rfl (fun h0 hS=>Bh (row:=DB f q d 7 cap cap1) rfl (kb hS rfl) hD0 ⟨rfl,rfl⟩) ?_|refine Dn 5 rfl (fun h0 hS=>Bh rfl (kb hS rfl) rfl ⟨rfl,rfl⟩) ?_
  refine Dn 6 rfl (fun h0 hS=>Ee rfl ⟨rfl,rfl⟩) ?_
  first|refine Dn 7 rfl (fun h0 hS=>Bh (row:=DB f q d 7 cap cap1) rfl (kb hS rfl) hD0 ⟨rfl,rfl⟩) ?_|refine Dn 7 rfl (fun h0 hS=>Bh rfl (kb hS rfl) rfl ⟨rfl,rfl⟩) ?_
  refine Dn 8 rfl (fun h0 hS=>DG (m:=q) rfl rfl hdq hql ⟨rfl,rfl⟩) ?_;refine Dn 9 rfl (fun h0 hS=>Ee rfl ⟨rfl,rfl⟩) ?_
  first|refine Dn 10 rfl (fun h0 hS=>Bh (row:=DB f q d 7 cap cap1) rfl (kb hS rfl) hD0 ⟨rfl,rfl⟩) ?_|refine Dn 10 rfl (fun h0 hS=>Bh rfl (kb hS rfl) rfl ⟨rfl,rfl⟩) ?_
  first|refine Dn 11 rfl (fun h0 hS=>Bh (row:=DB f q d 7 cap cap1) rfl (kb hS rfl) hD0 ⟨rfl,rfl⟩) ?_|refine Dn 11 rfl (fun h0 hS=>Fd rfl (kb hS rfl) rfl ⟨rfl,rfl⟩) ?_
  refine Dn 12 rfl (fun h0 hS=>LX (by repeat (first|exact DenseA.nil _|(apply DenseA.cons;(focus exact rfl);(focus exact rfl);(focus exact rfl);(focus exact rfl))|(apply DenseA.consE;(focus exact rfl);(focus exact rfl);(focus exact rfl)))) rfl rfl rfl rfl ⟨rfl,rfl⟩) ?_;refine c_ 13 rfl (Lg rfl rfl rfl (by rw[M5 hcap1];omega) JP (by omega) (by omega) ?_ ?_)
  ·rintro hg row2 bx2 hs hb;obtain rfl:=T9 hs hg;obtain rfl:bx2=[_,_,_,_,_,_,_,_,_,_]:=hb.one.2;have hgx:(d.nodes++[mk]).length≤cap1:=by simpa using hg
   refine o_ (h:=?_);refine Dn 14 rfl (fun h0 hS=>DG (m:=q) rfl rfl hdq hql ⟨rfl,rfl⟩) ?_;refine Dn 15 rfl (fun h0 hS=>Ee rfl ⟨rfl,rfl⟩) ?_;refine B8 16 rfl (B3 rfl rfl rfl rfl rfl rfl (TW mk hql) (by repeat constructor) ?_);refine o_ (h:=z_ (h:=?_));refine AJ ?_
   first|exact⟨_,⟨_,hgx,rfl⟩,EU [0,1,2,3,4,5,6,10,8,9] (fun i hi=>absurd hi (Nat.not_lt_zero i)) (by decide) (.cons _ _ _ _ _ rfl rfl (.cons _ _ _ _ _ rfl rfl (.cons _ _ _ _ _ rfl rfl (.cons _ _ _ _ _ rfl rfl (.cons _ _ _ _ _ rfl rfl (.cons _ _ _ _ _ rfl rfl (.cons _ _ _ _ _ rfl (JN (by rfl) _ _ _ _ _) (.cons _ _ _ _ _ rfl (GQ _ _ _) (.cons _ _ _ _ _ rfl rfl (.cons _ _ _ _ _ rfl rfl .nil)))))))))) (by repeat (first|exact SubK.nil|refine SubK.cons _ _ _ _ rfl (AM _) ?_))⟩|exact⟨_,⟨_,hgx,rfl⟩,Bj 10 0 (by simp[At,Aq,Ap,Bq,Br,AB,Ab,Al,Be])⟩
  rintro hg cap3 k bx2 hcp3 hs;rw[show((NB d.nodes cap1).drop 0).take (d.nodes.length * 8)++CT (.agg (Ab mk))++List.replicate ((cap3 - (d.nodes.length+1)) * 8) AV.any=NB (d.nodes++[mk]) cap3 from T8 d.nodes mk cap1 cap3]at hs;obtain⟨rfl,rfl⟩:k=10∧bx2=[_,_,_,_,_,_,_,_,_,_,_]:=hs.eq;have hgx:(d.nodes++[mk]).length≤cap3:=by simpa using hcp3
  refine o_ (h:=?_);refine Dn 14 rfl (fun h0 hS=>DG (m:=q) rfl rfl hdq hql ⟨rfl,rfl⟩) ?_;refine Dn 15 rfl (fun h0 hS=>Ee rfl ⟨rfl,rfl⟩) ?_;refine B8 16 rfl (B3 rfl rfl rfl rfl rfl rfl (TW mk hql) (by repeat constructor) ?_);refine o_ (h:=z_ (h:=?_));refine AJ ?_
  first|exact⟨_,⟨_,hgx,rfl⟩,EU [0,1,2,3,4,5,6,10,8,9] (fun i hi=>absurd hi (Nat.not_lt_zero i)) (by decide) (.cons _ _ _ _ _ rfl rfl (.cons _ _ _ _ _ rfl rfl (.cons _ _ _ _ _ rfl rfl (.cons _ _ _ _ _ rfl rfl (.cons _ _ _ _ _ rfl rfl (.cons _ _ _ _ _ rfl rfl (.cons _ _ _ _ _ rfl (JN (by rfl) _ _ _ _ _) (.cons _ _ _ _ _ rfl (GQ _ _ _) (.cons _ _ _ _ _ rfl rfl (.cons _ _ _ _ _ rfl rfl .nil)))))))))) (by repeat (first|exact SubK.nil|refine SubK.cons _ _ _ _ rfl (AM _) ?_))⟩|exact⟨_,⟨_,hgx,rfl⟩,Bj 10 0 (by simp[At,Aq,Ap,Bq,Br,AB,Ab,Al,Be])⟩
 rintro t ⟨capx,hcapx,rfl⟩;have hasc2:DX (d.nodes++[mk]):=List.pairwise_append.2 ⟨hvd.asc,List.pairwise_singleton _ _,fun x hx y hy=>by obtain rfl:=List.mem_singleton.1 hy;rw[hmk];exact hvd.lt x hx⟩;have hn2:(d.nodes++[mk])[i]?=some n0:=by rw[Ca hil];exact hn0
 have hidx2:EX (f.set q ⟨d.next+1,d.nodes++[mk]⟩) dir=(i:Int):=QH hdq (d:=⟨d.next+1,d.nodes++[mk]⟩) (by simp[hql]) hasc2 hn2 hino
 have hf2:FlsB (f.set q ⟨d.next+1,d.nodes++[mk]⟩):=hf.set_ (by have:=hvd.len;simp;omega) (fun m hm=>by
  rcases List.mem_append.1 hm with h|h
  ·have:=hvd.many m h;omega
  obtain rfl:=List.mem_singleton.1 h;rw[hmk];simp[EN])
 have hmki:mk.ino=d.next:=by rw[hmk];rfl
 have hmk0:(Ab mk)[0+0]?=some (.v (.int .i64 d.next)):=by rw[hmk];rfl
 refine w_ (f_ (h:=l_ (h:=f_ (h:=l_ (h:=?_)))));refine A7 rfl (DG (m:=q) rfl rfl hdq hql ?_);refine f_ (h:=?_);refine A7 rfl (Bh rfl rfl (Xz hql) ?_);refine A7 rfl (Ji rfl rfl (by dsimp only;omega) ?_);refine A7 rfl (DG (m:=q) rfl rfl hdq hql ?_);refine f_ (h:=?_);refine Ld (B3 rfl rfl rfl rfl rfl rfl (Pz (d':=⟨d.next+1,d.nodes++[mk]⟩) (j':=7) (cap1':=capx) (k:=0) (cs:=[.v (.int .i64 (d.next+1))]) hql (by repeat constructor) (by simp)) (by repeat constructor) ?_);refine e_ (w_ (l_ (h:=l_ (h:=m_ (h:=f_ (h:=l_ (h:=?_)))))));refine A7 rfl (DJ [6,7] rfl (.cons _ _ _ _ _ rfl (AM _) (.cons _ _ _ _ _ rfl (AM _) (.cons _ _ _ _ _ rfl (AM _) (.cons _ _ _ _ _ rfl (LeA.of_eq (show AV.v (.int .i64 mk.ino)=_ by rw[hmki])) .nil)))) (by decide) (.cons _ _ _ _ _ rfl (Fj (by rfl) _ _ _ _ _) (.cons _ _ _ _ _ rfl (FN _ _ _) .nil)) (TU f q ⟨d.next+1,d.nodes++[mk]⟩ n0 i dir name d.next cap capx hf2 hql hdq hidx2 hn2 hcap hcapx) ?_);rintro r bc tc ⟨rfl,rfl,rfl⟩;refine⟨rfl,_,(Ko (B6 rfl) (B6 rfl) (by decide) f q ⟨d.next+1,d.nodes++[mk]⟩ (entS (d.nodes++[mk]) i n0 name d.next) cap capx capx:Back _ [6,7] _ [_,_,_,_,_,_,_,_,_,_]),?_⟩;refine e_ (?_);refine BY (fun t=>t=⟨look [(8, .bp 3 0),(9, .sl 7 [CN (dir,name,(0,0),(dir.1,d.next))] none),(10, .v (.int .i64 0))],⟨[Al f,AB dir,Ab n,Al (f.set q ⟨d.next+1,entS (d.nodes++[mk]) i n0 name d.next⟩)],[]⟩⟩) ?_ ?_
 ·skip
  refine Bi ([(0,Al f),(1,AB dir),(2,Ab n),(4,AB (AD f dir name).1),(5,Be d),(8,[.bs 6 0 2 f.length cap]),(9,Ab mk)]) 13 (h:=AF 0 (h:=AF 1 (h:=AP 2 (h:=?_))));refine B4 3 rfl (fun _ hS=>F0 (y:= .agg (AB (0,0))) (DK ⟨rfl,rfl⟩) (by repeat (first|exact AM _|exact LeA.nil _|exact LeL.refl _|refine LeA.agg ⟨rfl,rfl⟩|refine LeA.tup ⟨rfl,rfl⟩|exact LeL.nil|refine LeL.cons ⟨rfl,rfl⟩ ⟨rfl,rfl⟩|exact LeA.any _)) ⟨rfl,rfl⟩) ?_;refine AQ 4 (h:=AF 5 (h:=AQ 6 (h:=?_)));refine B4 7 rfl (fun _ hS=>Bh (row:=Ab mk) rfl (kb hS rfl) hmk0 ⟨rfl,rfl⟩) ?_;refine Fh 8 (h:=?_);refine c_ 9 rfl (AK (Ju dir name (0,0) (dir.1,d.next)) ?_);rintro r rfl;refine o_ (h:=?_);refine B8 10 rfl (B3 rfl rfl rfl rfl rfl rfl (by repeat constructor) (by repeat constructor) ?_);refine o_ (h:=BN 11 (h:=BN 12 (h:=z_ (h:=?_))));refine AJ ?_;exact⟨_,rfl,F3 4 2 rfl (congrArg (fun x=>[Al f,AB dir,Ab n,x]) (G9 (k:=0) (i:=6) (j:=7) (d:=⟨d.next+1,d.nodes++[mk]⟩) (d':=⟨d.next+1,entS (d.nodes++[mk]) i n0 name d.next⟩) hql rfl (Fn _ _ _ _ _) hcap (by rw[Fn];exact hcapx) (B6 rfl) (B6 rfl) rfl rfl)) (.cons _ _ _ _ rfl (AM _) (.cons _ _ _ _ rfl (AM _) (.cons _ _ _ _ rfl (AM _) .nil)))⟩
 rintro t rfl;refine A6 (?_);refine AA ?_;rw[List.length_map]at hc5;rw[Du,if_neg (by omega),if_neg hpn,if_neg (by omega),hatI];simp only;rw[if_neg (by rw[hc7];simp;omega),hdq,Int.toNat_natCast,←hino,←Kq hvd hn0,hino,←hmk,show entS d.nodes i n0 name d.next++[mk]=entS (d.nodes++[mk]) i n0 name d.next by unfold entS;rw[List.set_append_left _ _ hil],←hdq];rfl
end
theorem QJ(f:AT)(hf:FlsB f):AFn prog 34 [.agg (Al f)] (fun r=>r= .agg (Al f)):=by
 intro w St bl vs hr hv;have hbl:bl=[]:=by have:=hr.bxlen;simpa using this
 subst hbl;simp only[AY]at hv;obtain⟨z,zs,rfl,hz,rfl⟩:=hv;have hz':Ak St w (.agg (Al f)) z:=by have:=FD _ _ hz;simpa[Cl,Ex,Al]using this
 have hF:=T3 hr.stlt hf hz';refine Calls.mono (Old.Copy_any z f w hF) ?_;rintro e w' ⟨dv,L,rfl,hD,hL,hB⟩;have hsz:=hB.size;obtain⟨d1,d2,d3,d4⟩:=hD;let St':Nat→Nat→Prop:=fun b o=>St b o∨(w.heap.size≤b∧b<w'.heap.size);let G':Gh:=⟨St',[],[]⟩;have hfresh:∀{α:Type} {sz:Nat} {cell:α→Nat→Value} {E:TypeId} {v:Value} {xs:List α},Old.OwnL sz cell E w' w.heap.size v xs→∀b,v.ownBlock=some b→∀o,St' b o:=fun h b hb o=> .inr (h.lt b hb)
 have hents:∀(y:Nod×Value),Old.OwnL 2 Old.entCell 88 w' w.heap.size y.2 y.1.entries→Ak St' w' (.sl 2 (y.1.entries.map C7) none) y.2:=by
  intro y hy;refine M1 hy (hfresh hy) (fun _ _=>rfl) fun e _ j av hj=>?_
  match j,hj with
  |0,hj=>injection hj with hj;subst hj;simp only[Ak];rfl
  |1,hj=>injection hj with hj;subst hj;simp only[Ak];rfl
 have hnod:∀(y:Nod×Value),Old.OwnL 2 Old.entCell 88 w' w.heap.size y.2 y.1.entries→∀j av,(Ab y.1)[j]?=some av→Ak St' w' av (Old.nodCell y j):=by
  intro y hy j av hj
  match j,hj with
  |0,hj=>injection hj with hj;subst hj;simp only[Ak];rfl
  |1,hj=>injection hj with hj;subst hj;simp only[Ak];rfl
  |2,hj=>injection hj with hj;subst hj;simp only[Ak];rfl
  |3,hj=>injection hj with hj;subst hj;simp only[Ak];rfl
  |4,hj=>injection hj with hj;subst hj;simp only[Ak];rfl
  |5,hj=>injection hj with hj;subst hj;simp only[Ak];rfl
  |6,hj=>injection hj with hj;subst hj;simp only[Ak];rfl
  |7,hj=>injection hj with hj;subst hj;exact hents y hy
  |j+8,hj=>exact absurd hj (by simp[Ab])
 have hdev:Ak St' w' (.sl 2 (L.map fun x=>Be (Old.dvcOf x)) none) dv:=by
  refine M1 d1 (hfresh d1) (fun _ _=>rfl) fun x hx j av hj=>?_;obtain⟨f1,f2,f3⟩:=(d2 x hx).1
  match j,hj with
  |0,hj=>injection hj with hj;subst hj;simp only[Ak];rfl
  |1,hj=>
    injection hj with hj;subst hj;have key:=M1 f1 (St:=St') (hfresh f1) (enc:=fun y=>Ab y.1) (fun _ _=>rfl) fun z hz j av hj=>hnod z (f2 z hz).1 j av hj;have e:((Old.dvcOf x).nodes.map Ab)=x.2.2.map fun y=>Ab y.1:=by simp[Old.dvcOf]
    rw[e];exact key
  |j+2,hj=>exact absurd hj (by simp[Be])
 have hst:∀b o,St b o→b<w.heap.size:=hr.stlt;refine⟨.agg (Al f),[],[],G',⟨rfl,rfl,rfl⟩,⟨?_,?_,?_,?_,rfl,?_,?_,?_,?_,rfl,?_,?_,?_⟩,⟨?_,?_,?_⟩,?_⟩
 ·intro i b hi;simp at hi
 ·exact⟨hB.os,hB.tape,hB.output,hB.size,fun k hk _=>hB.block k hk⟩
 ·rintro b o (h|h)
  ·have:=hst b o h;omega
  exact h.2
 ·rintro b o (h|h)
  ·exact .inl h
  exact .inr h.1
 ·show([]:List Nat).Nodup;simp
 ·intro b hb;simp[G']at hb
 ·intro b hb;simp[G']at hb
 ·intro i b row hi;simp[G']at hi
 ·intro g n u T sz rows hg;simp[G']at hg
 ·intro g n u hg;simp[G']at hg
 ·intro g g' n n' u u' hg;simp[G']at hg
 ·exact fun b o h=>⟨.inl h,hB.cell (p:=⟨b,o,none⟩) (hst b o h)⟩
 ·intro i b hi;simp at hi
 ·intro g n u hg;simp at hg
 refine Fc _ _ ?_;unfold Al;rw[←hL,Old.flsOf,List.map_map];simp only[Ak,Bc];have hdev2:Ak St' w' (.sl 2 (L.map (Be ∘ Old.dvcOf)) none) dv:=hdev;simp only[Ak]at hdev2;exact⟨[dv],rfl,dv,[],rfl,hdev2,rfl⟩
def Kr(f:AT)(a top:A9):Bool:=Gx f top 17 a
def FR:List Int:=[2,20,22]
def F8(a b:Int):Int:=if a=2∨b=2 then 2 else if a=20∨b=20 then 20 else if a=22∨b=22 then 22 else 0
theorem TY{a b:Int}{j:Nat}{x:Int}(hx:FR[j]?=some x)(ha:∀i y,i<j→FR[i]?=some y→¬(a=y∨b=y))(h:a=x∨b=x):F8 a b=x:=by
 unfold F8
 match j,hx with
 |0,hx=>injection hx with hx;subst hx;rw[if_pos h]
 |1,hx=>
   injection hx with hx;subst hx;rw[if_neg (ha 0 2 (by omega) rfl),if_pos h]
 |2,hx=>
   injection hx with hx;subst hx;rw[if_neg (ha 0 2 (by omega) rfl),if_neg (ha 1 20 (by omega) rfl),if_pos h]
 |j+3,hx=>exact absurd hx (by simp[FR])
theorem TZ(f:AT)(a:A9)(name:AE):C6 f a name=0∨C6 f a name=2∨C6 f a name=20∨C6 f a name=22:=by
 unfold C6;split
 ·exact .inr (.inl rfl)
 split
 ·split
  ·exact .inl rfl
  exact .inr (.inr (.inr rfl))
 exact .inr (.inr (.inl rfl))
theorem YL{a b:Int}(ha:∀i y,i<3→FR[i]?=some y→¬(a=y∨b=y)):F8 a b=0:=by
 unfold F8;rw[if_neg (ha 0 2 (by omega) rfl),if_neg (ha 1 20 (by omega) rfl),if_neg (ha 2 22 (by omega) rfl)]
theorem Ny{f:AT}{x y:A9}{name name2:AE}(h:F8 (C6 f x name) (C6 f y name2)=0):C6 f x name=0∧C6 f y name2=0:=by
 unfold F8 at h;split at h
 ·omega
 split at h
 ·omega
 split at h
 ·omega
 rename_i h1 h2 h3;have a:=TZ f x name;have b:=TZ f y name2;omega
def DQ(f:AT)(src to:A9)(a o:A9)(e:Int):Int:=
 if e=0 then(if Ag f o=true∧Ag f a=false then 21 else if Ag f o=false∧Ag f a=true then 20 else if Ag f o=true∧Hj f o=false then 39 else 0)else if Hi f to=true∧src≠to then 28 else 0
def GT(ns:List Nod)(src:A9)(name:AE)(to:A9)(name2:AE)(a o:A9)(e:Int):List Nod:=
 if e=0 then Bx (BS (BS ns src.2 name 0) to.2 name2 a.2) o.2 else BS (BS ns src.2 name 0) to.2 name2 a.2
def FS(ns:List Nod)(i:Int)(p:Int)(b:Bool):List Nod:=if b=true then CZ ns i (fun n=>{n with parent:=p})else ns
def CG(f:AT)(src:A9)(name:AE)(to:A9)(name2:AE):Dl:=
 if F8 (C6 f src name) (C6 f to name2)≠0 then([],[],F8 (C6 f src name) (C6 f to name2))else if(AD f src name).2≠0 then([],[],(AD f src name).2)else if src.1≠to.1 then([],[],18)else
 if Ag f (AD f src name).1=true∧Kr f to (AD f src name).1=true then([],[],22)else if(AD f to name2).2=0∧(AD f to name2).1=(AD f src name).1 then(f,[],0)else
 if DQ f src to (AD f src name).1 (AD f to name2).1 (AD f to name2).2≠0 then([],[],DQ f src to (AD f src name).1 (AD f to name2).1 (AD f to name2).2)else
 (FP f to.1.toNat fun ns=>FS (GT ns src name to name2 (AD f src name).1 (AD f to name2).1 (AD f to name2).2) (AD f src name).1.2 to.2 (Ag f (AD f src name).1),[(src,name,(AD f src name).1,(0,0)),(to,name2,(AD f to name2).1,(AD f src name).1)],0)
theorem YM(f:AT):LeA (.tup [.agg (Al f), .v (.slice none 0 0), .v (.int .i64 0)]) (CV (f,[],0)):=LeA.tup (.cons (AM _) (.cons (LeA.nil 7) (.cons (AM _) .nil)))
theorem YN{n:Nat}{bx:List (List AV)}{k i j:Nat}{f:AT}{q:Nat}{d:Dvc}{cap cap0 cap1:Nat}(hq:q<f.length)(hc:f.length≤cap)(hc1:d.nodes.length≤cap1)(hni:n≤i)(hnj:n≤j)
    (hi:bx[i]?=some (DB f q d j cap cap1)) (hj:bx[j]?=some (NB d.nodes cap1)):Dj (DV n bx (k+2)) (.agg [.bs i 0 2 f.length cap0])= .agg (Al (f.set q d)):=by
 have key:=JO (n:=n) (bx:=bx) (k:=k) (i:=i) (j:=j) (f:=f.set q d) (K:=q) (d:=d) (cap:=cap) (cap0:=cap0) (cap1:=cap1) (by simp[hq]) (by simpa using hc) hc1 hni hnj (by rw[hi,Q0]) hj;rw[List.length_set]at key;exact key
theorem YO{n:Nat}{bx:List (List AV)}{k j sz cap:Nat}{rows:List (List AV)}(hn:n≤j)(hj:bx[j]?=some (CJ sz cap rows))(hp:∀r∈rows,∀x∈r,∃v,x= .v v):DV n bx (k+1) j=some (CJ sz cap rows):=by
 have:Nat.blt j n=false:=by rw[←Bool.not_eq_true,Nat.blt_eq];omega
 simp only[DV,this,hj,Option.map_some,M3];rw[M4 _ rfl]
 congr 2
 conv=>rhs;rw[←List.map_id rows]
 apply List.map_congr_left;intro r hr
 conv=>rhs;rw[id,←List.map_id r]
 apply List.map_congr_left;intro x hx;obtain⟨v,rfl⟩:=hp r hr x hx;rfl
theorem YP(l:List Bp):∀r∈l.map CN,∀x∈r,∃v,x= .v v:=by
 intro r hr x hx;obtain⟨c,_,rfl⟩:=List.mem_map.1 hr;simp[CN]at hx;rcases hx with h|h|h|h|h|h|h<;>exact⟨_,h⟩
theorem YQ(l:List Bp):∀r∈l.map CN,r.length=7:=by
 intro r hr;obtain⟨c,_,rfl⟩:=List.mem_map.1 hr;rfl
theorem YR{bx:List (List AV)}(bc:List (List AV))(h:∀r∈bc,∀x∈r,∃v,x= .v v):Back bx [] bc (bx++bc):=by
 refine⟨by simp,fun i row _ h=>?_,fun k i row h=>by simp at h,fun k row hk=>?_⟩
 ·rw[Ca (Ai.1 h).1];exact h
 rw[DP (by omega),show bx.length+k - bx.length=k by omega];simp only[List.length_nil,Nat.zero_add]at hk;rw[hk,M2]
 congr 1
 conv=>lhs;rw[←List.map_id row]
 apply List.map_congr_left;intro x hx;obtain⟨v,rfl⟩:=h row (Aj hk) x hx;rfl
theorem QK{d:Dvc}(hd:DX d.nodes){i:Nat}{n0:Nod}(hn:d.nodes[i]?=some n0)(name:AE)(ino:Int):entS d.nodes i n0 name ino=BS d.nodes n0.ino name ino:=by
 unfold entS BS;rw[←MK hd hn];rfl
section
theorem YS(d:A9)(name:AE)(o n:A9):ACall prog 40 [.agg (AB d), .v (.string name), .agg (AB o), .agg (AB n)] [] (fun r b t=>t=[]∧r= .bs 3 0 7 1 1∧b=[AB d,AB o,AB n,CN (d,name,o,n)]):=by
 refine enter Tryz.func40 rfl rfl rfl rfl rfl 4 rfl ?_;refine w_ (b_ (h:=b_ (h:=b_ (h:=a_ (h:=e_ (w_ (l_ (h:=m_ (h:=l_ (h:=l_ (h:=Aa (h:=?_))))))))))));refine A7 rfl (X4 (k:=3) rfl rfl rfl rfl (by repeat constructor) ?_);refine a_ (h:=e_ (A6 (?_)));refine B0 (r:= .bs 3 0 7 1 1) none (h5:=(AM _)) (h6:=⟨rfl,rfl,rfl⟩)
end
end Go.Proofs.YtobclmbkdhbnpaaGreatDoor
