/-
  Part 6 of the proof of WatchReplacedP: what the statement's proof uses of the texts in wip/tpl.
-/
import Derived.Test.YtobclmbkdhbnpaaGreatDoorQa5
open Go.Proofs.Tryz (prog)
set_option maxRecDepth 10000
set_option maxHeartbeats 4000000
set_option linter.unusedVariables false
set_option linter.unusedSimpArgs false
namespace Go.Proofs.YtobclmbkdhbnpaaGreatDoor
open Go.RowKit
section
variable {St:Nat→Nat→Prop}{w:World}(hst:∀b o,St b o→b<w.heap.size)
include hst
theorem Pr{α:Type}{sz:Nat}{enc:α→List AV}{cell:α×Value→Nat→Value}{Sub:α→Value→Prop}{xs:List α}{v:Value}(hsz:0<sz)(hfew:xs.length≤1000)(h:Ak St w (.sl sz (xs.map enc) none) v)
    (hrow:∀x∈xs,(enc x).length=sz→∀c:Nat→Option Value,(∀j av,(enc x)[j]?=some av→∃u,c j=some u∧Ak St w av u)→∃u,Sub x u∧∀j,j<sz→c j=some (cell (x,u) j)):
    ∃ys:List (α×Value),ys.map (·.1)=xs∧Old.ListR sz cell w (Old.Old w) v ys∧∀y∈ys,Sub y.1 y.2:=by
 simp only[Ak]at h;obtain⟨_,A,cap,rfl,h2,h3,h4⟩:=h;rw[List.length_map]at h2;rcases Nat.eq_zero_or_pos xs.length with h0|h0
 ·obtain rfl:=DE h0;exact⟨[],rfl,⟨A,cap,by simp,by simp,by simp,fun h=>absurd h (by simp)⟩,by simp⟩
 obtain⟨b,off,rfl,h6⟩:=h4.resolve_left (fun e=>by simp at e;subst e;simp at h0)
 have each:∀i (hi:i<xs.length),∃u,Sub xs[i] u∧∀j,j<sz→w.cell? ⟨b,off+i * sz+j,none⟩=some (cell (xs[i],u) j):=by
  intro i hi;have hr:(xs.map enc)[i]?=some (enc xs[i]):=by simp[hi]
  obtain⟨k1,k2⟩:=Jg h6 hr
  exact hrow _ (List.getElem_mem hi) k1 _ fun j av hj=>by
   obtain⟨_,u,q1,_,q2⟩:=LO k2 hj;exact⟨u,q1,q2⟩
 let g:Fin xs.length→α×Value:=fun i=>(xs[i.1],(each i.1 i.2).choose);have hg:∀i (hi:i<xs.length),(List.ofFn g)[i]?=some (xs[i],(each i hi).choose):=fun i hi=>by simp[g,hi]
 have hlen:(List.ofFn g).length=xs.length:=by simp
 have hbs:b<w.heap.size:=by
  obtain⟨k1,k2⟩:=Jg h6 (i:=0) (r:=enc xs[0]) (by simp[h0]);have:(enc xs[0])[0]?=some (enc xs[0])[0]:=BM (by omega);exact hst _ _ (LO k2 this).1
 refine⟨List.ofFn g,?_,⟨_,cap,by rw[List.length_map,hlen],by rw[hlen];exact h2,by rw[hlen];unfold Old.few;omega,fun _=>⟨b,off,rfl,hbs,fun i y j hi hj=>?_⟩⟩,fun y hy=>?_⟩
 ·apply List.ext_getElem?;intro i;rcases Nat.lt_or_ge i xs.length with hi|hi
  ·rw[List.getElem?_map,hg i hi];simp[hi]
  rw[List.getElem?_eq_none (by simpa using hi),List.getElem?_eq_none hi]
 ·have hil:i<xs.length:=by rw[←hlen];exact(Ai.1 hi).1
  rw[hg i hil]at hi;injection hi with hi;subst hi;exact(each i hil).choose_spec.2 j hj
 obtain⟨i,hi⟩:=List.getElem?_of_mem hy;have hil:i<xs.length:=by rw[←hlen];exact(Ai.1 hi).1
 rw[hg i hil]at hi;injection hi with hi;subst hi;exact(each i hil).choose_spec.1
theorem Xq{es:List B1}{v:Value}(hfew:es.length≤1000)(h:Ak St w (.sl 2 (es.map C7) none) v):Old.EntsR w (Old.Old w) v es:=by
 obtain⟨ys,h1,⟨A,c,h2,h3,h4,h5⟩,_⟩:=Pr hst (cell:=fun y:B1×Value=>Old.entCell y.1) (Sub:=fun _ _=>True) (by omega) hfew h (fun x _ _ c hc=>⟨.bool true,trivial,fun j hj=>by
  match j,hj with
  |0,_=>obtain⟨u,q1,q2⟩:=hc 0 _ rfl;simp only[Ak]at q2;rw[q1,q2];rfl
  |1,_=>obtain⟨u,q1,q2⟩:=hc 1 _ rfl;simp only[Ak]at q2;rw[q1,q2];rfl⟩)
 subst h1;refine⟨A,c,by rw[h2,List.length_map],by simpa using h3,by simpa using h4,fun hn=>?_⟩;obtain⟨b,off,e1,e2,e3⟩:=h5 (by simpa using hn);refine⟨b,off,e1,e2,fun i x j hi hj=>?_⟩;rw[List.getElem?_map]at hi
 cases hy:ys[i]? with
 |none=>rw[hy]at hi;cases hi
 |some y=>
   rw[hy]at hi;injection hi with hi;subst hi;exact e3 i y j hy hj
theorem Xr{ns:List Nod}{v:Value}(hfew:ns.length≤1000)(he:∀n∈ns,n.entries.length≤1000)(h:Ak St w (.sl 8 (ns.map Ab) none) v):Old.NodsR w (Old.Old w) v ns:=
 Pr hst (cell:=Old.nodCell) (Sub:=fun n u=>Old.EntsR w (Old.Old w) u n.entries) (by omega) hfew h (fun x hx _ c hc=>by
  obtain⟨u0,p0,q0⟩:=hc 0 _ rfl;obtain⟨u1,p1,q1⟩:=hc 1 _ rfl;obtain⟨u2,p2,q2⟩:=hc 2 _ rfl;obtain⟨u3,p3,q3⟩:=hc 3 _ rfl;obtain⟨u4,p4,q4⟩:=hc 4 _ rfl;obtain⟨u5,p5,q5⟩:=hc 5 _ rfl;obtain⟨u6,p6,q6⟩:=hc 6 _ rfl;obtain⟨u7,p7,q7⟩:=hc 7 _ rfl;have q7':=Xq hst (he x hx) q7;simp only[Ak]at q0 q1 q2 q3 q4 q5 q6;subst q0 q1 q2 q3 q4 q5 q6;refine⟨u7,q7',fun j hj=>?_⟩
  match j,hj with
  |0,_=>exact p0
  |1,_=>exact p1
  |2,_=>exact p2
  |3,_=>exact p3
  |4,_=>exact p4
  |5,_=>exact p5
  |6,_=>exact p6
  |7,_=>exact p7)
theorem T3{f:AT}(hf:FlsB f){v:Value}(h:Ak St w (.agg (Al f)) v):Old.FlsR w (Old.Old w) v f:=by
 simp only[Ak,Al,Bc]at h;obtain⟨ys,rfl,z,zs,rfl,h,rfl⟩:=h;have h':Ak St w (.sl 2 (f.map Be) none) z:=by simp only[Ak];exact h
 refine⟨z,rfl,Pr hst (cell:=Old.dvcCell) (Sub:=fun d u=>Old.NodsR w (Old.Old w) u d.nodes) (by omega) hf.few h' (fun x hx _ c hc=>?_)⟩;obtain⟨u0,p0,q0⟩:=hc 0 _ rfl;obtain⟨u1,p1,q1⟩:=hc 1 _ rfl;have q1':=Xr hst (hf.nodes x hx) (hf.ents x hx) q1;simp only[Ak]at q0;subst q0;refine⟨u1,q1',fun j hj=>?_⟩
 match j,hj with
 |0,_=>exact p0
 |1,_=>exact p1
end
theorem M1{α:Type}{sz:Nat}{cell:α→Nat→Value}{E:TypeId}{w:World}{base:Nat}{v:Value}{xs:List α}(h:Old.OwnL sz cell E w base v xs){St:Nat→Nat→Prop}(hst:∀b,v.ownBlock=some b→∀o,St b o){enc:α→List AV}(hlen:∀x∈xs,(enc x).length=sz)
    (hx:∀x∈xs,∀j av,(enc x)[j]?=some av→Ak St w av (cell x j)):Ak St w (.sl sz (xs.map enc) none) v:=by
 simp only[Ak,true_and];obtain⟨⟨h0,h1⟩,h2⟩:=h;rcases h1 with⟨rfl,hn⟩|⟨g,cap,cur,rfl,hb,hg,hnc,hcm,hcs,htk⟩
 ·exact⟨none,0,by rw[List.length_map,hn],by rw[List.length_map,hn];exact Av _,BJ _, .inl (by rw[DE hn];rfl)⟩
 refine⟨_,cap,by rw[List.length_map],by rw[List.length_map];exact hnc,hcm, .inr ⟨g,0,rfl,LQ fun i r hi=>?_⟩⟩;rw[List.getElem?_map]at hi
 cases hy:xs[i]? with
 |none=>rw[hy]at hi;cases hi
 |some x=>
   rw[hy]at hi;injection hi with hi;subst hi;have hm:=Aj hy;refine⟨hlen x hm,KR fun j av hj=>?_⟩;have hjl:j<sz:=by rw[←hlen x hm];exact(Ai.1 hj).1
   have hil:=(Ai.1 hy).1
   have hlt:i * sz+j<xs.length * sz:=by
    have h2:(i+1) * sz≤xs.length * sz:=Nat.mul_le_mul_right sz hil;rw[Nat.add_mul]at h2;omega
   have hc:cur.toList[i * sz+j]?=some (cell x j):=by
    rw[←Old.flat_get xs i j x hy hjl,←htk,List.getElem?_take,if_pos hlt]
   refine⟨hst g rfl _,cell x j,?_,h2 g cur E rfl hg _ (Aj hc),hx x hm j av hj⟩;rw[Nat.zero_add];simp only[World.cell?,hg]
   simpa using hc
theorem T4{α:Type}{sz:Nat}{cell:α→Nat→Value}{E:TypeId}{w:World}{base:Nat}{v:Value}{xs:List α}(h:Old.OwnL sz cell E w base v xs)(h0:0<xs.length){G:Gh}{rows:List (List AV)}(hp:0<sz)(hl:rows.length=xs.length)(hlen:∀r∈rows,r.length=sz)
    (hx:∀(i:Nat) (x:α) (r:List AV),xs[i]?=some x→rows[i]?=some r→∀j av,r[j]?=some av→rep G w av (cell x j)):
    ∃g cap,v= .slice (some ⟨g,0,none⟩) xs.length cap∧base≤g∧g<w.heap.size∧xs.length≤cap∧cap≤maxLen∧Mp G w g (CJ sz cap rows):=by
 obtain⟨⟨h3,h1⟩,h2⟩:=h;rcases h1 with⟨rfl,hn⟩|⟨g,cap,cur,rfl,hb,hg,hnc,hcm,hcs,htk⟩
 ·omega
 refine⟨g,cap,rfl,hb,(Array.getElem?_eq_some_iff.1 hg).1,hnc,hcm,cur.toList,E,by simpa using hg,?_,h2 g cur E rfl hg⟩;have e:cur.toList=cur.toList.take (xs.length * sz)++cur.toList.drop (xs.length * sz):=(List.take_append_drop _ _).symm;rw[e];unfold CJ;refine Lf ?_ ?_
 ·rw[htk];refine PM (by rw[Jp hlen,hl,Old.flat_length]) fun i x hi=>?_;have hii:i=i / sz * sz+i % sz:=by rw[Nat.mul_comm];exact(Nat.div_add_mod i sz).symm
  have hk:i % sz<sz:=Nat.mod_lt _ hp;rw[hii,NW hlen hk]at hi
  cases hq:rows[i / sz]? with
  |none=>rw[hq]at hi;simp at hi
  |some r=>
    rw[hq]at hi;have hqx:i / sz<xs.length:=by rw[←hl];exact(Ai.1 hq).1
    have hxx:xs[i / sz]?=some xs[i / sz]:=BM hqx;refine⟨cell xs[i / sz] (i % sz),?_,hx _ _ r hxx hq _ _ hi⟩;have:=Old.flat_get (cell:=cell) xs (i / sz) (i % sz) _ hxx hk
    rwa [←hii]at this
 have:(cur.toList.drop (xs.length * sz)).length=(cap - rows.length) * sz:=by
  rw[List.length_drop,hl,Nat.sub_mul,←hcs];simp
 rw[←this];exact NX _
theorem Xs{α β:Type}{f:α→List β}{l:List α}{i:Nat}{x:α}(hx:l[i]?=some x):l.flatMap f=(l.take i).flatMap f++(f x++(l.drop (i+1)).flatMap f):=by
 obtain⟨hi,rfl⟩:=Ai.1 hx;rw[←List.flatMap_cons,←List.flatMap_append,←List.drop_eq_getElem_cons hi,List.take_append_drop]
def Et(f:AT)(K:Nat)(d:Dvc)(j cap1:Nat):List (List AV):=(f.map Be).set K (G8 d j cap1)
theorem Np(f:AT)(K:Nat)(d:Dvc)(j cap1:Nat):∀r∈Et f K d j cap1,r.length=2:=by
 intro r hr;rcases List.mem_or_eq_of_mem_set hr with h|h
 ·exact Sq _ r h
 rw[h];rfl
theorem Xt(f:AT)(K:Nat)(d:Dvc)(j cap1:Nat):(Et f K d j cap1).length=f.length:=by simp[Et]
theorem Ki(f:AT)(K:Nat)(dK:Dvc)(hf:FlsB f)(hK:f[K]?=some dK)(hne:0<dK.nodes.length):
    ACall prog 34 [.agg (Al f)] [] (fun r b t=>t=[]∧∃cap cap1,f.length≤cap∧dK.nodes.length≤cap1∧b=[CJ 2 cap (Et f K dK 1 cap1),CJ 8 cap1 (dK.nodes.map Ab)]∧r= .agg [.bs 0 0 2 f.length cap]):=by
 intro w St bl vs hr hv;have hbl:bl=[]:=by have:=hr.bxlen;simpa using this
 subst hbl;simp only[AY]at hv;obtain⟨z,zs,rfl,hz,rfl⟩:=hv;have hz':Ak St w (.agg (Al f)) z:=by have:=FD _ _ hz;simpa[Cl,Ex,Al]using this
 have hF:=T3 hr.stlt hf hz';refine Calls.mono (Old.Copy_any z f w hF) ?_;rintro e w' ⟨dv,L,rfl,hD,hL,hB⟩;have hsz:=hB.size;have hLl:L.length=f.length:=by rw[←hL];simp[Old.flsOf]
 have hKl:=(Ai.1 hK).1
 obtain⟨x,hx,hxd⟩:∃x,L[K]?=some x∧Old.dvcOf x=dK:=by
  have h1:L[K]?=some L[K]:=BM (by omega);refine⟨_,h1,?_⟩;have:=hK;rw[←hL,Old.flsOf,List.getElem?_map,h1]at this;injection this
 have hxm:=Aj hx;obtain⟨d1,d2,d3,d4⟩:=hD;obtain⟨e1,e2,e3⟩:=d2 x hxm |>.1;have hyl:0<x.2.2.length:=by rw[←hxd]at hne;simpa[Old.dvcOf]using hne
 have form:∀{α:Type} {sz:Nat} {cell:α→Nat→Value} {E:TypeId} {base:Nat} {v:Value} {xs:List α},Old.OwnL sz cell E w' base v xs→0<xs.length→∃g cap,v= .slice (some ⟨g,0,none⟩) xs.length cap:=by
  intro α sz cell E base v xs h h0;rcases h.1.2 with⟨_,hn⟩|⟨g,cap,cur,rfl,_⟩
  ·omega
  exact⟨g,cap,rfl⟩
 obtain⟨g0,cap,hdv⟩:=form d1 (by omega);obtain⟨g1,cap1,hnv⟩:=form e1 hyl;have hb0:g0∈Old.blk dv:=Old.mem_blk.2 (by rw[hdv];rfl);have hb1:g1∈Old.blk x.2.1:=Old.mem_blk.2 (by rw[hnv];rfl);have nd:=List.nodup_append.1 d3;have hin:∀y∈L,∀b∈Old.fpN y.2.1 y.2.2,b∈L.flatMap fun x=>Old.fpN x.2.1 x.2.2:=fun y hy b hb=>List.mem_flatMap.2 ⟨y,hy,hb⟩;have h01:g0≠g1:=fun e=>nd.2.2 g0 hb0 g1 (hin x hxm g1 (List.mem_append_left _ hb1)) e;let St':Nat→Nat→Prop:=fun b o=>St b o∨(w.heap.size≤b∧b<w'.heap.size∧b≠g0∧b≠g1);let G':Gh:=⟨St',[g0,g1],[]⟩
 have hfresh:∀b∈Old.fpD dv L,b≠g0→b≠g1→∀o,St' b o:=fun b hb n0 n1 o=>by
  have:=Old.DvcsAt.fp_lt (w:=w') ⟨d1,d2,d3,d4⟩ b hb;exact .inr ⟨this.1,this.2,n0,n1⟩
 -- a list of entries that lies in blocks that stay
 have hents:∀(y:Nod×Value),Old.OwnL 2 Old.entCell 88 w' w.heap.size y.2 y.1.entries→(∀b∈Old.blk y.2,∀o,St' b o)→Ak St' w' (.sl 2 (y.1.entries.map C7) none) y.2:=by
  intro y hy hb;refine M1 hy (fun b h=>hb b (Old.mem_blk.2 h)) (fun _ _=>rfl) fun e _ j av hj=>?_
  match j,hj with
  |0,hj=>injection hj with hj;subst hj;simp only[Ak];rfl
  |1,hj=>injection hj with hj;subst hj;simp only[Ak];rfl
 have hnod:∀(y:Nod×Value),Old.OwnL 2 Old.entCell 88 w' w.heap.size y.2 y.1.entries→(∀b∈Old.blk y.2,∀o,St' b o)→∀j av,(Ab y.1)[j]?=some av→Ak St' w' av (Old.nodCell y j):=by
  intro y hy hb j av hj
  match j,hj with
  |0,hj=>injection hj with hj;subst hj;simp only[Ak];rfl
  |1,hj=>injection hj with hj;subst hj;simp only[Ak];rfl
  |2,hj=>injection hj with hj;subst hj;simp only[Ak];rfl
  |3,hj=>injection hj with hj;subst hj;simp only[Ak];rfl
  |4,hj=>injection hj with hj;subst hj;simp only[Ak];rfl
  |5,hj=>injection hj with hj;subst hj;simp only[Ak];rfl
  |6,hj=>injection hj with hj;subst hj;simp only[Ak];rfl
  |7,hj=>injection hj with hj;subst hj;exact hents y hy hb
  |j+8,hj=>exact absurd hj (by simp[Ab])
 have hne0:∀y∈L,∀b∈Old.fpN y.2.1 y.2.2,b≠g0:=fun y hy b hb e=>nd.2.2 g0 hb0 b (hin y hy b hb) e.symm
 have hfp:∀y∈L,∀b∈Old.fpN y.2.1 y.2.2,b∈Old.fpD dv L:=fun y hy b hb=>List.mem_append_right _ (hin y hy b hb)
 -- the boxes
 obtain⟨g1',cap1',q1,q2,q3,q4,q5,q6⟩:=T4 (G:=G') e1 hyl (rows:=dK.nodes.map Ab) (by omega) (by rw[←hxd];simp[Old.dvcOf]) (JL _) (by
  intro i y r hi hri j av hj;have hnm:dK.nodes[i]?=some y.1:=by rw[←hxd,Old.dvcOf];simp[hi]
  rw[List.getElem?_map,hnm]at hri;injection hri with hri;subst hri;have hym:=Aj hi;refine Fc _ _ (hnod y (e2 y hym).1 (fun b hb=>hfresh b (hfp x hxm b (List.mem_append_right _ (List.mem_flatMap.2 ⟨y,hym,hb⟩))) (hne0 x hxm b (List.mem_append_right _ (List.mem_flatMap.2 ⟨y,hym,hb⟩))) fun e=>?_) j av hj)
  exact(List.nodup_append.1 e3).2.2 g1 hb1 b (List.mem_flatMap.2 ⟨y,hym,hb⟩) e.symm)
 rw[hnv]at q1;simp only[Value.slice.injEq,Option.some.injEq,Addr.mk.injEq,and_true,true_and]at q1;obtain⟨rfl,rfl⟩:=q1
 obtain⟨g0',cap',p1,p2,p3,p4,p5,p6⟩:=T4 (G:=G') d1 (by omega) (rows:=Et f K dK 1 cap1) (by omega) (by rw[Xt,hLl]) (Np _ _ _ _ _) (by
  intro i y r hi hri j av hj;have hfi:f[i]?=some (Old.dvcOf y):=by rw[←hL,Old.flsOf,List.getElem?_map,hi];rfl
  have hym:=Aj hi;unfold Et at hri;by_cases hiK:K=i
  ·subst hiK;rw[hx]at hi;injection hi with hi;subst hi;rw[List.getElem?_set_self (by simp;omega)]at hri;injection hri with hri;subst hri
   match j,hj with
   |0,hj=>injection hj with hj;subst hj;simp only[rep];rw[←hxd];rfl
   |1,hj=>
     injection hj with hj;subst hj;simp only[rep];refine⟨g1,rfl,?_,?_,q5⟩
     ·show x.2.1=_;rw[hnv,←hxd];simp[Old.dvcOf]
     rw[←hxd];simpa[Old.dvcOf]using q4
   |j+2,hj=>exact absurd hj (by simp[G8])
  rw[List.getElem?_set_ne hiK,List.getElem?_map,hfi]at hri;injection hri with hri;subst hri
  have hn1:∀b∈Old.fpN y.2.1 y.2.2,b≠g1:=by
   intro b hb e;subst e;have hd2:=nd.2.1;have hil:=(Ai.1 hi).1;rw[Xs hx]at hd2;obtain⟨c1,c2,c3⟩:=List.nodup_append.1 hd2;obtain⟨c4,c5,c6⟩:=List.nodup_append.1 c2;rcases Nat.lt_or_ge i K with hlt|hge
   ·exact c3 b (List.mem_flatMap.2 ⟨y,List.mem_iff_getElem?.2 ⟨i,by rw[List.getElem?_take,if_pos hlt];exact hi⟩,hb⟩) b (List.mem_append_left _ (List.mem_append_left _ hb1)) rfl
   exact c6 b (List.mem_append_left _ hb1) b (List.mem_flatMap.2 ⟨y,List.mem_iff_getElem?.2 ⟨i - (K+1),by rw[List.getElem?_drop,show K+1+(i - (K+1))=i by omega];exact hi⟩,hb⟩) rfl
  obtain⟨f1,f2,f3⟩:=(d2 y hym).1
  match j,hj with
  |0,hj=>injection hj with hj;subst hj;simp only[rep];rfl
  |1,hj=>
    injection hj with hj;subst hj
    have key:=M1 f1 (St:=St') (fun b h=>hfresh b (hfp y hym b (List.mem_append_left _ (Old.mem_blk.2 h))) (hne0 y hym b (List.mem_append_left _ (Old.mem_blk.2 h))) (hn1 b (List.mem_append_left _ (Old.mem_blk.2 h)))) (enc:=fun y=>Ab y.1) (fun _ _=>rfl) fun z hz j av hj=>
     hnod z (f2 z hz).1 (fun b hb=>hfresh b (hfp y hym b (List.mem_append_right _ (List.mem_flatMap.2 ⟨z,hz,hb⟩))) (hne0 y hym b (List.mem_append_right _ (List.mem_flatMap.2 ⟨z,hz,hb⟩))) (hn1 b (List.mem_append_right _ (List.mem_flatMap.2 ⟨z,hz,hb⟩)))) j av hj
    have e:((Old.dvcOf y).nodes.map Ab)=y.2.2.map fun y=>Ab y.1:=by simp[Old.dvcOf]
    rw[e];exact Fc _ _ key
  |j+2,hj=>exact absurd hj (by simp[Be]))
 rw[hdv]at p1;simp only[Value.slice.injEq,Option.some.injEq,Addr.mk.injEq,and_true,true_and]at p1;obtain⟨rfl,rfl⟩:=p1;have hst:∀b o,St b o→b<w.heap.size:=hr.stlt;refine⟨.agg [.bs 0 0 2 f.length cap],_,_,G',⟨rfl,cap,cap1,by omega,by rw[←hxd];simpa[Old.dvcOf]using q4,rfl,rfl⟩,⟨?_,?_,?_,?_,rfl,?_,?_,?_,?_,rfl,?_,?_,?_⟩,⟨?_,?_,?_⟩,?_⟩
 ·intro i b hi;simp at hi
 ·exact⟨hB.os,hB.tape,hB.output,hB.size,fun k hk _=>hB.block k hk⟩
 ·rintro b o (h|h)
  ·have:=hst b o h;omega
  exact h.2.1
 ·rintro b o (h|h)
  ·exact .inl h
  exact .inr h.1
 ·show[g0,g1].Nodup
  simpa using h01
 ·rintro b hb o (h|h)
  ·have:=hst b o h;simp[G']at hb;rcases hb with rfl|rfl<;>omega
  simp[G']at hb;rcases hb with rfl|rfl
  ·exact h.2.2.1 rfl
  exact h.2.2.2 rfl
 ·intro b hb;simp[G']at hb;rcases hb with rfl|rfl
  ·exact .inl p2
  exact .inl q2
 ·intro i b row hi hrow
  match i,hi,hrow with
  |0,hi,hrow=>simp[G']at hi;simp at hrow;subst hi;subst hrow;exact p6
  |1,hi,hrow=>simp[G']at hi;simp at hrow;subst hi;subst hrow;exact q6
  |i+2,hi,_=>simp[G']at hi
 ·intro g n u T sz rows hg;simp[G']at hg
 ·intro g n u hg;simp[G']at hg
 ·intro g g' n n' u u' hg;simp[G']at hg
 ·exact fun b o h=>⟨.inl h,hB.cell (p:=⟨b,o,none⟩) (hst b o h)⟩
 ·intro i b hi;simp at hi
 ·intro g n u hg;simp at hg
 simp only[rep,AY];exact⟨[dv],rfl,dv,[],rfl,⟨g0,rfl,by rw[hdv,hLl],by omega,p5⟩,rfl⟩
theorem M2(f:Nat→Option Nat):∀xs:List AV,DH f xs=xs.map (Eg f)
 |[]=>rfl
 |x::xs=>by simp[DH,M2 f xs]
theorem Nq(f:Nat→Option Nat):∀xs:List AV,FH f xs=xs.map (F4 f)
 |[]=>rfl
 |x::xs=>by simp[FH,Nq f xs]
theorem M3(g:Nat→Option (List AV)):∀xs:List AV,G5 g xs=xs.map (Dj g)
 |[]=>rfl
 |x::xs=>by simp[G5,M3 g xs]
theorem M4(F:AV→AV)(h:F .any= .any)(sz cap:Nat)(rows:List (List AV)):(CJ sz cap rows).map F=CJ sz cap (rows.map (·.map F)):=by
 simp[CJ,h,List.map_flatten]
theorem Ps{n m:Nat}{xs:List AV}:Aq n m xs=true↔∀x∈xs,Ap n m x=true:=by
 induction xs with
 |nil=>simp[Aq]
 |cons x xs ih=>simp[Aq,ih]
theorem Pt{n m sz cap:Nat}{rows:List (List AV)}(h:∀r∈rows,Aq n m r=true):Aq n m (CJ sz cap rows)=true:=by
 rw[Ps];intro x hx;unfold CJ at hx;rcases List.mem_append.1 hx with hx|hx
 ·obtain⟨r,hr,hx⟩:=List.mem_flatten.1 hx;exact Ps.1 (h r hr) x hx
 rw[(List.mem_replicate.1 hx).2];rfl
def DB(f:AT)(K:Nat)(d:Dvc)(j cap cap1:Nat):List AV:=CJ 2 cap (Et f K d j cap1)
def NB(ns:List Nod)(cap1:Nat):List AV:=CJ 8 cap1 (ns.map Ab)
theorem Bq{n m:Nat}{f:AT}{K:Nat}{d:Dvc}{j cap cap1:Nat}(hj:j<n):Aq n m (DB f K d j cap cap1)=true:=by
 refine Pt fun r hr=>?_;rcases List.mem_or_eq_of_mem_set hr with h|h
 ·obtain⟨d',_,rfl⟩:=List.mem_map.1 h;rfl
 rw[h];simp[G8,Aq,Ap,hj]
theorem Br{n m:Nat}{ns:List Nod}{cap1:Nat}:Aq n m (NB ns cap1)=true:=by
 refine Pt fun r hr=>?_;obtain⟨d',_,rfl⟩:=List.mem_map.1 hr;rfl
section
variable {F:AV→AV}(hany:F .any= .any)(hv:∀x,F (.v x)= .v x)(hs:∀sz rows,F (.sl sz rows none)= .sl sz rows none)
include hany hv hs
theorem Pu(ns:List Nod)(cap1:Nat):(NB ns cap1).map F=NB ns cap1:=by
 unfold NB;rw[M4 F hany,List.map_map]
 congr 1
 apply List.map_congr_left;intro n _;simp[Ab,hv,hs]
theorem T5(f:AT):(f.map Be).map (·.map F)=f.map Be:=by
 have _:=hany;rw[List.map_map];apply List.map_congr_left;intro n _;simp[Be,hv,hs]
theorem T6(f:AT)(K:Nat)(d:Dvc){j j':Nat}(cap cap1:Nat)(hb:F (.bs j 0 8 d.nodes.length cap1)= .bs j' 0 8 d.nodes.length cap1):(DB f K d j cap cap1).map F=DB f K d j' cap cap1:=by
 unfold DB Et;rw[M4 F hany,List.map_set,T5 hany hv hs];simp[G8,hv,hb]
theorem Xu{f:AT}{K:Nat}{d:Dvc}{j cap cap1:Nat}(hK:f[K]?=some d)(hb:F (.bs j 0 8 d.nodes.length cap1)= .sl 8 (d.nodes.map Ab) none):(DB f K d j cap cap1).map F=CJ 2 cap (f.map Be):=by
 unfold DB Et;rw[M4 F hany,List.map_set,T5 hany hv hs];have e:(G8 d j cap1).map F=Be d:=by simp[G8,hv,hb,Be]
 rw[e]
 congr 1
 apply List.ext_getElem?;intro i;rw[List.getElem?_set];split
 ·rename_i e1;subst e1;obtain⟨h1,h2⟩:=Ai.1 hK;simp[h1,h2]
 rfl
end
theorem Fj{g:Nat→Option Nat}{j j':Nat}(h:g j=some j')(f:AT)(K:Nat)(d:Dvc)(cap cap1:Nat):DH g (DB f K d j cap cap1)=DB f K d j' cap cap1:=by
 rw[M2];exact T6 rfl (fun _=>rfl) (fun _ _=>rfl) f K d cap cap1 (by simp[Eg,h])
theorem FN(g:Nat→Option Nat)(ns:List Nod)(cap1:Nat):DH g (NB ns cap1)=NB ns cap1:=by
 rw[M2];exact Pu rfl (fun _=>rfl) (fun _ _=>rfl) ns cap1
theorem JN{g:Nat→Option Nat}{j j':Nat}(h:g j=some j')(f:AT)(K:Nat)(d:Dvc)(cap cap1:Nat):FH g (DB f K d j cap cap1)=DB f K d j' cap cap1:=by
 rw[Nq];exact T6 rfl (fun _=>rfl) (fun _ _=>rfl) f K d cap cap1 (by simp[F4,h])
theorem GQ(g:Nat→Option Nat)(ns:List Nod)(cap1:Nat):FH g (NB ns cap1)=NB ns cap1:=by
 rw[Nq];exact Pu rfl (fun _=>rfl) (fun _ _=>rfl) ns cap1
theorem Xv(g:Nat→Option (List AV))(ns:List Nod)(cap1:Nat):G5 g (NB ns cap1)=NB ns cap1:=by
 rw[M3];exact Pu rfl (fun _=>rfl) (fun _ _=>rfl) ns cap1
theorem M5{ns:List Nod}{cap1:Nat}(h:ns.length≤cap1):(NB ns cap1).length=cap1 * 8:=Pg (JL _) (by simpa using h)
theorem Pv{g:Nat→Option (List AV)}{j sz n cap0 cap:Nat}{rows:List (List AV)}(hg:g j=some (CJ sz cap rows))(hr:∀r∈rows,r.length=sz)(hn:n=rows.length)(hc:rows.length≤cap):Dj g (.bs j 0 sz n cap0)= .sl sz rows none:=by
 subst hn;have hl:=Pg hr hc
 have hb:Nat.ble (0+rows.length * sz) (CJ sz cap rows).length=true:=by
  rw[hl,Nat.ble_eq];have:=Nat.mul_le_mul_right sz hc;omega
 simp only[Dj,hg,hb,List.drop_zero];unfold CJ;rw[SQ hr]
theorem Xw{n:Nat}{bx:List (List AV)}{k j:Nat}{ns:List Nod}{cap1:Nat}(hn:n≤j)(hj:bx[j]?=some (NB ns cap1)):DV n bx (k+1) j=some (NB ns cap1):=by
 have:Nat.blt j n=false:=by rw[←Bool.not_eq_true,Nat.blt_eq];omega
 simp only[DV,this,hj,Option.map_some,Xv]
theorem Xx{n:Nat}{bx:List (List AV)}{k i j:Nat}{f:AT}{K:Nat}{d:Dvc}{cap cap1:Nat}(hK:f[K]?=some d)(hc1:d.nodes.length≤cap1)(hni:n≤i)(hnj:n≤j)(hi:bx[i]?=some (DB f K d j cap cap1))(hj:bx[j]?=some (NB d.nodes cap1)):
    DV n bx (k+2) i=some (CJ 2 cap (f.map Be)):=by
 have:Nat.blt i n=false:=by rw[←Bool.not_eq_true,Nat.blt_eq];omega
 rw[show k+2=(k+1)+1 from rfl,DV];simp only[this,hi,Option.map_some,M3];rw[Xu rfl (fun _=>rfl) (fun _ _=>rfl) hK];exact Pv (Xw hnj hj) (JL _) (by simp) (by simpa using hc1)
theorem JO{n:Nat}{bx:List (List AV)}{k i j:Nat}{f:AT}{K:Nat}{d:Dvc}{cap cap0 cap1:Nat}(hK:f[K]?=some d)(hc:f.length≤cap)(hc1:d.nodes.length≤cap1)(hni:n≤i)(hnj:n≤j)(hi:bx[i]?=some (DB f K d j cap cap1))(hj:bx[j]?=some (NB d.nodes cap1)):
    Dj (DV n bx (k+2)) (.agg [.bs i 0 2 f.length cap0])= .agg (Al f):=by
 show AV.agg [Dj _ _]=_;unfold Al;rw[Pv (Xx hK hc1 hni hnj hi hj) (Sq _) (by simp) (by simpa using hc)]
theorem M6{sz cap:Nat}{rows:List (List AV)}{q k:Nat}{r:List AV}{x:AV}(hr:∀r∈rows,r.length=sz)(hq:rows[q]?=some r)(hx:r[k]?=some x):(CJ sz cap rows)[0+q * sz+k]?=some x:=by
 have hk:k<sz:=by rw[←hr r (Aj hq)];exact(Ai.1 hx).1
 have e:=NW hr hk (q:=q);rw[hq]at e;simp only[Option.bind_some]at e;rw[hx]at e;unfold CJ;rw[Nat.zero_add,Ca (Ai.1 e).1];exact e
theorem Xy{sz cap:Nat}{rows:List (List AV)}{q:Nat}{r:List AV}(hr:∀r∈rows,r.length=sz)(hq:rows[q]?=some r):((CJ sz cap rows).drop (0+q * sz)).take sz=r:=by
 have hrl:=hr r (Aj hq);apply List.ext_getElem?;intro k;rw[List.getElem?_take];split
 ·rename_i hk;rw[List.getElem?_drop];have hx:r[k]?=some r[k]:=BM (by omega);rw[M6 hr hq hx,hx]
 rw[List.getElem?_eq_none (by omega)]
theorem Pw{sz cap:Nat}{rows:List (List AV)}{q k:Nat}{r r' cs:List AV}(hr:∀r∈rows,r.length=sz)(hq:rows[q]?=some r)(hs:SetAt r k cs r')(hne:cs≠[]):SetAt (CJ sz cap rows) (0+q * sz+k) cs (CJ sz cap (rows.set q r')):=by
 unfold CJ;rw[Nat.zero_add,List.length_set];exact(Ww hr hq hs hne).left _
theorem Px{f:AT}{K:Nat}{d:Dvc}{j cap1:Nat}(hK:K<f.length):(Et f K d j cap1)[K]?=some (G8 d j cap1):=by
 unfold Et;rw[List.getElem?_set_self (by simpa using hK)]
theorem Gz{f:AT}{K:Nat}{d:Dvc}{j cap cap1:Nat}(hK:K<f.length):(DB f K d j cap cap1)[0+K * 2+1]?=some (.bs j 0 8 d.nodes.length cap1):=M6 (Np _ _ _ _ _) (Px hK) rfl
theorem Xz{f:AT}{K:Nat}{d:Dvc}{j cap cap1:Nat}(hK:K<f.length):(DB f K d j cap cap1)[0+K * 2+0]?=some (.v (.int .i64 d.next)):=M6 (Np _ _ _ _ _) (Px hK) rfl
theorem Hp{ns:List Nod}{cap1 i:Nat}{n:Nod}(h:ns[i]?=some n):((NB ns cap1).drop (0+i * 8)).take 8=Ab n:=Xy (JL _) (by rw[List.getElem?_map,h];rfl)
theorem T7{ns:List Nod}{cap1 i k:Nat}{n:Nod}{x:AV}(h:ns[i]?=some n)(hx:(Ab n)[k]?=some x):(NB ns cap1)[0+i * 8+k]?=some x:=M6 (JL _) (by rw[List.getElem?_map,h];rfl) hx
theorem Py{ns:List Nod}{cap1 i k:Nat}{n n':Nod}{cs:List AV}(h:ns[i]?=some n)(hs:SetAt (Ab n) k cs (Ab n'))(hne:cs≠[]):SetAt (NB ns cap1) (0+i * 8+k) cs (NB (ns.set i n') cap1):=by
 have key:=Pw (cap:=cap1) (JL ns) (by rw[List.getElem?_map,h];rfl) hs hne;rw[←List.map_set]at key;exact key
theorem Pz{f:AT}{K:Nat}{d d':Dvc}{j j' cap cap1 cap1' k:Nat}{cs:List AV}(hK:K<f.length)(hs:SetAt (G8 d j cap1) k cs (G8 d' j' cap1'))(hne:cs≠[]):SetAt (DB f K d j cap cap1) (0+K * 2+k) cs (DB f K d' j' cap cap1'):=by
 have key:=Pw (cap:=cap) (Np f K d j cap1) (Px hK) hs hne;unfold Et at key;rw[List.set_set]at key;exact key
theorem Q0(f:AT)(K:Nat)(d d':Dvc)(j cap cap1:Nat):DB (f.set K d') K d j cap cap1=DB f K d j cap cap1:=by
 unfold DB Et;rw[List.map_set,List.set_set]
theorem LeA.tok(sz:Nat)(rows:List (List AV))(g:Option Nat):LeA (.sl sz rows g) (.sl sz rows none):=fun G w v h=>by
 cases g with
 |none=>exact h
 |some g=>simp only[rep]at h ⊢;exact h.1
section
variable {P:Program}{ev:Operand→Option AV}{h:AH}{R:AV→AH→Prop}{d:Option Tmp}{ty:TypeId}{pos:String}{af:Array Edge}{gd:Option (Nat×Bool)}
theorem Cp{T:TypeId}{x:Operand}{sz i o:Nat}{row cs:List AV}[ht:Typ P T sz true](hx:ev x=some (.bp i o))(hb:h.bx[i]?=some row)(hr:o+sz≤row.length)(he:(row.drop o).take sz=cs)(hR:R (.agg cs) h):AStep P ⟨d, .load T x,ty,pos,af,gd⟩ ev h R:=by
 subst he;exact Ez hx hb (by rw[Nat.ble_eq];exact hr) hR
end
theorem Dc{es:List B1}{j:Nat}{e:B1}(h:es[j]?=some e)(name:AE)(ino:Int)(dn:Bool):FL name ino dn (es.drop j)=(if !dn&& !DA e.1 name then[(name,ino)]else[])++((if e.1=name then[]else[e])++FL name ino (dn|| !DA e.1 name) (es.drop (j+1))):=by
 obtain⟨hj,rfl⟩:=Ai.1 h;rw[List.drop_eq_getElem_cons hj];rfl
section
theorem M7(f:AT)(q:Nat)(d:Dvc)(n:Nod)(i:Nat)(a:A9)(name:AE)(ino:Int)(cap cap1:Nat)(hf:FlsB f)(hq:f[q]?=some d)(ha:a.1=(q:Int))(hi:EX f a=(i:Int))(hn:d.nodes[i]?=some n)(hcap:f.length≤cap)(hcap1:d.nodes.length≤cap1):
    ACall prog 37 [.agg [.bs 0 0 2 f.length cap], .agg (AB a), .v (.string name), .v (.int .i64 ino)] [DB f q d 1 cap cap1,NB d.nodes cap1] (fun r b t=>t=[]∧r= .tup []∧b=[DB f q d 1 cap cap1,NB (d.nodes.set i {n with entries:=CU n.entries name ino}) cap1]):=by
 have hql:=(Ai.1 hq).1;have hil:=(Ai.1 hn).1;have hen:=hf.ents d (Aj hq) n (Aj hn);have hN0:0+i * 8+8≤(NB d.nodes cap1).length:=by rw[M5 hcap1];omega
 have hD0:(DB f q d 1 cap cap1)[0+q * 2+1]?=some (.bs 1 0 8 d.nodes.length cap1):=Gz hql;have hset:SetAt (NB d.nodes cap1) (0+i * 8+7) [.sl 2 ((CU n.entries name ino).map C7) none] (NB (d.nodes.set i {n with entries:=CU n.entries name ino}) cap1):=Py hn (by repeat constructor) (by simp);refine enter Tryz.func37 rfl rfl rfl rfl rfl 2 rfl ?_;refine w_ (b_ (h:=b_ (h:=e_ (?_))));refine BY (fun t=>t=⟨look [(2, .v (.string name)),(3, .v (.int .i64 ino)),(4, .bp 2 0),(5, .bp 3 0),(8, .bp 4 0)],⟨[DB f q d 1 cap cap1,NB d.nodes cap1,[.bs 0 0 2 f.length cap],AB a,Ab n],[]⟩⟩) ?_ ?_
 ·skip
  refine Bi ([(0,DB f q d 1 cap cap1),(1,NB d.nodes cap1),(2,[.bs 0 0 2 f.length cap]),(3,AB a)]) 13 (h:=AQ 0 (h:=?_))
  first|refine AF 1 (h:=?_)|refine B4 1 rfl (fun _ hS=>Bh (row:=DB f q d 1 cap cap1) rfl (kb hS rfl) hD0 ⟨rfl,rfl⟩) ?_|refine B4 1 rfl (fun _ hS=>Cp (row:=NB d.nodes cap1) rfl (kb hS rfl) hN0 (Hp hn) ⟨rfl,rfl⟩) ?_
  refine AQ 2 (h:=?_)
  first|refine AF 3 (h:=?_)|refine B4 3 rfl (fun _ hS=>Bh (row:=DB f q d 1 cap cap1) rfl (kb hS rfl) hD0 ⟨rfl,rfl⟩) ?_|refine B4 3 rfl (fun _ hS=>Cp (row:=NB d.nodes cap1) rfl (kb hS rfl) hN0 (Hp hn) ⟨rfl,rfl⟩) ?_
  refine B4 4 rfl (fun _ hS=>DG (m:=q) rfl rfl ha hql ⟨rfl,rfl⟩) ?_;refine AQ 5 (h:=?_)
  first|refine AF 6 (h:=?_)|refine B4 6 rfl (fun _ hS=>Bh (row:=DB f q d 1 cap cap1) rfl (kb hS rfl) hD0 ⟨rfl,rfl⟩) ?_|refine B4 6 rfl (fun _ hS=>Cp (row:=NB d.nodes cap1) rfl (kb hS rfl) hN0 (Hp hn) ⟨rfl,rfl⟩) ?_
  first|refine AF 7 (h:=?_)|refine B4 7 rfl (fun _ hS=>Bh (row:=DB f q d 1 cap cap1) rfl (kb hS rfl) hD0 ⟨rfl,rfl⟩) ?_|refine B4 7 rfl (fun _ hS=>Cp (row:=NB d.nodes cap1) rfl (kb hS rfl) hN0 (Hp hn) ⟨rfl,rfl⟩) ?_
  first|refine AF 8 (h:=?_)|refine B4 8 rfl (fun _ hS=>Bh (row:=DB f q d 1 cap cap1) rfl (kb hS rfl) hD0 ⟨rfl,rfl⟩) ?_|refine B4 8 rfl (fun _ hS=>Cp (row:=NB d.nodes cap1) rfl (kb hS rfl) hN0 (Hp hn) ⟨rfl,rfl⟩) ?_
  refine Es 9 12 rfl rfl ?_ ?_
  ·refine ET 2 rfl (.cons _ _ _ _ _ rfl (LeA.of_eq (JO hq hcap hcap1 (BJ _) (BJ _) rfl rfl)) (.cons _ _ _ _ _ rfl (AM _) .nil)) (Gv f a hf) ?_;rintro r rfl;refine⟨rfl,?_⟩;refine o_ (h:=?_);refine B4 10 rfl (fun _ hS=>DG (m:=i) rfl rfl hi hil ⟨rfl,rfl⟩) ?_
   first|refine AF 11 (h:=?_)|refine B4 11 rfl (fun _ hS=>Bh (row:=DB f q d 1 cap cap1) rfl (kb hS rfl) hD0 ⟨rfl,rfl⟩) ?_|refine B4 11 rfl (fun _ hS=>Cp (row:=NB d.nodes cap1) rfl (kb hS rfl) hN0 (Hp hn) ⟨rfl,rfl⟩) ?_
   refine c_ 12 rfl (CW (by repeat constructor) ?_);refine o_ (h:=?_);refine B8 13 rfl (B3 rfl rfl rfl rfl rfl rfl (by repeat constructor) (by repeat constructor) ?_);refine o_ (h:=z_ (h:=?_));refine AJ ?_;exact⟨_,rfl,Bj 5 0 (by simp[At,Aq,Ap,Bq,Br,AB,Ab])⟩
  refine CW (by repeat constructor) ?_;refine o_ (h:=?_);refine c_ 9 rfl (ET 2 rfl (.cons _ _ _ _ _ rfl (LeA.of_eq (JO hq hcap hcap1 (BJ _) (BJ _) rfl rfl)) (.cons _ _ _ _ _ rfl (AM _) .nil)) (Gv f a hf) ?_);rintro r rfl;refine⟨rfl,?_⟩;refine o_ (h:=?_);refine B4 10 rfl (fun _ hS=>DG (m:=i) rfl rfl hi hil ⟨rfl,rfl⟩) ?_
  first|refine AF 11 (h:=?_)|refine B4 11 rfl (fun _ hS=>Bh (row:=DB f q d 1 cap cap1) rfl (kb hS rfl) hD0 ⟨rfl,rfl⟩) ?_|refine B4 11 rfl (fun _ hS=>Cp (row:=NB d.nodes cap1) rfl (kb hS rfl) hN0 (Hp hn) ⟨rfl,rfl⟩) ?_
  refine B8 13 rfl (B3 rfl rfl rfl rfl rfl rfl (by repeat constructor) (by repeat constructor) ?_);refine o_ (h:=z_ (h:=?_));refine AJ ?_;exact⟨_,rfl,Bj 5 0 (by simp[At,Aq,Ap,Bq,Br,AB,Ab])⟩
 rintro t rfl;refine w_ (a_ (h:=e_ (w_ (m_ (h:=Ac (h:=a_ (h:=e_ (q_ (w_ (a_ (h:=e_ (Ao (?_)))))))))))));refine S4 9 88 2 rfl (by repeat constructor) ?_;refine Bm (fun m t=>∃(j:Nat) (acc:List B1) (dn:Bool),j≤n.entries.length∧m=n.entries.length - j∧acc++FL name ino dn (n.entries.drop j)=CU n.entries name ino∧acc.length≤2 * j∧t=⟨look [(2, .v (.string name)),(3, .v (.int .i64 ino)),(4, .bp 2 0),(5, .bp 3 0),(8, .bp 4 0),(9, .sl 2 (acc.map C7) (some 0)),(10, .v (.bool dn)),(11, .v (.int .i64 (j:Int)))],⟨[DB f q d 1 cap cap1,NB d.nodes cap1,[.bs 0 0 2 f.length cap],AB a,Ab n],[(88,2,acc.map C7)]⟩⟩) (n.entries.length) (Bj 5 1 (by simp[At,Aq,Ap,Bq,Br,AB,Ab])) (⟨0,[],_,BJ _,rfl,rfl,by simp,rfl⟩) ?_;rintro m t ⟨j,acc,dn,hj,rfl,hacc,hal,rfl⟩;refine q_ (w_ (m_ (h:=f_ (h:=l_ (h:=n_ (h:=BO (h:=e_ (?_))))))));refine A8 rfl (fun hb1=>?_) (fun hb1=>?_)
 ·have hc1:=bp hb1;obtain⟨hlt,e,hy,hrow, -⟩:=CF C7 hc1;refine AN (q_ (Ao (q_ (w_ (m_ (h:=BZ (h:=m_ (h:=?_))))))));refine As true rfl rfl (fun hb2=>?_) (fun hb2=>?_)
  ·have hc2:=bp hb2;have hdn:=hc2;refine f_ (h:=l_ (h:=m_ (h:=i_ (h:=f_ (h:=l_ (h:=m_ (h:=G6 (h:=AU (h:=e_ (?_))))))))));refine A8 rfl (fun hb3=>?_) (fun hb3=>?_)
   ·have hc3:=bp hb3;have hsl:DA e.1 name=false:=hc3;refine w_ (m_ (h:=m_ (h:=m_ (h:=Aa (h:=C2 (h:=Hf (h:=a_ (h:=e_ (AX (a_ (h:=e_ (w_ (f_ (h:=l_ (h:=m_ (h:=i_ (h:=f_ (h:=l_ (h:=m_ (h:=BX (h:=e_ (?_))))))))))))))))))))));refine A8 rfl (fun hb4=>?_) (fun hb4=>?_)
    ·have hc4:=bp hb4;have hnm:¬e.1=name:=hc4;refine AX (m_ (h:=f_ (h:=l_ (h:=m_ (h:=i_ (h:=l_ (h:=C2 (h:=Hf (h:=a_ (h:=AW (Au (t_ (AX (m_ (h:=B2 (h:=a_ (h:=AW (?_))))))))))))))))));refine AJ ?_
     first|(exact⟨n.entries.length - (j+1),_,by omega,⟨j+1,acc++[(name,ino)]++[e],true,by omega,rfl,(by rw[←hacc,Dc hy];first|(simp only[hsl,hdn];simp[hnm];done)|(simp only[hdn];simp[hnm];done)),(by(try simp);omega),rfl⟩,(by(try simp only[List.map_append,List.map_cons,List.map_nil]);exact Bj 5 1 (by simp[At,Aq,Ap,Bq,Br,AB,Ab]))⟩)|(exact⟨n.entries.length - (j+1),_,by omega,⟨j+1,acc++[(name,ino)],true,by omega,rfl,(by rw[←hacc,Dc hy];first|(simp only[hsl,hdn];simp[hnm];done)|(simp only[hdn];simp[hnm];done)),(by(try simp);omega),rfl⟩,(by(try simp only[List.map_append,List.map_cons,List.map_nil]);exact Bj 5 1 (by simp[At,Aq,Ap,Bq,Br,AB,Ab]))⟩)|(exact⟨n.entries.length - (j+1),_,by omega,⟨j+1,acc++[e],dn,by omega,rfl,(by rw[←hacc,Dc hy];first|(simp only[hsl,hdn];simp[hnm];done)|(simp only[hdn];simp[hnm];done)),(by(try simp);omega),rfl⟩,(by(try simp only[List.map_append,List.map_cons,List.map_nil]);exact Bj 5 1 (by simp[At,Aq,Ap,Bq,Br,AB,Ab]))⟩)|(exact⟨n.entries.length - (j+1),_,by omega,⟨j+1,acc,dn,by omega,rfl,(by rw[←hacc,Dc hy];first|(simp only[hsl,hdn];simp[hnm];done)|(simp only[hdn];simp[hnm];done)),(by(try simp);omega),rfl⟩,(by(try simp only[List.map_append,List.map_cons,List.map_nil]);exact Bj 5 1 (by simp[At,Aq,Ap,Bq,Br,AB,Ab]))⟩)
    have hc4:=bp hb4;have hnm:e.1=name:=hc4;refine BA (Au (t_ (AX (m_ (h:=B2 (h:=a_ (h:=AW (?_))))))));refine AJ ?_
    first|(exact⟨n.entries.length - (j+1),_,by omega,⟨j+1,acc++[(name,ino)]++[e],true,by omega,rfl,(by rw[←hacc,Dc hy];first|(simp only[hsl,hdn];simp[hnm];done)|(simp only[hdn];simp[hnm];done)),(by(try simp);omega),rfl⟩,(by(try simp only[List.map_append,List.map_cons,List.map_nil]);exact Bj 5 1 (by simp[At,Aq,Ap,Bq,Br,AB,Ab]))⟩)|(exact⟨n.entries.length - (j+1),_,by omega,⟨j+1,acc++[(name,ino)],true,by omega,rfl,(by rw[←hacc,Dc hy];first|(simp only[hsl,hdn];simp[hnm];done)|(simp only[hdn];simp[hnm];done)),(by(try simp);omega),rfl⟩,(by(try simp only[List.map_append,List.map_cons,List.map_nil]);exact Bj 5 1 (by simp[At,Aq,Ap,Bq,Br,AB,Ab]))⟩)|(exact⟨n.entries.length - (j+1),_,by omega,⟨j+1,acc++[e],dn,by omega,rfl,(by rw[←hacc,Dc hy];first|(simp only[hsl,hdn];simp[hnm];done)|(simp only[hdn];simp[hnm];done)),(by(try simp);omega),rfl⟩,(by(try simp only[List.map_append,List.map_cons,List.map_nil]);exact Bj 5 1 (by simp[At,Aq,Ap,Bq,Br,AB,Ab]))⟩)|(exact⟨n.entries.length - (j+1),_,by omega,⟨j+1,acc,dn,by omega,rfl,(by rw[←hacc,Dc hy];first|(simp only[hsl,hdn];simp[hnm];done)|(simp only[hdn];simp[hnm];done)),(by(try simp);omega),rfl⟩,(by(try simp only[List.map_append,List.map_cons,List.map_nil]);exact Bj 5 1 (by simp[At,Aq,Ap,Bq,Br,AB,Ab]))⟩)
   have hc3:=bp hb3;have hsl:DA e.1 name=true:=hc3;refine AN (w_ (f_ (h:=l_ (h:=m_ (h:=i_ (h:=f_ (h:=l_ (h:=m_ (h:=BX (h:=e_ (?_)))))))))));refine A8 rfl (fun hb5=>?_) (fun hb5=>?_)
   ·have hc5:=bp hb5;have hnm:¬e.1=name:=hc5;refine AX (m_ (h:=f_ (h:=l_ (h:=m_ (h:=i_ (h:=l_ (h:=C2 (h:=Hf (h:=a_ (h:=AW (Au (t_ (AX (m_ (h:=B2 (h:=a_ (h:=AW (?_))))))))))))))))));refine AJ ?_
    first|(exact⟨n.entries.length - (j+1),_,by omega,⟨j+1,acc++[(name,ino)]++[e],true,by omega,rfl,(by rw[←hacc,Dc hy];first|(simp only[hsl,hdn];simp[hnm];done)|(simp only[hdn];simp[hnm];done)),(by(try simp);omega),rfl⟩,(by(try simp only[List.map_append,List.map_cons,List.map_nil]);exact Bj 5 1 (by simp[At,Aq,Ap,Bq,Br,AB,Ab]))⟩)|(exact⟨n.entries.length - (j+1),_,by omega,⟨j+1,acc++[(name,ino)],true,by omega,rfl,(by rw[←hacc,Dc hy];first|(simp only[hsl,hdn];simp[hnm];done)|(simp only[hdn];simp[hnm];done)),(by(try simp);omega),rfl⟩,(by(try simp only[List.map_append,List.map_cons,List.map_nil]);exact Bj 5 1 (by simp[At,Aq,Ap,Bq,Br,AB,Ab]))⟩)|(exact⟨n.entries.length - (j+1),_,by omega,⟨j+1,acc++[e],dn,by omega,rfl,(by rw[←hacc,Dc hy];first|(simp only[hsl,hdn];simp[hnm];done)|(simp only[hdn];simp[hnm];done)),(by(try simp);omega),rfl⟩,(by(try simp only[List.map_append,List.map_cons,List.map_nil]);exact Bj 5 1 (by simp[At,Aq,Ap,Bq,Br,AB,Ab]))⟩)|(exact⟨n.entries.length - (j+1),_,by omega,⟨j+1,acc,dn,by omega,rfl,(by rw[←hacc,Dc hy];first|(simp only[hsl,hdn];simp[hnm];done)|(simp only[hdn];simp[hnm];done)),(by(try simp);omega),rfl⟩,(by(try simp only[List.map_append,List.map_cons,List.map_nil]);exact Bj 5 1 (by simp[At,Aq,Ap,Bq,Br,AB,Ab]))⟩)
   have hc5:=bp hb5;have hnm:e.1=name:=hc5;refine BA (Au (t_ (AX (m_ (h:=B2 (h:=a_ (h:=AW (?_))))))));refine AJ ?_
   first|(exact⟨n.entries.length - (j+1),_,by omega,⟨j+1,acc++[(name,ino)]++[e],true,by omega,rfl,(by rw[←hacc,Dc hy];first|(simp only[hsl,hdn];simp[hnm];done)|(simp only[hdn];simp[hnm];done)),(by(try simp);omega),rfl⟩,(by(try simp only[List.map_append,List.map_cons,List.map_nil]);exact Bj 5 1 (by simp[At,Aq,Ap,Bq,Br,AB,Ab]))⟩)|(exact⟨n.entries.length - (j+1),_,by omega,⟨j+1,acc++[(name,ino)],true,by omega,rfl,(by rw[←hacc,Dc hy];first|(simp only[hsl,hdn];simp[hnm];done)|(simp only[hdn];simp[hnm];done)),(by(try simp);omega),rfl⟩,(by(try simp only[List.map_append,List.map_cons,List.map_nil]);exact Bj 5 1 (by simp[At,Aq,Ap,Bq,Br,AB,Ab]))⟩)|(exact⟨n.entries.length - (j+1),_,by omega,⟨j+1,acc++[e],dn,by omega,rfl,(by rw[←hacc,Dc hy];first|(simp only[hsl,hdn];simp[hnm];done)|(simp only[hdn];simp[hnm];done)),(by(try simp);omega),rfl⟩,(by(try simp only[List.map_append,List.map_cons,List.map_nil]);exact Bj 5 1 (by simp[At,Aq,Ap,Bq,Br,AB,Ab]))⟩)|(exact⟨n.entries.length - (j+1),_,by omega,⟨j+1,acc,dn,by omega,rfl,(by rw[←hacc,Dc hy];first|(simp only[hsl,hdn];simp[hnm];done)|(simp only[hdn];simp[hnm];done)),(by(try simp);omega),rfl⟩,(by(try simp only[List.map_append,List.map_cons,List.map_nil]);exact Bj 5 1 (by simp[At,Aq,Ap,Bq,Br,AB,Ab]))⟩)
  have hc2:=bp hb2;have hdn:=hc2;refine A3 (h:=A3 (h:=A3 (h:=A3 (h:=A3 (h:=A3 (h:=A3 (h:=A3 (h:=Ah (h:=e_ (F5 (h:=AN (w_ (f_ (h:=l_ (h:=m_ (h:=i_ (h:=f_ (h:=l_ (h:=m_ (h:=BX (h:=e_ (?_))))))))))))))))))))));refine A8 rfl (fun hb6=>?_) (fun hb6=>?_)
  ·have hc6:=bp hb6;have hnm:¬e.1=name:=hc6;refine AX (m_ (h:=f_ (h:=l_ (h:=m_ (h:=i_ (h:=l_ (h:=C2 (h:=Hf (h:=a_ (h:=AW (Au (t_ (AX (m_ (h:=B2 (h:=a_ (h:=AW (?_))))))))))))))))));refine AJ ?_
   first|(exact⟨n.entries.length - (j+1),_,by omega,⟨j+1,acc++[(name,ino)]++[e],true,by omega,rfl,(by rw[←hacc,Dc hy];first|(simp only[hsl,hdn];simp[hnm];done)|(simp only[hdn];simp[hnm];done)),(by(try simp);omega),rfl⟩,(by(try simp only[List.map_append,List.map_cons,List.map_nil]);exact Bj 5 1 (by simp[At,Aq,Ap,Bq,Br,AB,Ab]))⟩)|(exact⟨n.entries.length - (j+1),_,by omega,⟨j+1,acc++[(name,ino)],true,by omega,rfl,(by rw[←hacc,Dc hy];first|(simp only[hsl,hdn];simp[hnm];done)|(simp only[hdn];simp[hnm];done)),(by(try simp);omega),rfl⟩,(by(try simp only[List.map_append,List.map_cons,List.map_nil]);exact Bj 5 1 (by simp[At,Aq,Ap,Bq,Br,AB,Ab]))⟩)|(exact⟨n.entries.length - (j+1),_,by omega,⟨j+1,acc++[e],dn,by omega,rfl,(by rw[←hacc,Dc hy];first|(simp only[hsl,hdn];simp[hnm];done)|(simp only[hdn];simp[hnm];done)),(by(try simp);omega),rfl⟩,(by(try simp only[List.map_append,List.map_cons,List.map_nil]);exact Bj 5 1 (by simp[At,Aq,Ap,Bq,Br,AB,Ab]))⟩)|(exact⟨n.entries.length - (j+1),_,by omega,⟨j+1,acc,dn,by omega,rfl,(by rw[←hacc,Dc hy];first|(simp only[hsl,hdn];simp[hnm];done)|(simp only[hdn];simp[hnm];done)),(by(try simp);omega),rfl⟩,(by(try simp only[List.map_append,List.map_cons,List.map_nil]);exact Bj 5 1 (by simp[At,Aq,Ap,Bq,Br,AB,Ab]))⟩)
  have hc6:=bp hb6;have hnm:e.1=name:=hc6;refine BA (Au (t_ (AX (m_ (h:=B2 (h:=a_ (h:=AW (?_))))))));refine AJ ?_
  first|(exact⟨n.entries.length - (j+1),_,by omega,⟨j+1,acc++[(name,ino)]++[e],true,by omega,rfl,(by rw[←hacc,Dc hy];first|(simp only[hsl,hdn];simp[hnm];done)|(simp only[hdn];simp[hnm];done)),(by(try simp);omega),rfl⟩,(by(try simp only[List.map_append,List.map_cons,List.map_nil]);exact Bj 5 1 (by simp[At,Aq,Ap,Bq,Br,AB,Ab]))⟩)|(exact⟨n.entries.length - (j+1),_,by omega,⟨j+1,acc++[(name,ino)],true,by omega,rfl,(by rw[←hacc,Dc hy];first|(simp only[hsl,hdn];simp[hnm];done)|(simp only[hdn];simp[hnm];done)),(by(try simp);omega),rfl⟩,(by(try simp only[List.map_append,List.map_cons,List.map_nil]);exact Bj 5 1 (by simp[At,Aq,Ap,Bq,Br,AB,Ab]))⟩)|(exact⟨n.entries.length - (j+1),_,by omega,⟨j+1,acc++[e],dn,by omega,rfl,(by rw[←hacc,Dc hy];first|(simp only[hsl,hdn];simp[hnm];done)|(simp only[hdn];simp[hnm];done)),(by(try simp);omega),rfl⟩,(by(try simp only[List.map_append,List.map_cons,List.map_nil]);exact Bj 5 1 (by simp[At,Aq,Ap,Bq,Br,AB,Ab]))⟩)|(exact⟨n.entries.length - (j+1),_,by omega,⟨j+1,acc,dn,by omega,rfl,(by rw[←hacc,Dc hy];first|(simp only[hsl,hdn];simp[hnm];done)|(simp only[hdn];simp[hnm];done)),(by(try simp);omega),rfl⟩,(by(try simp only[List.map_append,List.map_cons,List.map_nil]);exact Bj 5 1 (by simp[At,Aq,Ap,Bq,Br,AB,Ab]))⟩)
 have hc1:=bp hb1;have e:=Cx C7 hj hc1;subst e;rw[List.drop_length]at hacc;refine BU (Am (Am (BV (t_ (q_ (w_ (m_ (h:=BZ (h:=e_ (?_))))))))));refine A8 rfl (fun hb7=>?_) (fun hb7=>?_)
 ·have hc7:=bp hb7;have hdn:dn=false:=hc7;have ea:acc++[(name,ino)]=CU n.entries name ino:=by rw[←hacc,hdn];rfl
  refine AX (m_ (h:=m_ (h:=m_ (h:=Aa (h:=C2 (h:=Hf (h:=a_ (h:=e_ (Bi ([(0,DB f q d 1 cap cap1),(2,[.bs 0 0 2 f.length cap]),(3,AB a),(4,Ab n)]) 14 (h:=AQ 0 (h:=?_)))))))))))
  first|refine AF 1 (h:=?_)|refine B4 1 rfl (fun _ hS=>Bh (row:=DB f q d 1 cap cap1) rfl (kb hS rfl) hD0 ⟨rfl,rfl⟩) ?_
  refine AQ 2 (h:=?_)
  first|refine AF 3 (h:=?_)|refine B4 3 rfl (fun _ hS=>Bh (row:=DB f q d 1 cap cap1) rfl (kb hS rfl) hD0 ⟨rfl,rfl⟩) ?_
  refine B4 4 rfl (fun _ hS=>DG (m:=q) rfl rfl ha hql ⟨rfl,rfl⟩) ?_;refine AQ 5 (h:=?_)
  first|refine AF 6 (h:=?_)|refine B4 6 rfl (fun _ hS=>Bh (row:=DB f q d 1 cap cap1) rfl (kb hS rfl) hD0 ⟨rfl,rfl⟩) ?_
  first|refine AF 7 (h:=?_)|refine B4 7 rfl (fun _ hS=>Bh (row:=DB f q d 1 cap cap1) rfl (kb hS rfl) hD0 ⟨rfl,rfl⟩) ?_
  first|refine AF 8 (h:=?_)|refine B4 8 rfl (fun _ hS=>Bh (row:=DB f q d 1 cap cap1) rfl (kb hS rfl) hD0 ⟨rfl,rfl⟩) ?_
  refine B4 10 rfl (fun _ hS=>F0 (y:= .sl 2 ((CU n.entries name ino).map C7) none) (En rfl ⟨rfl,rfl⟩) (by rw[←ea];(try simp only[List.map_append,List.map_cons,List.map_nil]);exact LeA.tok _ _ _) ⟨rfl,rfl⟩) ?_;refine c_ 9 rfl (ET 2 rfl (.cons _ _ _ _ _ rfl (LeA.of_eq (JO hq hcap hcap1 (BJ _) (BJ _) rfl rfl)) (.cons _ _ _ _ _ rfl (AM _) .nil)) (Gv f a hf) ?_);rintro r rfl;refine⟨rfl,?_⟩;refine o_ (h:=?_);refine B4 11 rfl (fun _ hS=>DG (m:=i) rfl rfl hi hil ⟨rfl,rfl⟩) ?_;refine AQ 12 (h:=?_);refine B8 13 rfl (B3 rfl rfl rfl rfl rfl rfl hset (by repeat constructor) ?_);refine o_ (h:=z_ (h:=?_));refine Nb (r:= .tup []) none (h4:=(by simp[At,Bq,Br])) (h5:=(AM _)) (h6:=⟨rfl,rfl,rfl⟩)
 have hc7:=bp hb7;have hdn:dn=true:=hc7;have ea:acc=CU n.entries name ino:=by rw[←hacc,hdn];simp[FL]
 refine AN (Bi ([(0,DB f q d 1 cap cap1),(2,[.bs 0 0 2 f.length cap]),(3,AB a),(4,Ab n)]) 14 (h:=AQ 0 (h:=?_)))
 first|refine AF 1 (h:=?_)|refine B4 1 rfl (fun _ hS=>Bh (row:=DB f q d 1 cap cap1) rfl (kb hS rfl) hD0 ⟨rfl,rfl⟩) ?_
 refine AQ 2 (h:=?_)
 first|refine AF 3 (h:=?_)|refine B4 3 rfl (fun _ hS=>Bh (row:=DB f q d 1 cap cap1) rfl (kb hS rfl) hD0 ⟨rfl,rfl⟩) ?_
 refine B4 4 rfl (fun _ hS=>DG (m:=q) rfl rfl ha hql ⟨rfl,rfl⟩) ?_;refine AQ 5 (h:=?_)
 first|refine AF 6 (h:=?_)|refine B4 6 rfl (fun _ hS=>Bh (row:=DB f q d 1 cap cap1) rfl (kb hS rfl) hD0 ⟨rfl,rfl⟩) ?_
 first|refine AF 7 (h:=?_)|refine B4 7 rfl (fun _ hS=>Bh (row:=DB f q d 1 cap cap1) rfl (kb hS rfl) hD0 ⟨rfl,rfl⟩) ?_
 first|refine AF 8 (h:=?_)|refine B4 8 rfl (fun _ hS=>Bh (row:=DB f q d 1 cap cap1) rfl (kb hS rfl) hD0 ⟨rfl,rfl⟩) ?_
 refine B4 10 rfl (fun _ hS=>F0 (y:= .sl 2 ((CU n.entries name ino).map C7) none) (En rfl ⟨rfl,rfl⟩) (by rw[←ea];(try simp only[List.map_append,List.map_cons,List.map_nil]);exact LeA.tok _ _ _) ⟨rfl,rfl⟩) ?_;refine c_ 9 rfl (ET 2 rfl (.cons _ _ _ _ _ rfl (LeA.of_eq (JO hq hcap hcap1 (BJ _) (BJ _) rfl rfl)) (.cons _ _ _ _ _ rfl (AM _) .nil)) (Gv f a hf) ?_);rintro r rfl;refine⟨rfl,?_⟩;refine o_ (h:=?_);refine B4 11 rfl (fun _ hS=>DG (m:=i) rfl rfl hi hil ⟨rfl,rfl⟩) ?_;refine AQ 12 (h:=?_);refine B8 13 rfl (B3 rfl rfl rfl rfl rfl rfl hset (by repeat constructor) ?_);refine o_ (h:=z_ (h:=?_));refine Nb (r:= .tup []) none (h4:=(by simp[At,Bq,Br])) (h5:=(AM _)) (h6:=⟨rfl,rfl,rfl⟩)
end
theorem JP{h:AH}{sz:Nat}{r:List AV}{tok:Option Nat}:SrcA h sz (.sl sz [r] tok) 1 r:=by
 have:=SrcA.sl (h:=h) (sz:=sz) [r] tok
 simpa using this
theorem Y0(n:Nod)(cap:Nat):Ab n++List.replicate ((cap - 1) * 8) .any=NB [n] cap:=by
 unfold NB CJ;simp
theorem T8(acc:List Nod)(n:Nod)(cap0 cap:Nat):((NB acc cap0).drop 0).take (acc.length * 8)++Ab n++List.replicate ((cap - (acc.length+1)) * 8) .any=NB (acc++[n]) cap:=by
 unfold NB;rw[So (JL acc) (by simp),List.map_append];rfl
theorem T9{acc:List Nod}{n:Nod}{cap:Nat}{row:List AV}(hs:SetAt (NB acc cap) (0+acc.length * 8) (Ab n) row)(hc:acc.length+1≤cap):row=NB (acc++[n]) cap:=by
 have key:=Sn (rows:=acc.map Ab) (sz:=8) (cap:=cap) (r:=Ab n) (row':=row) (JL acc) rfl (by omega) (by simpa using hc) (by rw[List.length_map];exact hs);rw[key];unfold NB;rw[List.map_append];rfl
theorem M8{is:List Nat}:∀i,i<2→(0::1::is)[i]?=some i:=by
 intro i hi
 match i,hi with
 |0,_=>rfl
 |1,_=>rfl
theorem TA{ns:List Nod}{j:Nat}{n:Nod}(h:ns[j]?=some n)(ino:Int):Ch ino (ns.take (j+1))=Ch ino (ns.take j)++(if n.ino=ino then[]else[n]):=by
 unfold Ch;rw[List.take_add_one,h,List.filter_append];by_cases e:n.ino=ino<;>simp[e]
section
theorem Y1(f:AT)(q:Nat)(d:Dvc)(a:A9)(cap cap1:Nat)(hf:FlsB f)(hq:f[q]?=some d)(ha:a.1=(q:Int))(hcap:f.length≤cap)(hcap1:d.nodes.length≤cap1)(hne:0<(Ch a.2 d.nodes).length):
    ACall prog 38 [.agg [.bs 0 0 2 f.length cap], .agg (AB a)] [DB f q d 1 cap cap1,NB d.nodes cap1] (fun r b t=>t=[]∧r= .tup []∧((0<F6 f a∧b=[DB f q d 1 cap cap1,NB d.nodes cap1,[.bs 0 0 2 f.length cap],AB a])∨(F6 f a=0∧∃cap2,(Ch a.2 d.nodes).length≤cap2∧b=[DB f q {d with nodes:=Ch a.2 d.nodes} 4 cap cap2,NB d.nodes cap1,[.bs 0 0 2 f.length cap],AB a,NB (Ch a.2 d.nodes) cap2]))):=by
 have hql:=(Ai.1 hq).1;have hdn:=hf.nodes d (Aj hq);have hD0:(DB f q d 1 cap cap1)[0+q * 2+1]?=some (.bs 1 0 8 d.nodes.length cap1):=Gz hql;have hset:∀(acc:List Nod) (cap2:Nat),SetAt (DB f q d 1 cap cap1) (0+q * 2+1) [.bs 4 0 8 acc.length cap2] (DB f q {d with nodes:=acc} 4 cap cap2):=fun acc cap2=>Pz hql (by repeat constructor) (by simp);refine enter Tryz.func38 rfl rfl rfl rfl rfl 5 rfl ?_;refine w_ (b_ (h:=b_ (h:=e_ (q_ (w_ (l_ (h:=l_ (h:=?_))))))));refine A7 rfl (ET 2 rfl (.cons _ _ _ _ _ rfl (LeA.of_eq (JO hq hcap hcap1 (BJ _) (BJ _) rfl rfl)) (.cons _ _ _ _ _ rfl (AM _) .nil)) (Lr f a hf) ?_);rintro r rfl;refine⟨rfl,?_⟩;refine CS (h:=e_ (?_));refine A8 rfl (fun hb1=>?_) (fun hb1=>?_)
 ·have hc1:=bp hb1;have hl:0<F6 f a:=by omega
  refine A6 (A4 (?_));refine B0 (r:= .tup []) none (h4:=(by simp[At,Aq,Ap,Bq,Br,AB])) (h5:=(AM _)) (h6:=⟨rfl,rfl, .inl ⟨hl,rfl⟩⟩)
 have hc1:=bp hb1;have hl:F6 f a=0:=by omega
 refine AN (w_ (a_ (h:=e_ (w_ (f_ (h:=?_))))));refine A7 rfl (Bh rfl rfl rfl ?_);refine f_ (h:=l_ (h:=?_));refine A7 rfl (DG (m:=q) rfl rfl ha hql ?_);refine f_ (h:=?_);refine A7 rfl (Bh rfl rfl hD0 ?_);refine a_ (h:=e_ (q_ (w_ (a_ (h:=e_ (Ao (?_)))))));refine Bm (fun m t=>∃(j:Nat) (acc:List Nod),j≤d.nodes.length∧m=d.nodes.length - j∧Ch a.2 (d.nodes.take j)=acc∧acc.length≤j∧((acc=[]∧t=⟨look [(2, .bp 2 0),(3, .bp 3 0),(4, .v (.slice none 0 0)),(5, .bs 1 0 8 d.nodes.length cap1),(6, .v (.int .i64 (j:Int)))],⟨[DB f q d 1 cap cap1,NB d.nodes cap1,[.bs 0 0 2 f.length cap],AB a],[]⟩⟩)∨(∃cap2,acc.length≤cap2∧t=⟨look [(2, .bp 2 0),(3, .bp 3 0),(4, .bs 4 0 8 acc.length cap2),(5, .bs 1 0 8 d.nodes.length cap1),(6, .v (.int .i64 (j:Int)))],⟨[DB f q d 1 cap cap1,NB d.nodes cap1,[.bs 0 0 2 f.length cap],AB a,NB acc cap2],[]⟩⟩))) (d.nodes.length) (Bj 4 0 (by simp[At,Aq,Ap,Bq,Br,AB,Ab])) (⟨0,[],BJ _,rfl,rfl,Av _, .inl ⟨rfl,rfl⟩⟩) ?_;rintro m t ⟨j,acc,hj,rfl,hacc,hal,⟨rfl,rfl⟩|⟨cap2,hcp,rfl⟩⟩
 ·skip
  refine q_ (w_ (m_ (h:=m_ (h:=?_))));refine A7 rfl (PK rfl ?_);refine BO (h:=e_ (?_));refine A8 rfl (fun hb2=>?_) (fun hb2=>?_)
  ·have hc2:=bp hb2;have hlt:j<d.nodes.length:=by omega
   obtain⟨n,hy⟩:∃n,d.nodes[j]?=some n:=⟨_,BM hlt⟩;have hk:=TA hy a.2;refine AN (q_ (Ao (q_ (Dk 8 (h:=AP 0 (h:=AP 1 (h:=?_)))))));refine F1 (i:=2) rfl (DG (m:=j) rfl rfl rfl hlt ⟨rfl,rfl⟩) ?_;refine AQ 3 (h:=?_);refine F1 (i:=4) rfl (Bh rfl rfl (T7 hy rfl) ⟨rfl,rfl⟩) ?_;refine AQ 5 (h:=AF 6 (h:=JG 7 (h:=z_ (h:=t_ (?_)))));refine A8 rfl (fun hb3=>?_) (fun hb3=>?_)
   ·have hc3:=bp hb3;rw[if_neg hc3]at hk;refine AX (m_ (h:=m_ (h:=m_ (h:=?_))));refine A7 rfl (DG (m:=j) rfl rfl rfl hlt ?_);refine A7 rfl (Cp rfl rfl (by rw[M5 hcap1];omega) (Hp hy) ?_);refine C2 (h:=?_);refine A7 rfl (Na rfl rfl JP (by omega) (by omega) ?_);rintro cap2 k bx2 hcp hs;rw[show CT (.agg (Ab n))++List.replicate ((cap2 - 1) * 8) AV.any=NB [n] cap2 from Y0 n cap2]at hs;obtain⟨rfl,rfl⟩:k=4∧bx2=[_,_,_,_,_]:=hs.eq;refine a_ (h:=AW (Au (t_ (AX (m_ (h:=B2 (h:=a_ (h:=AW (?_)))))))));refine AJ ?_
    first|exact⟨d.nodes.length - (j+1),_,by omega,⟨j+1,[n],by omega,rfl,(by rw[hk,hacc];rfl),by simp, .inr ⟨cap2,hcp,rfl⟩⟩,B7 5 0 rfl rfl rfl (by simp[At,Aq,Ap,Bq,Br,AB,Ab]) ((by repeat (first|exact Sub.nil|refine B9 rfl rfl ?_|refine BC ?_|refine BD rfl ?_|refine BE rfl ?_)))⟩|exact⟨d.nodes.length - (j+1),_,by omega,⟨j+1,[],by omega,rfl,(by rw[hk,hacc]),by simp, .inl ⟨rfl,rfl⟩⟩,B7 4 0 rfl rfl rfl (by simp[At,Aq,Ap,Bq,Br,AB,Ab]) ((by repeat (first|exact Sub.nil|refine B9 rfl rfl ?_|refine BC ?_|refine BD rfl ?_|refine BE rfl ?_)))⟩
   have hc3:=bp hb3;rw[if_pos hc3,List.append_nil]at hk;refine BA (Au (t_ (AX (m_ (h:=B2 (h:=a_ (h:=AW (?_))))))));refine AJ ?_
   first|exact⟨d.nodes.length - (j+1),_,by omega,⟨j+1,[n],by omega,rfl,(by rw[hk,hacc];rfl),by simp, .inr ⟨cap2,hcp,rfl⟩⟩,B7 5 0 rfl rfl rfl (by simp[At,Aq,Ap,Bq,Br,AB,Ab]) ((by repeat (first|exact Sub.nil|refine B9 rfl rfl ?_|refine BC ?_|refine BD rfl ?_|refine BE rfl ?_)))⟩|exact⟨d.nodes.length - (j+1),_,by omega,⟨j+1,[],by omega,rfl,(by rw[hk,hacc]),by simp, .inl ⟨rfl,rfl⟩⟩,B7 4 0 rfl rfl rfl (by simp[At,Aq,Ap,Bq,Br,AB,Ab]) ((by repeat (first|exact Sub.nil|refine B9 rfl rfl ?_|refine BC ?_|refine BD rfl ?_|refine BE rfl ?_)))⟩
  have hc2:=bp hb2;exfalso;obtain rfl:j=d.nodes.length:=by omega
  rw[List.take_length]at hacc;rw[hacc]at hne;exact absurd hne (by simp)
 skip
 refine q_ (w_ (m_ (h:=m_ (h:=?_))));refine A7 rfl (PK rfl ?_);refine BO (h:=e_ (?_));refine A8 rfl (fun hb4=>?_) (fun hb4=>?_)
 ·have hc4:=bp hb4;have hlt:j<d.nodes.length:=by omega
  obtain⟨n,hy⟩:∃n,d.nodes[j]?=some n:=⟨_,BM hlt⟩;have hk:=TA hy a.2;refine AN (q_ (Ao (q_ (Dk 8 (h:=AP 0 (h:=AP 1 (h:=?_)))))));refine F1 (i:=2) rfl (DG (m:=j) rfl rfl rfl hlt ⟨rfl,rfl⟩) ?_;refine AQ 3 (h:=?_);refine F1 (i:=4) rfl (Bh rfl rfl (T7 hy rfl) ⟨rfl,rfl⟩) ?_;refine AQ 5 (h:=AF 6 (h:=JG 7 (h:=z_ (h:=t_ (?_)))));refine A8 rfl (fun hb5=>?_) (fun hb5=>?_)
  ·have hc5:=bp hb5;rw[if_neg hc5]at hk;refine AX (m_ (h:=m_ (h:=m_ (h:=?_))));refine A7 rfl (DG (m:=j) rfl rfl rfl hlt ?_);refine A7 rfl (Cp rfl rfl (by rw[M5 hcap1];omega) (Hp hy) ?_);refine C2 (h:=?_);refine A7 rfl (Lg rfl rfl rfl (by rw[M5 hcp];omega) JP (by omega) (by omega) ?_ ?_)
   ·rintro hg row2 bx2 hs hb;obtain rfl:=T9 hs hg;obtain rfl:bx2=[_,_,_,_,_]:=hb.one.2;refine a_ (h:=AW (Au (t_ (AX (m_ (h:=B2 (h:=a_ (h:=AW (?_)))))))));refine AJ ?_
    first|exact⟨d.nodes.length - (j+1),_,by omega,⟨j+1,acc++[n],by omega,rfl,(by rw[hk,hacc]),by simp;omega, .inr ⟨cap2,by simpa using hg,by rw[List.length_append];rfl⟩⟩,B7 5 0 rfl rfl rfl (by simp[At,Aq,Ap,Bq,Br,AB,Ab]) ((by repeat (first|exact Sub.nil|refine B9 rfl rfl ?_|refine BC ?_|refine BD rfl ?_|refine BE rfl ?_)))⟩|exact⟨d.nodes.length - (j+1),_,by omega,⟨j+1,acc++[n],by omega,rfl,(by rw[hk,hacc]),by simp;omega, .inr ⟨cap3,by simpa using hcp3,by rw[List.length_append];rfl⟩⟩,EU [0,1,2,3,5] M8 (by decide) (.cons _ _ _ _ _ rfl (JN (by rfl) _ _ _ _ _) (.cons _ _ _ _ _ rfl (GQ _ _ _) (.cons _ _ _ _ _ rfl rfl (.cons _ _ _ _ _ rfl rfl (.cons _ _ _ _ _ rfl (GQ _ _ _) .nil))))) (by repeat (first|exact SubK.nil|refine SubK.cons _ _ _ _ rfl (AM _) ?_))⟩|exact⟨d.nodes.length - (j+1),_,by omega,⟨j+1,acc,by omega,rfl,(by rw[hk,hacc]),by omega, .inr ⟨cap2,hcp,rfl⟩⟩,B7 5 0 rfl rfl rfl (by simp[At,Aq,Ap,Bq,Br,AB,Ab]) ((by repeat (first|exact Sub.nil|refine B9 rfl rfl ?_|refine BC ?_|refine BD rfl ?_|refine BE rfl ?_)))⟩
   rintro hg cap3 k bx2 hcp3 hs;rw[show((NB acc cap2).drop 0).take (acc.length * 8)++CT (.agg (Ab n))++List.replicate ((cap3 - (acc.length+1)) * 8) AV.any=NB (acc++[n]) cap3 from T8 acc n cap2 cap3]at hs;obtain⟨rfl,rfl⟩:k=5∧bx2=[_,_,_,_,_,_]:=hs.eq;refine a_ (h:=AW (Au (t_ (AX (m_ (h:=B2 (h:=a_ (h:=AW (?_)))))))));refine AJ ?_
   first|exact⟨d.nodes.length - (j+1),_,by omega,⟨j+1,acc++[n],by omega,rfl,(by rw[hk,hacc]),by simp;omega, .inr ⟨cap2,by simpa using hg,by rw[List.length_append];rfl⟩⟩,B7 5 0 rfl rfl rfl (by simp[At,Aq,Ap,Bq,Br,AB,Ab]) ((by repeat (first|exact Sub.nil|refine B9 rfl rfl ?_|refine BC ?_|refine BD rfl ?_|refine BE rfl ?_)))⟩|exact⟨d.nodes.length - (j+1),_,by omega,⟨j+1,acc++[n],by omega,rfl,(by rw[hk,hacc]),by simp;omega, .inr ⟨cap3,by simpa using hcp3,by rw[List.length_append];rfl⟩⟩,EU [0,1,2,3,5] M8 (by decide) (.cons _ _ _ _ _ rfl (JN (by rfl) _ _ _ _ _) (.cons _ _ _ _ _ rfl (GQ _ _ _) (.cons _ _ _ _ _ rfl rfl (.cons _ _ _ _ _ rfl rfl (.cons _ _ _ _ _ rfl (GQ _ _ _) .nil))))) (by repeat (first|exact SubK.nil|refine SubK.cons _ _ _ _ rfl (AM _) ?_))⟩|exact⟨d.nodes.length - (j+1),_,by omega,⟨j+1,acc,by omega,rfl,(by rw[hk,hacc]),by omega, .inr ⟨cap2,hcp,rfl⟩⟩,B7 5 0 rfl rfl rfl (by simp[At,Aq,Ap,Bq,Br,AB,Ab]) ((by repeat (first|exact Sub.nil|refine B9 rfl rfl ?_|refine BC ?_|refine BD rfl ?_|refine BE rfl ?_)))⟩
  have hc5:=bp hb5;rw[if_pos hc5,List.append_nil]at hk;refine BA (Au (t_ (AX (m_ (h:=B2 (h:=a_ (h:=AW (?_))))))));refine AJ ?_
  first|exact⟨d.nodes.length - (j+1),_,by omega,⟨j+1,acc++[n],by omega,rfl,(by rw[hk,hacc]),by simp;omega, .inr ⟨cap2,by simpa using hg,by rw[List.length_append];rfl⟩⟩,B7 5 0 rfl rfl rfl (by simp[At,Aq,Ap,Bq,Br,AB,Ab]) ((by repeat (first|exact Sub.nil|refine B9 rfl rfl ?_|refine BC ?_|refine BD rfl ?_|refine BE rfl ?_)))⟩|exact⟨d.nodes.length - (j+1),_,by omega,⟨j+1,acc++[n],by omega,rfl,(by rw[hk,hacc]),by simp;omega, .inr ⟨cap3,by simpa using hcp3,by rw[List.length_append];rfl⟩⟩,EU [0,1,2,3,5] M8 (by decide) (.cons _ _ _ _ _ rfl (JN (by rfl) _ _ _ _ _) (.cons _ _ _ _ _ rfl (GQ _ _ _) (.cons _ _ _ _ _ rfl rfl (.cons _ _ _ _ _ rfl rfl (.cons _ _ _ _ _ rfl (GQ _ _ _) .nil))))) (by repeat (first|exact SubK.nil|refine SubK.cons _ _ _ _ rfl (AM _) ?_))⟩|exact⟨d.nodes.length - (j+1),_,by omega,⟨j+1,acc,by omega,rfl,(by rw[hk,hacc]),by omega, .inr ⟨cap2,hcp,rfl⟩⟩,B7 5 0 rfl rfl rfl (by simp[At,Aq,Ap,Bq,Br,AB,Ab]) ((by repeat (first|exact Sub.nil|refine B9 rfl rfl ?_|refine BC ?_|refine BD rfl ?_|refine BE rfl ?_)))⟩
 have hc4:=bp hb4;obtain rfl:j=d.nodes.length:=by omega
 rw[List.take_length]at hacc;refine BU (Am (Am (BV (t_ (AX (f_ (h:=?_)))))));refine A7 rfl (Bh rfl rfl rfl ?_);refine f_ (h:=l_ (h:=m_ (h:=?_)));refine A7 rfl (DG (m:=q) rfl rfl ha hql ?_);refine f_ (h:=?_);refine Ld (B3 rfl rfl rfl rfl rfl rfl (hset _ _) (by repeat constructor) ?_);refine AW (?_);refine Nb (r:= .tup []) none (h4:=(by simp[At,Aq,Ap,Bq,Br,AB])) (h5:=(AM _)) (h6:=⟨rfl,rfl, .inr ⟨hl,cap2,by rw[hacc];exact hcp,by rw[hacc];rfl⟩⟩)
end
end Go.Proofs.YtobclmbkdhbnpaaGreatDoor
namespace Go.Proofs.YtobclmbkdhbnpaaGreatDoor
theorem TB:∀x:List UInt8,Op.bytesLess x x=false
 |[]=>rfl
 |a::x=>by simp[Op.bytesLess,TB x]
theorem TC:∀x y z:List UInt8,Op.bytesLess x y=true→Op.bytesLess y z=true→Op.bytesLess x z=true
 |_,[],_,h,_=>by cases ‹List UInt8›<;>simp[Op.bytesLess]at h
 |_,_::_,[],_,h=>by simp[Op.bytesLess]at h
 |[],_::_,_::_,_,_=>rfl
 |a::x,b::y,c::z,h,k=>by
   simp only[Op.bytesLess,Bool.or_eq_true,Bool.and_eq_true,decide_eq_true_iff,beq_iff_eq]at h k ⊢;rcases h with h|⟨rfl,h⟩
   ·rcases k with k|⟨rfl,k⟩
    ·exact .inl (UInt8.lt_trans h k)
    exact .inl h
   rcases k with k|⟨rfl,k⟩
   ·exact .inl k
   exact .inr ⟨rfl,TC x y z h k⟩
theorem TD:∀x y:List UInt8,Op.bytesLess x y=false→x≠y→Op.bytesLess y x=true
 |[],[],_,h=>absurd rfl h
 |[],_::_,h,_=>by simp[Op.bytesLess]at h
 |_::_,[],_,_=>rfl
 |a::x,b::y,h,k=>by
   simp only[Op.bytesLess,Bool.or_eq_false_iff,decide_eq_false_iff_not,Bool.and_eq_false_iff,beq_eq_false_iff_ne]at h;simp only[Op.bytesLess,Bool.or_eq_true,Bool.and_eq_true,decide_eq_true_iff,beq_iff_eq];by_cases e:a=b
   ·subst e;right;refine⟨rfl,TD x y ?_ (fun e=>k (by rw[e]))⟩;rcases h.2 with h|h
    ·exact absurd rfl h
    exact h
   left;have h1:¬a.toNat<b.toNat:=h.1;have h2:a.toNat≠b.toNat:=fun e'=>e (UInt8.toNat_inj.1 e');show b.toNat<a.toNat;omega
theorem Y2(a:AE):DA a a=false:=TB _
theorem Y3{a b c:AE}(h:DA a b=true)(k:DA b c=true):DA a c=true:=TC _ _ _ h k
theorem TE{a b:AE}(h:DA a b=false)(k:a≠b):DA b a=true:=by
 refine TD _ _ h fun e=>k ?_;have:=Lp a b;rw[e]at this
 simpa using this
theorem Kj{a b:AE}(h:DA a b=true):a≠b:=by rintro rfl;rw[Y2]at h;cases h
def Ei(es:List B1):Prop:=es.Pairwise fun a b=>DA a.1 b.1=true
def Ds(name:AE)(es:List B1):List B1:=es.filter fun e=>decide (e.1≠name)
theorem M9(name:AE)(ino:Int):∀es:List B1,FL name ino true es=Ds name es
 |[]=>rfl
 |e::r=>by
   unfold FL;simp only[Bool.not_true,Bool.false_and,Bool.true_or];rw[M9 name ino r];unfold Ds;rw[List.filter_cons];by_cases h:e.1=name<;>simp[h]
theorem Fk(es:List B1)(name:AE):CU es name 0=Ds name es:=M9 name 0 es
theorem Q1(name:AE)(ino:Int):∀es:List B1,(FL name ino false es).Perm ((name,ino)::Ds name es)
 |[]=>by simp[FL,Ds]
 |e::r=>by
   unfold FL;simp only[Bool.not_false,Bool.true_and,Bool.false_or]
   cases hlt:DA e.1 name with
   |false=>
     simp only[Bool.not_false,if_true];rw[M9 name ino r];unfold Ds;rw[List.filter_cons];by_cases h:e.1=name<;>simp[h]
   |true=>
     have hne:=Kj hlt;have ih:=Q1 name ino r;unfold Ds at ih ⊢;rw[List.filter_cons];simp only[Bool.not_true,Bool.false_eq_true,if_false,List.nil_append,hne,ne_eq,not_false_eq_true,decide_true,if_true];exact(List.Perm.cons e ih).trans (List.Perm.swap _ _ _)
theorem H0(es:List B1)(name:AE){ino:Int}(h:ino≠0):(CU es name ino).Perm ((name,ino)::Ds name es):=by
 unfold CU;rw[show(ino==0)=false by simpa using h];exact Q1 name ino es
theorem Q2{es:List B1}(h:Ei es)(name:AE):Ei (Ds name es):=List.Pairwise.filter _ h
theorem TF(name:AE)(ino:Int):∀es:List B1,Ei es→Ei (FL name ino false es)
 |[],_=>by simp[FL,Ei]
 |e::r,h=>by
   obtain⟨h1,h2⟩:=List.pairwise_cons.1 h;unfold FL;simp only[Bool.not_false,Bool.true_and,Bool.false_or]
   cases hlt:DA e.1 name with
   |false=>
     simp only[Bool.not_false,if_true];rw[M9 name ino r]
     have hr:∀x∈Ds name r,DA name x.1=true:=fun x hx=>by
      obtain⟨hx1,_⟩:=List.mem_filter.1 hx;have h3:=h1 x hx1;by_cases he:e.1=name
      ·rw[←he];exact h3
      exact Y3 (TE hlt he) h3
     by_cases he:e.1=name
     ·simp only[he,if_true,List.nil_append,List.cons_append];exact List.pairwise_cons.2 ⟨hr,Q2 h2 name⟩
     simp only[he,if_false,List.cons_append,List.nil_append];refine List.pairwise_cons.2 ⟨?_,List.pairwise_cons.2 ⟨fun x hx=>h1 x (List.mem_filter.1 hx).1,Q2 h2 name⟩⟩;intro x hx;rcases List.mem_cons.1 hx with rfl|hx
     ·exact TE hlt he
     exact hr x hx
   |true=>
     have hne:=Kj hlt;simp only[Bool.not_true,Bool.false_eq_true,if_false,List.nil_append,hne,List.cons_append];refine List.pairwise_cons.2 ⟨fun x hx=>?_,TF name ino r h2⟩;have hx':=(Q1 name ino r).mem_iff.1 hx;rcases List.mem_cons.1 hx' with rfl|hx'
     ·exact hlt
     exact h1 x (List.mem_filter.1 hx').1
theorem Kk{es:List B1}(h:Ei es)(name:AE)(ino:Int):Ei (CU es name ino):=by
 unfold CU
 cases (ino==0)with
 |true=>rw[M9];exact Q2 h name
 |false=>exact TF name ino es h
def DL(es:List B1)(name:AE):Option B1:=es.find? fun e:B1=>decide (e.1=name)
theorem FO{es:List B1}{name:AE}{e:B1}(h:DL es name=some e):e∈es∧e.1=name:=by
 have h1:=List.find?_some h;exact⟨List.mem_of_find?_eq_some h,by simpa using h1⟩
theorem MA{es:List B1}{name:AE}(h:DL es name=none):∀e∈es,e.1≠name:=fun e he=>by
 have:=List.find?_eq_none.1 h e he
 simpa using this
theorem Nr{es:List B1}{name:AE}(h:DL es name=none):Ds name es=es:=by
 unfold Ds;rw[List.filter_eq_self];intro e he
 simpa using MA h e he
theorem Ns{es:List B1}(hs:Ei es){name:AE}{e:B1}(h:DL es name=some e):es.Perm (e::Ds name es):=by
 induction es with
 |nil=>simp[DL]at h
 |cons x r ih=>
   obtain⟨h1,h2⟩:=List.pairwise_cons.1 hs;unfold DL at h;rw[List.find?_cons]at h;unfold Ds;rw[List.filter_cons];by_cases hx:x.1=name
   ·simp only[hx,decide_true,Option.some.injEq]at h;subst h
    have:r.filter (fun e=>decide (e.1≠name))=r:=by
     rw[List.filter_eq_self];intro y hy;have:=Kj (h1 y hy);simp only[ne_eq,decide_not,Bool.not_eq_true',decide_eq_false_iff_not];rw[←hx];exact fun e=>this e.symm
    rw[this];simp[hx]
   simp only[hx,decide_false]at h;have:=ih h2 h;simp only[ne_eq,hx,not_false_eq_true,decide_true,if_true];exact(List.Perm.cons x this).trans (List.Perm.swap _ _ _)
theorem Nt{i:Int}{a b:List B1}(h:a.Perm b):Cg i a=Cg i b:=h.countP_eq _
theorem Nu(i:Int)(e:B1)(es:List B1):Cg i (e::es)=Cg i es+(if e.2=i then 1 else 0):=by
 unfold Cg;rw[List.countP_cons];by_cases h:e.2=i<;>simp[h]
theorem TG{i:Int}{es:List B1}:0<Cg i es↔∃e∈es,e.2=i:=by
 unfold Cg;rw[List.countP_pos_iff];simp
theorem MB{i:Int}{ns:List Nod}:0<Bg i ns↔∃n∈ns,∃e∈n.entries,e.2=i:=by
 unfold Bg;rw[TG];constructor
 ·rintro⟨e,he,h⟩;obtain⟨n,hn,he⟩:=List.mem_flatMap.1 he;exact⟨n,hn,e,he,h⟩
 rintro⟨n,hn,e,he,h⟩;exact⟨e,List.mem_flatMap.2 ⟨n,hn,he⟩,h⟩
theorem Q3(i:Int)(a b:List Nod):Bg i (a++b)=Bg i a+Bg i b:=by
 unfold Bg Cg;rw[List.flatMap_append,List.countP_append]
theorem Kl(i:Int)(n:Nod)(b:List Nod):Bg i (n::b)=Cg i n.entries+Bg i b:=by
 unfold Bg Cg;rw[List.flatMap_cons,List.countP_append]
def CZ(ns:List Nod)(ino:Int)(g:Nod→Nod):List Nod:=ns.map fun n=>if n.ino=ino then g n else n
def DX(ns:List Nod):Prop:=ns.Pairwise fun a b=>a.ino<b.ino
theorem Cy{ns:List Nod}(h:DX ns){a b:Nod}(ha:a∈ns)(hb:b∈ns)(e:a.ino=b.ino):a=b:=by
 induction ns with
 |nil=>cases ha
 |cons x r ih=>
   obtain⟨h1,h2⟩:=List.pairwise_cons.1 h;rcases List.mem_cons.1 ha with rfl|ha
   ·rcases List.mem_cons.1 hb with rfl|hb
    ·rfl
    have:=h1 b hb;omega
   rcases List.mem_cons.1 hb with hb|hb
   ·subst hb;have:=h1 a (by assumption);omega
   exact ih h2 (by assumption) hb
theorem TH{ns:List Nod}(h:DX ns){n:Nod}(hn:n∈ns):∃A B,ns=A++n::B∧(∀m∈A,m.ino≠n.ino)∧∀m∈B,m.ino≠n.ino:=by
 obtain⟨A,B,rfl⟩:=List.append_of_mem hn;obtain⟨h1,h2,h3⟩:=List.pairwise_append.1 h;obtain⟨h4,_⟩:=List.pairwise_cons.1 h2;exact⟨A,B,rfl,fun m hm=>by have:=h3 m hm n (by simp);omega,fun m hm=>by have:=h4 m hm;omega⟩
theorem Y4{A B:List Nod}{n:Nod}(hA:∀m∈A,m.ino≠n.ino)(hB:∀m∈B,m.ino≠n.ino)(g:Nod→Nod):CZ (A++n::B) n.ino g=A++g n::B:=by
 unfold CZ;rw[List.map_append,List.map_cons,if_pos rfl]
 congr 1
 ·rw[List.map_congr_left (g:=id) fun m hm=>by simp[hA m hm]];simp
 congr 1
 rw[List.map_congr_left (g:=id) fun m hm=>by simp[hB m hm]];simp
theorem Fl{ns:List Nod}{ino:Int}{g:Nod→Nod}{m:Nod}:m∈CZ ns ino g↔∃n∈ns,m=if n.ino=ino then g n else n:=by
 unfold CZ;rw[List.mem_map];constructor
 ·rintro⟨n,hn,rfl⟩;exact⟨n,hn,rfl⟩
 rintro⟨n,hn,rfl⟩;exact⟨n,hn,rfl⟩
theorem Y5{ns:List Nod}{ino:Int}{g:Nod→Nod}(hg:∀n,(g n).ino=n.ino):(CZ ns ino g).map (·.ino)=ns.map (·.ino):=by
 unfold CZ;rw[List.map_map];apply List.map_congr_left;intro n _;simp only[Function.comp];split
 ·exact hg n
 rfl
theorem Q4{ns:List Nod}:DX ns↔(ns.map (·.ino)).Pairwise (· < ·):=by
 unfold DX;rw[List.pairwise_map]
theorem TJ{ns:List Nod}(h:DX ns)(ino:Int){g:Nod→Nod}(hg:∀n,(g n).ino=n.ino):DX (CZ ns ino g):=by
 rw[Q4]at h ⊢;rw[Y5 hg];exact h
theorem Q5{ns:List Nod}(h:DX ns){n:Nod}(hn:n∈ns)(g:Nod→Nod)(i:Int):Bg i (CZ ns n.ino g)+Cg i n.entries=Bg i ns+Cg i (g n).entries:=by
 obtain⟨A,B,rfl,hA,hB⟩:=TH h hn;rw[Y4 hA hB];simp only[Q3,Kl];omega
end Go.Proofs.YtobclmbkdhbnpaaGreatDoor
namespace Go.Proofs.YtobclmbkdhbnpaaGreatDoor
structure VD(d:Dvc):Prop where
 len:d.nodes.length≤16
 next2:2≤d.next
 nextM:d.next≤1073741824
 root:∃r rest,d.nodes=r::rest∧r.ino=1∧r.kind=2∧r.parent=1
 asc:DX d.nodes
 lt:∀n∈d.nodes,n.ino<d.next
 plain:∀n∈d.nodes,EM n=true
 leaf:∀n∈d.nodes,n.kind≠2→n.parent=0∧n.entries=[]
 many:∀n∈d.nodes,n.entries.length≤12
 sorted:∀n∈d.nodes,Ei n.entries
 ent:∀n∈d.nodes,∀e∈n.entries,D4 e.1=true∧e.2≠1∧∃m∈d.nodes,m.ino=e.2
 link:∀n∈d.nodes,n.ino≠1→0<Bg n.ino d.nodes
 one:∀n∈d.nodes,n.ino≠1→n.kind=2→Bg n.ino d.nodes=1
 par:∀n∈d.nodes,n.ino≠1→n.kind=2→∃p∈d.nodes,p.ino=n.parent∧∃e∈p.entries,e.2=n.ino
 rank:∃rk:Int→Nat,∀n∈d.nodes,n.ino≠1→n.kind=2→rk n.parent<rk n.ino
theorem VD.pos{d:Dvc}(h:VD d){n:Nod}(hn:n∈d.nodes):1≤n.ino:=by
 obtain⟨r,rest,hr,h1,_⟩:=h.root;have ha:=h.asc;rw[hr]at hn ha;rcases List.mem_cons.1 hn with rfl|hn
 ·omega
 have:=(List.pairwise_cons.1 ha).1 n hn;omega
theorem VD.rootMem{d:Dvc}(h:VD d):∃r∈d.nodes,r.ino=1∧r.kind=2∧r.parent=1:=by
 obtain⟨r,rest,hr,h1,h2,h3⟩:=h.root;exact⟨r,by rw[hr];simp,h1,h2,h3⟩
theorem VD.isRoot{d:Dvc}(h:VD d){n:Nod}(hn:n∈d.nodes)(h1:n.ino=1):n.kind=2∧n.parent=1:=by
 obtain⟨r,hr,h2,h3,h4⟩:=h.rootMem;obtain rfl:=Cy h.asc hn hr (by omega);exact⟨h3,h4⟩
theorem VD.dirOf{d:Dvc}(h:VD d){n:Nod}(hn:n∈d.nodes){e:B1}(he:e∈n.entries):n.kind=2:=by
 apply Classical.byContradiction;intro hk;rw[(h.leaf n hn hk).2]at he;cases he
def MC(name:AE)(ino:Int)(n:Nod):Nod:={n with entries:=CU n.entries name ino}
def BS(ns:List Nod)(p:Int)(name:AE)(ino:Int):List Nod:=CZ ns p (MC name ino)
structure AsWas(p:Int)(name:AE)(to_:Int)(n m:Nod):Prop where
 ino:m.ino=n.ino
 kind:m.kind=n.kind
 parent:m.parent=n.parent
 plain:EM m=EM n
 ents:m.entries=if n.ino=p then CU n.entries name to_ else n.entries
theorem Q6(p:Int)(name:AE)(ino:Int)(n:Nod):AsWas p name ino n (if n.ino=p then MC name ino n else n):=by
 by_cases h:n.ino=p
 ·simp only[h,if_true];exact⟨h ▸ rfl,rfl,rfl,rfl,by simp[h,MC]⟩
 simp only[h,if_false];exact⟨rfl,rfl,rfl,rfl,by simp[h]⟩
theorem Dt{ns:List Nod}{p:Int}{name:AE}{ino:Int}{m:Nod}(h:m∈BS ns p name ino):∃n∈ns,AsWas p name ino n m:=by
 obtain⟨n,hn,rfl⟩:=Fl.1 h;exact⟨n,hn,Q6 p name ino n⟩
theorem GR{ns:List Nod}(p:Int)(name:AE)(ino:Int){n:Nod}(h:n∈ns):∃m∈BS ns p name ino,AsWas p name ino n m:=⟨_,Fl.2 ⟨n,h,rfl⟩,Q6 p name ino n⟩
theorem Km{ns:List Nod}(h:DX ns)(p:Int)(name:AE)(ino:Int):DX (BS ns p name ino):=TJ h p fun _=>rfl
theorem Q7(ns:List Nod)(p:Int)(name:AE)(ino:Int):(BS ns p name ino).length=ns.length:=by simp[BS,CZ]
theorem MD{ns:List Nod}(h:DX ns){n0:Nod}(hn:n0∈ns)(name:AE)(ino i:Int):Bg i (BS ns n0.ino name ino)+Cg i n0.entries=Bg i ns+Cg i (CU n0.entries name ino):=Q5 h hn (MC name ino) i
theorem Q8{ns:List Nod}(p:Int)(name:AE)(ino:Int)(h:∃r rest,ns=r::rest∧r.ino=1∧r.kind=2∧r.parent=1):∃r rest,BS ns p name ino=r::rest∧r.ino=1∧r.kind=2∧r.parent=1:=by
 obtain⟨r,rest,rfl,h1,h2,h3⟩:=h;have:=Q6 p name ino r;exact⟨_,_,rfl,this.ino.trans h1,this.kind.trans h2,this.parent.trans h3⟩
def b1(p:Prop)[Decidable p]:Nat:=if p then 1 else 0
theorem TK{es:List B1}(hs:Ei es){name:AE}{e:B1}(h:DL es name=some e)(i:Int):Cg i (CU es name 0)+b1 (e.2=i)=Cg i es:=by
 rw[Fk,Nt (Ns hs h),Nu];rfl
theorem Q9{es:List B1}{name:AE}(h:DL es name=none){ino:Int}(h0:ino≠0)(i:Int):Cg i (CU es name ino)=Cg i es+b1 (ino=i):=by
 rw[Nt (H0 es name h0),Nu,Nr h];rfl
theorem Y6{es:List B1}(hs:Ei es){name:AE}{e:B1}(h:DL es name=some e){ino:Int}(h0:ino≠0)(i:Int):Cg i (CU es name ino)+b1 (e.2=i)=Cg i es+b1 (ino=i):=by
 rw[Nt (H0 es name h0),Nt (Ns hs h),Nu,Nu];show Cg i _+b1 (ino=i)+b1 (e.2=i)=Cg i _+b1 (e.2=i)+b1 (ino=i);omega
theorem ME{es:List B1}{name:AE}{ino:Int}{e:B1}(h:e∈CU es name ino):e∈es∨(e=(name,ino)∧ino≠0):=by
 by_cases h0:ino=0
 ·subst h0;rw[Fk]at h;exact .inl (List.mem_filter.1 h).1
 rcases List.mem_cons.1 ((H0 es name h0).mem_iff.1 h)with h|h
 ·exact .inr ⟨h,h0⟩
 exact .inl (List.mem_filter.1 h).1
theorem MF{es:List B1}{name:AE}{ino:Int}{e:B1}(h:e∈es)(hn:e.1≠name):e∈CU es name ino:=by
 have hw:e∈Ds name es:=List.mem_filter.2 ⟨h,by simpa using hn⟩;by_cases h0:ino=0
 ·subst h0;rw[Fk];exact hw
 exact(H0 es name h0).mem_iff.2 (List.mem_cons_of_mem _ hw)
theorem TL{es:List B1}{name:AE}{ino:Int}(h0:ino≠0):(name,ino)∈CU es name ino:=(H0 es name h0).mem_iff.2 (by simp)
theorem MG{p:Prop}[Decidable p](h:p):b1 p=1:=if_pos h
theorem K1{p:Prop}[Decidable p](h:¬p):b1 p=0:=if_neg h
theorem VD.cnt_next{d:Dvc}(h:VD d){i:Int}(hi:d.next≤i):Bg i d.nodes=0:=by
 apply Classical.byContradiction;intro hc;obtain⟨n,hn,e,he,rfl⟩:=MB.1 (Nat.pos_of_ne_zero hc);obtain⟨m,hm,e2⟩:=(h.ent n hn e he).2.2;have:=h.lt m hm;omega
theorem VD.make{d:Dvc}(h:VD d){n0:Nod}(hn0:n0∈d.nodes)(hk:n0.kind=2){name:AE}(hname:D4 name=true)(hnew:DL n0.entries name=none){n:Nod}(hp:EM n=true)(hlen:d.nodes.length<16)(hnx:d.next<1073741824)(hfull:n0.entries.length<12):
    VD ⟨d.next+1,BS d.nodes n0.ino name d.next++[EN n d.next n0.ino]⟩:=by
 have hnext0:d.next≠0:=by have:=h.next2;omega
 have hcnt:∀i,Bg i (BS d.nodes n0.ino name d.next++[EN n d.next n0.ino])=Bg i d.nodes+b1 (d.next=i):=by
  intro i;have h1:=MD h.asc hn0 name d.next i;rw[Q9 hnew hnext0]at h1;rw[Q3,Kl];have h2:Cg i (EN n d.next n0.ino).entries=0:=rfl;have h3:Bg i []=0:=rfl;omega
 have hmem:∀m,m∈BS d.nodes n0.ino name d.next++[EN n d.next n0.ino]→(∃n'∈d.nodes,AsWas n0.ino name d.next n' m)∨m=EN n d.next n0.ino:=by
  intro m hm;rcases List.mem_append.1 hm with hm|hm
  ·exact .inl (Dt hm)
  exact .inr (by simpa using hm)
 have hto:∀n'∈d.nodes,∃m∈BS d.nodes n0.ino name d.next++[EN n d.next n0.ino],AsWas n0.ino name d.next n' m:=fun n' hn'=>by
  obtain⟨m,hm,hw⟩:=GR n0.ino name d.next hn';exact⟨m,List.mem_append_left _ hm,hw⟩
 have hold:∀{n' m:Nod} {e:B1},AsWas n0.ino name d.next n' m→n'∈d.nodes→e∈n'.entries→e∈m.entries:=by
  intro n' m e hw hn' he;rw[hw.ents];split
  ·rename_i heq;obtain rfl:=Cy h.asc hn' hn0 heq;exact MF he (MA hnew e he)
  exact he
 refine⟨?_,?_,?_,?_,?_,?_,?_,?_,?_,?_,?_,?_,?_,?_,?_⟩
 ·show(BS d.nodes n0.ino name d.next++[EN n d.next n0.ino]).length≤16;rw[List.length_append,Q7];simp;omega
 ·show 2≤d.next+1;have:=h.next2;omega
 ·show d.next+1≤1073741824;omega
 ·obtain⟨r,rest,hr,h1⟩:=Q8 n0.ino name d.next h.root;exact⟨r,rest++[EN n d.next n0.ino],by show _++_=_;rw[hr];rfl,h1⟩
 ·refine List.pairwise_append.2 ⟨Km h.asc _ _ _,by simp,fun a ha b hb=>?_⟩;obtain⟨n',hn',hw⟩:=Dt ha;simp at hb;subst hb;have:=h.lt n' hn';rw[hw.ino];exact this
 ·intro m hm;show m.ino<d.next+1;rcases hmem m hm with⟨n',hn',hw⟩|rfl
  ·have:=h.lt n' hn';rw[hw.ino];omega
  show d.next<d.next+1;omega
 ·intro m hm;rcases hmem m hm with⟨n',hn',hw⟩|rfl
  ·rw[hw.plain];exact h.plain n' hn'
  exact hp
 ·intro m hm hk';rcases hmem m hm with⟨n',hn',hw⟩|rfl
  ·rw[hw.kind]at hk';obtain⟨h1,h2⟩:=h.leaf n' hn' hk';refine⟨hw.parent.trans h1,?_⟩;rw[hw.ents,if_neg,h2];intro e;obtain rfl:=Cy h.asc hn' hn0 e;exact hk' hk
  exact⟨if_neg hk',rfl⟩
 ·intro m hm;rcases hmem m hm with⟨n',hn',hw⟩|rfl
  ·rw[hw.ents];split
   ·rename_i heq;obtain rfl:=Cy h.asc hn' hn0 heq;rw[(H0 _ name hnext0).length_eq,List.length_cons,Nr hnew];omega
   exact h.many n' hn'
  exact BJ _
 ·intro m hm;rcases hmem m hm with⟨n',hn',hw⟩|rfl
  ·rw[hw.ents];split
   ·exact Kk (h.sorted n' hn') _ _
   exact h.sorted n' hn'
  exact List.Pairwise.nil
 ·intro m hm e he;rcases hmem m hm with⟨n',hn',hw⟩|rfl
  ·have key:(e∈n'.entries)∨e=(name,d.next):=by
      rw[hw.ents]at he;split at he
      ·rcases ME he with h1|h1
       ·exact .inl h1
       exact .inr h1.1
      exact .inl he
   rcases key with h1|rfl
   ·obtain⟨k1,k2,q,hq,k3⟩:=h.ent n' hn' e h1;obtain⟨m',hm',hw'⟩:=hto q hq;exact⟨k1,k2,m',hm',hw'.ino.trans k3⟩
   exact⟨hname,by show d.next≠1;have:=h.next2;omega,EN n d.next n0.ino,by simp,rfl⟩
  cases he
 ·intro m hm h1;rw[hcnt];rcases hmem m hm with⟨n',hn',hw⟩|rfl
  ·have:=h.link n' hn' (by rw[←hw.ino];exact h1);rw[hw.ino];omega
  have:b1 (d.next=(EN n d.next n0.ino).ino)=1:=MG rfl;omega
 ·intro m hm h1 h2;rw[hcnt];rcases hmem m hm with⟨n',hn',hw⟩|rfl
  ·have:=h.one n' hn' (by rw[←hw.ino];exact h1) (by rw[←hw.kind];exact h2);rw[hw.ino,this,K1 (by have:=h.lt n' hn';omega)]
  have e1:b1 (d.next=(EN n d.next n0.ino).ino)=1:=MG rfl;have e2:Bg (EN n d.next n0.ino).ino d.nodes=0:=h.cnt_next (Int.le_refl _);omega
 ·intro m hm h1 h2;rcases hmem m hm with⟨n',hn',hw⟩|rfl
  ·obtain⟨p,hp',k1,e,he,k2⟩:=h.par n' hn' (by rw[←hw.ino];exact h1) (by rw[←hw.kind];exact h2);obtain⟨q,hq,hwq⟩:=hto p hp';exact⟨q,hq,by rw[hwq.ino,hw.parent];exact k1,e,hold hwq hp' he,by rw[hw.ino];exact k2⟩
  obtain⟨q,hq,hwq⟩:=hto n0 hn0;refine⟨q,hq,?_,(name,d.next),?_,rfl⟩
  ·rw[hwq.ino];exact(if_pos h2).symm
  rw[hwq.ents,if_pos rfl];exact TL hnext0
 obtain⟨rk,hrk⟩:=h.rank;refine⟨fun i=>if i=d.next then rk n0.ino+1 else rk i,?_⟩;intro m hm h1 h2;rcases hmem m hm with⟨n',hn',hw⟩|rfl
 ·have hlt:=h.lt n' hn';have h1':n'.ino≠1:=by rw[←hw.ino];exact h1
  have h2':n'.kind=2:=by rw[←hw.kind];exact h2
  obtain⟨p,hp',k1,_⟩:=h.par n' hn' h1' h2';have hlp:=h.lt p hp';simp only;rw[hw.ino,hw.parent,if_neg (by omega),if_neg (by omega)];exact hrk n' hn' h1' h2'
 have e1:(EN n d.next n0.ino).parent=n0.ino:=if_pos h2;have e2:(EN n d.next n0.ino).ino=d.next:=rfl;have hl:=h.lt n0 hn0;simp only;rw[e1,e2,if_pos rfl,if_neg (by omega)];omega
theorem VD.linked{d:Dvc}(h:VD d){n0 a:Nod}(hn0:n0∈d.nodes)(hk:n0.kind=2)(ha:a∈d.nodes)(hka:a.kind≠2){name:AE}(hname:D4 name=true)(hnew:DL n0.entries name=none)(hfull:n0.entries.length<12):
    VD ⟨d.next,BS d.nodes n0.ino name a.ino⟩:=by
 have ha0:a.ino≠0:=by have:=h.pos ha;omega
 have ha1:a.ino≠1:=fun e=>hka (h.isRoot ha e).1
 have hcnt:∀i,Bg i (BS d.nodes n0.ino name a.ino)=Bg i d.nodes+b1 (a.ino=i):=by
  intro i;have h1:=MD h.asc hn0 name a.ino i;rw[Q9 hnew ha0]at h1;omega
 have hto:=fun n' (hn':n'∈d.nodes)=>GR n0.ino name a.ino hn'
 have hold:∀{n' m:Nod} {e:B1},AsWas n0.ino name a.ino n' m→n'∈d.nodes→e∈n'.entries→e∈m.entries:=by
  intro n' m e hw hn' he;rw[hw.ents];split
  ·rename_i heq;obtain rfl:=Cy h.asc hn' hn0 heq;exact MF he (MA hnew e he)
  exact he
 refine⟨by rw[Q7];exact h.len,h.next2,h.nextM,Q8 _ _ _ h.root,Km h.asc _ _ _,?_,?_,?_,?_,?_,?_,?_,?_,?_,?_⟩
 ·intro m hm;obtain⟨n',hn',hw⟩:=Dt hm;rw[hw.ino];exact h.lt n' hn'
 ·intro m hm;obtain⟨n',hn',hw⟩:=Dt hm;rw[hw.plain];exact h.plain n' hn'
 ·intro m hm hk';obtain⟨n',hn',hw⟩:=Dt hm;rw[hw.kind]at hk';obtain⟨h1,h2⟩:=h.leaf n' hn' hk';refine⟨hw.parent.trans h1,?_⟩;rw[hw.ents,if_neg,h2];intro e;obtain rfl:=Cy h.asc hn' hn0 e;exact hk' hk
 ·intro m hm;obtain⟨n',hn',hw⟩:=Dt hm;rw[hw.ents];split
  ·rename_i heq;obtain rfl:=Cy h.asc hn' hn0 heq;rw[(H0 _ name ha0).length_eq,List.length_cons,Nr hnew];omega
  exact h.many n' hn'
 ·intro m hm;obtain⟨n',hn',hw⟩:=Dt hm;rw[hw.ents];split
  ·exact Kk (h.sorted n' hn') _ _
  exact h.sorted n' hn'
 ·intro m hm e he;obtain⟨n',hn',hw⟩:=Dt hm
  have key:(e∈n'.entries)∨e=(name,a.ino):=by
   rw[hw.ents]at he;split at he
   ·rcases ME he with h1|h1
    ·exact .inl h1
    exact .inr h1.1
   exact .inl he
  rcases key with h1|rfl
  ·obtain⟨k1,k2,q,hq,k3⟩:=h.ent n' hn' e h1;obtain⟨m',hm',hw'⟩:=hto q hq;exact⟨k1,k2,m',hm',hw'.ino.trans k3⟩
  obtain⟨m',hm',hw'⟩:=hto a ha;exact⟨hname,ha1,m',hm',hw'.ino⟩
 ·intro m hm h1;obtain⟨n',hn',hw⟩:=Dt hm;rw[hcnt,hw.ino];have:=h.link n' hn' (by rw[←hw.ino];exact h1);omega
 ·intro m hm h1 h2;obtain⟨n',hn',hw⟩:=Dt hm;rw[hcnt,hw.ino,h.one n' hn' (by rw[←hw.ino];exact h1) (by rw[←hw.kind];exact h2),K1];intro e;obtain rfl:=Cy h.asc hn' ha e.symm;exact hka (by rw[←hw.kind];exact h2)
 ·intro m hm h1 h2;obtain⟨n',hn',hw⟩:=Dt hm;obtain⟨p,hp',k1,e,he,k2⟩:=h.par n' hn' (by rw[←hw.ino];exact h1) (by rw[←hw.kind];exact h2);obtain⟨q,hq,hwq⟩:=hto p hp';exact⟨q,hq,by rw[hwq.ino,hw.parent];exact k1,e,hold hwq hp' he,by rw[hw.ino];exact k2⟩
 obtain⟨rk,hrk⟩:=h.rank;refine⟨rk,fun m hm h1 h2=>?_⟩;obtain⟨n',hn',hw⟩:=Dt hm;rw[hw.ino,hw.parent];exact hrk n' hn' (by rw[←hw.ino];exact h1) (by rw[←hw.kind];exact h2)
def EZ(mode uid gid:Int)(n:Nod):Nod:={n with mode:=mode,uid:=uid,gid:=gid}
theorem VD.attrs{d:Dvc}(h:VD d){n0:Nod}(hn0:n0∈d.nodes)(mode uid gid:Int)(hp:EM (EZ mode uid gid n0)=true):VD ⟨d.next,CZ d.nodes n0.ino (EZ mode uid gid)⟩:=by
 have hsame:∀n:Nod,(if n.ino=n0.ino then EZ mode uid gid n else n).ino=n.ino∧(if n.ino=n0.ino then EZ mode uid gid n else n).kind=n.kind∧(if n.ino=n0.ino then EZ mode uid gid n else n).parent=n.parent∧(if n.ino=n0.ino then EZ mode uid gid n else n).entries=n.entries:=by
  intro n;split<;>exact⟨rfl,rfl,rfl,rfl⟩
 have hcnt:∀i,Bg i (CZ d.nodes n0.ino (EZ mode uid gid))=Bg i d.nodes:=by
  intro i;have h1:Bg i (CZ d.nodes n0.ino (EZ mode uid gid))+Cg i n0.entries=Bg i d.nodes+Cg i n0.entries:=Q5 h.asc hn0 (EZ mode uid gid) i;omega
 have hto:∀n∈d.nodes,∃m∈CZ d.nodes n0.ino (EZ mode uid gid),m.ino=n.ino∧m.kind=n.kind∧m.parent=n.parent∧m.entries=n.entries:=fun n hn=>⟨_,Fl.2 ⟨n,hn,rfl⟩,hsame n⟩;refine⟨by simpa[CZ]using h.len,h.next2,h.nextM,?_,TJ h.asc _ (fun _=>rfl),?_,?_,?_,?_,?_,?_,?_,?_,?_,?_⟩
 ·obtain⟨r,rest,hr,h1,h2,h3⟩:=h.root;obtain⟨s1,s2,s3,_⟩:=hsame r;refine⟨_,_,by show CZ d.nodes _ _=_;rw[hr];rfl,s1.trans h1,s2.trans h2,s3.trans h3⟩
 ·intro m hm;obtain⟨n,hn,rfl⟩:=Fl.1 hm;rw[(hsame n).1];exact h.lt n hn
 ·intro m hm;obtain⟨n,hn,rfl⟩:=Fl.1 hm;split
  ·rename_i e;obtain rfl:=Cy h.asc hn hn0 e;exact hp
  exact h.plain n hn
 ·intro m hm hk;obtain⟨n,hn,rfl⟩:=Fl.1 hm;obtain⟨s1,s2,s3,s4⟩:=hsame n;rw[s2]at hk;rw[s3,s4];exact h.leaf n hn hk
 ·intro m hm;obtain⟨n,hn,rfl⟩:=Fl.1 hm;rw[(hsame n).2.2.2];exact h.many n hn
 ·intro m hm;obtain⟨n,hn,rfl⟩:=Fl.1 hm;rw[(hsame n).2.2.2];exact h.sorted n hn
 ·intro m hm e he;obtain⟨n,hn,rfl⟩:=Fl.1 hm;rw[(hsame n).2.2.2]at he;obtain⟨k1,k2,q,hq,k3⟩:=h.ent n hn e he;obtain⟨m',hm',s1,_⟩:=hto q hq;exact⟨k1,k2,m',hm',s1.trans k3⟩
 ·intro m hm h1;obtain⟨n,hn,rfl⟩:=Fl.1 hm;rw[(hsame n).1]at h1 ⊢;rw[hcnt];exact h.link n hn h1
 ·intro m hm h1 h2;obtain⟨n,hn,rfl⟩:=Fl.1 hm;rw[(hsame n).1]at h1 ⊢;rw[(hsame n).2.1]at h2;rw[hcnt];exact h.one n hn h1 h2
 ·intro m hm h1 h2;obtain⟨n,hn,rfl⟩:=Fl.1 hm;obtain⟨s1,s2,s3,s4⟩:=hsame n;rw[s1]at h1 ⊢;rw[s2]at h2;rw[s3];obtain⟨p,hp',k1,e,he,k2⟩:=h.par n hn h1 h2;obtain⟨q,hq,t1,_,_,t4⟩:=hto p hp';exact⟨q,hq,t1.trans k1,e,by rw[t4];exact he,k2⟩
 obtain⟨rk,hrk⟩:=h.rank;refine⟨rk,fun m hm h1 h2=>?_⟩;obtain⟨n,hn,rfl⟩:=Fl.1 hm;obtain⟨s1,s2,s3,s4⟩:=hsame n;rw[s1]at h1 ⊢;rw[s2]at h2;rw[s3];exact hrk n hn h1 h2
end Go.Proofs.YtobclmbkdhbnpaaGreatDoor
namespace Go.Proofs.YtobclmbkdhbnpaaGreatDoor
def Bx(ns:List Nod)(i:Int):List Nod:=ns.filter fun m=>decide (m.ino≠i∨0<Bg i ns)
theorem K4{ns:List Nod}{i:Int}{m:Nod}:m∈Bx ns i↔m∈ns∧(m.ino≠i∨0<Bg i ns):=by
 unfold Bx;rw[List.mem_filter,decide_eq_true_iff]
theorem TM{ns:List Nod}{p:Nod→Bool}(h:∀m∈ns,p m=false→m.entries=[])(i:Int):Bg i (ns.filter p)=Bg i ns:=by
 induction ns with
 |nil=>rfl
 |cons x r ih=>
   rw[List.filter_cons];have ih':=ih fun m hm=>h m (by simp[hm])
   cases hp:p x with
   |true=>simp only[if_true];rw[Kl,Kl,ih']
   |false=>
     simp only[Bool.false_eq_true,if_false];rw[Kl,h x (by simp) hp,ih'];simp[Cg]
theorem Nv{es:List B1}(hs:Ei es){a b:B1}(ha:a∈es)(hb:b∈es)(e:a.1=b.1):a=b:=by
 induction es with
 |nil=>cases ha
 |cons x r ih=>
   obtain⟨h1,h2⟩:=List.pairwise_cons.1 hs;rcases List.mem_cons.1 ha with rfl|ha
   ·rcases List.mem_cons.1 hb with rfl|hb
    ·rfl
    exact absurd e (Kj (h1 b hb))
   rcases List.mem_cons.1 hb with hb|hb
   ·subst hb;exact absurd e.symm (Kj (h1 a (by assumption)))
   exact ih h2 (by assumption) hb
theorem VD.removed{d:Dvc}(h:VD d){n0 a:Nod}(hn0:n0∈d.nodes)(ha:a∈d.nodes)(hae:a.entries=[]){name:AE}{e0:B1}(he0:DL n0.entries name=some e0)(hea:e0.2=a.ino):
    VD ⟨d.next,Bx (BS d.nodes n0.ino name 0) a.ino⟩:=by
 obtain⟨hem,hen⟩:=FO he0;have ha1:a.ino≠1:=by rw[←hea];exact(h.ent n0 hn0 e0 hem).2.1
 have hk:n0.kind=2:=h.dirOf hn0 hem
 have hna:n0.ino≠a.ino:=fun e=>by
  obtain rfl:=Cy h.asc hn0 ha e;rw[hae]at hem;cases hem
 have hcnt1:∀i,Bg i (BS d.nodes n0.ino name 0)+b1 (a.ino=i)=Bg i d.nodes:=by
  intro i;have h1:=MD h.asc hn0 name 0 i;have h2:=TK (h.sorted n0 hn0) he0 i;rw[hea]at h2;omega
 have hcnt:∀i,Bg i (Bx (BS d.nodes n0.ino name 0) a.ino)=Bg i (BS d.nodes n0.ino name 0):=by
  refine fun i=>TM (fun m hm hp=>?_) i;have hp':=of_decide_eq_false hp;obtain⟨n',hn',hw⟩:=Dt hm;have hmi:m.ino=a.ino:=Classical.byContradiction fun h=>hp' (.inl h);obtain rfl:=Cy h.asc hn' ha (hw.ino.symm.trans hmi);rw[hw.ents,if_neg (fun e=>hna e.symm),hae]
 have hkeep:∀{m:Nod},m∈BS d.nodes n0.ino name 0→(m.ino=a.ino→0<Bg a.ino (BS d.nodes n0.ino name 0))→m∈Bx (BS d.nodes n0.ino name 0) a.ino:=by
  intro m hm hc;refine K4.2 ⟨hm,?_⟩;by_cases e:m.ino=a.ino
  ·exact .inr (hc e)
  exact .inl e
 have hfrom:∀{m:Nod},m∈Bx (BS d.nodes n0.ino name 0) a.ino→(∃n'∈d.nodes,AsWas n0.ino name 0 n' m)∧m∈BS d.nodes n0.ino name 0∧(m.ino≠a.ino∨0<Bg a.ino (BS d.nodes n0.ino name 0)):=by
  intro m hm;obtain⟨h1,h2⟩:=K4.1 hm;exact⟨Dt h1,h1,h2⟩
 have hsub:∀{n' m:Nod} {e:B1},AsWas n0.ino name 0 n' m→e∈m.entries→e∈n'.entries:=by
  intro n' m e hw he;rw[hw.ents]at he;split at he
  ·rcases ME he with h1|h1
   ·exact h1
   exact absurd rfl h1.2
  exact he
 refine⟨?_,h.next2,h.nextM,?_,?_,?_,?_,?_,?_,?_,?_,?_,?_,?_,?_⟩
 ·have h1:(Bx (BS d.nodes n0.ino name 0) a.ino).length≤(BS d.nodes n0.ino name 0).length:=List.length_filter_le _ _;rw[Q7]at h1;exact Nat.le_trans h1 h.len
 ·obtain⟨r,rest,hr,h1,h2,h3⟩:=Q8 n0.ino name 0 h.root;refine⟨r,rest.filter fun m=>decide (m.ino≠a.ino∨0<Bg a.ino (BS d.nodes n0.ino name 0)),?_,h1,h2,h3⟩;show Bx (BS d.nodes n0.ino name 0) a.ino=_;unfold Bx
  conv=>lhs;rw[hr]
  rw[List.filter_cons,if_pos (decide_eq_true (.inl (by rw[h1];exact fun e=>ha1 e.symm))),hr]
 ·exact List.Pairwise.filter _ (Km h.asc _ _ _)
 ·intro m hm;obtain⟨⟨n',hn',hw⟩,_⟩:=hfrom hm;rw[hw.ino];exact h.lt n' hn'
 ·intro m hm;obtain⟨⟨n',hn',hw⟩,_⟩:=hfrom hm;rw[hw.plain];exact h.plain n' hn'
 ·intro m hm hk';obtain⟨⟨n',hn',hw⟩,_⟩:=hfrom hm;rw[hw.kind]at hk';obtain⟨h1,h2⟩:=h.leaf n' hn' hk';refine⟨hw.parent.trans h1,?_⟩;rw[hw.ents,if_neg,h2];intro e;obtain rfl:=Cy h.asc hn' hn0 e;exact hk' hk
 ·intro m hm;obtain⟨⟨n',hn',hw⟩,_⟩:=hfrom hm;rw[hw.ents];split
  ·rw[Fk];exact Nat.le_trans (List.length_filter_le _ _) (h.many n' hn')
  exact h.many n' hn'
 ·intro m hm;obtain⟨⟨n',hn',hw⟩,_⟩:=hfrom hm;rw[hw.ents];split
  ·exact Kk (h.sorted n' hn') _ _
  exact h.sorted n' hn'
 ·intro m hm e he;obtain⟨⟨n',hn',hw⟩,hm1,_⟩:=hfrom hm;obtain⟨k1,k2,q,hq,k3⟩:=h.ent n' hn' e (hsub hw he);obtain⟨m',hm',hw'⟩:=GR n0.ino name 0 hq;refine⟨k1,k2,m',hkeep hm' (fun e1=>MB.2 ⟨m,hm1,e,he,?_⟩),hw'.ino.trans k3⟩;rw[←k3,←hw'.ino,e1]
 ·intro m hm h1;rw[hcnt];obtain⟨⟨n',hn',hw⟩,_,h2⟩:=hfrom hm;have h3:=hcnt1 m.ino;by_cases e:m.ino=a.ino
  ·rw[e]at h2 ⊢;rcases h2 with h2|h2
   ·exact absurd rfl h2
   exact h2
  rw[K1 (fun h=>e h.symm)]at h3;have:=h.link n' hn' (by rw[←hw.ino];exact h1);rw[←hw.ino]at this;omega
 ·intro m hm h1 h4;rw[hcnt];obtain⟨⟨n',hn',hw⟩,_,h2⟩:=hfrom hm;have h3:=hcnt1 m.ino;have h5:=h.one n' hn' (by rw[←hw.ino];exact h1) (by rw[←hw.kind];exact h4);rw[←hw.ino]at h5;by_cases e:m.ino=a.ino
  ·exfalso;rw[MG e.symm]at h3;rcases h2 with h2|h2
   ·exact h2 e
   rw[←e]at h2;omega
  rw[K1 (fun h=>e h.symm)]at h3;omega
 ·intro m hm h1 h4;obtain⟨⟨n',hn',hw⟩,_,h2⟩:=hfrom hm;obtain⟨p,hp',k1,e,he,k2⟩:=h.par n' hn' (by rw[←hw.ino];exact h1) (by rw[←hw.kind];exact h4);obtain⟨q,hq,hwq⟩:=GR n0.ino name 0 hp'
  have hpa:p.ino≠a.ino:=fun e'=>by
   obtain rfl:=Cy h.asc hp' ha e';rw[hae]at he;cases he
  have hna':n'.ino≠a.ino:=fun e'=>by
   have h3:=hcnt1 m.ino;have h5:=h.one n' hn' (by rw[←hw.ino];exact h1) (by rw[←hw.kind];exact h4);rw[←hw.ino]at h5 e';rw[MG e'.symm]at h3;rcases h2 with h2|h2
   ·exact h2 e'
   rw[←e']at h2;omega
  refine⟨q,hkeep hq (fun e'=>absurd (hwq.ino.symm.trans e') hpa),by rw[hwq.ino,hw.parent];exact k1,e,?_,by rw[hw.ino];exact k2⟩;rw[hwq.ents];split
  ·rename_i heq;obtain rfl:=Cy h.asc hp' hn0 heq;refine MF he fun hnm=>?_;have:=Nv (h.sorted p hp') he hem (hnm.trans hen.symm);rw[this,hea]at k2;exact hna' k2.symm
  exact he
 obtain⟨rk,hrk⟩:=h.rank;refine⟨rk,fun m hm h1 h2=>?_⟩;obtain⟨⟨n',hn',hw⟩,_⟩:=hfrom hm;rw[hw.ino,hw.parent];exact hrk n' hn' (by rw[←hw.ino];exact h1) (by rw[←hw.kind];exact h2)
end Go.Proofs.YtobclmbkdhbnpaaGreatDoor
