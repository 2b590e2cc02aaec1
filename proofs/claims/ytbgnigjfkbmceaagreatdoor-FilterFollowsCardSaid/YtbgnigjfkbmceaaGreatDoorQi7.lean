/-
  Part 7 of the proof of FilterFollowsP: what the statement's proof uses of the texts in wip/tpl.
-/
import Derived.Lib.Strings
import Derived.Lib.IndexLaws
import Derived.Lib.LastIndexByte
import Derived.Lib.IndexAny
import Derived.Lib.Hide
import Derived.Test.YtbgnigjfkbmceaaGreatDoorProg
import Derived.WalkKit
import Derived.WalkSpells
import Derived.WalkLawsBesides
import Derived.Deep.QuietTactic
import Derived.BigQuiet
import Derived.Outline
import Derived.RangeFuncNested
import Derived.RangeFuncBound
import Derived.RangeFuncCalls
import Derived.RangeFuncLeaves
import Derived.Shelf.Abstract
import Derived.Shelf.RegionOpen
import Derived.OwnWalkIn
import Derived.TacticsInMore
import Derived.LoopNIn
import Derived.LoopIn
import Derived.WalkMore
import Derived.Test.YtbgnigjfkbmceaaGreatDoorQi6
open Go.Proofs.Tryz (prog)
set_option maxRecDepth 10000
set_option maxHeartbeats 4000000
set_option linter.unusedVariables false
set_option linter.unusedSimpArgs false
namespace Go.Proofs.YtbgnigjfkbmceaaGreatDoor
open Go.RowKit
section
variable {St:Nat→Nat→Prop}{w:World}(hst:∀b o,St b o→b<w.heap.size)
include hst
theorem TU{α:Type}{sz:Nat}{enc:α→List AV}{cell:α×Value→Nat→Value}{Sub:α→Value→Prop}{xs:List α}{v:Value}(hsz:0<sz)(hfew:xs.length≤1000)(h:At St w (.sl sz (xs.map enc) none) v)
    (hrow:∀x∈xs,(enc x).length=sz→∀c:Nat→Option Value,(∀j av,(enc x)[j]?=some av→∃u,c j=some u∧At St w av u)→∃u,Sub x u∧∀j,j<sz→c j=some (cell (x,u) j)):
    ∃ys:List (α×Value),ys.map (·.1)=xs∧Old.ListR sz cell w (Old.Old w) v ys∧∀y∈ys,Sub y.1 y.2:=by
 simp only[At]at h;obtain⟨_,A,cap,rfl,h2,h3,h4⟩:=h;rw[List.length_map]at h2;rcases Nat.eq_zero_or_pos xs.length with h0|h0
 ·obtain rfl:=Fg h0;exact⟨[],rfl,⟨A,cap,by simp,by simp,by simp,fun h=>absurd h (by simp)⟩,by simp⟩
 obtain⟨b,off,rfl,h6⟩:=h4.resolve_left (fun e=>by simp at e;subst e;simp at h0)
 have each:∀i (hi:i<xs.length),∃u,Sub xs[i] u∧∀j,j<sz→w.cell? ⟨b,off+i * sz+j,none⟩=some (cell (xs[i],u) j):=by
  intro i hi;have hr:(xs.map enc)[i]?=some (enc xs[i]):=by simp[hi]
  obtain⟨k1,k2⟩:=N4 h6 hr
  exact hrow _ (List.getElem_mem hi) k1 _ fun j av hj=>by
   obtain⟨_,u,q1,_,q2⟩:=Ow k2 hj;exact⟨u,q1,q2⟩
 let g:Fin xs.length→α×Value:=fun i=>(xs[i.1],(each i.1 i.2).choose);have hg:∀i (hi:i<xs.length),(List.ofFn g)[i]?=some (xs[i],(each i hi).choose):=fun i hi=>by simp[g,hi]
 have hlen:(List.ofFn g).length=xs.length:=by simp
 have hbs:b<w.heap.size:=by
  obtain⟨k1,k2⟩:=N4 h6 (i:=0) (r:=enc xs[0]) (by simp[h0]);have:(enc xs[0])[0]?=some (enc xs[0])[0]:=B3 (by omega);exact hst _ _ (Ow k2 this).1
 refine⟨List.ofFn g,?_,⟨_,cap,by rw[List.length_map,hlen],by rw[hlen];exact h2,by rw[hlen];unfold Old.few;omega,fun _=>⟨b,off,rfl,hbs,fun i y j hi hj=>?_⟩⟩,fun y hy=>?_⟩
 ·apply List.ext_getElem?;intro i;rcases Nat.lt_or_ge i xs.length with hi|hi
  ·rw[List.getElem?_map,hg i hi];simp[hi]
  rw[List.getElem?_eq_none (by simpa using hi),List.getElem?_eq_none hi]
 ·have hil:i<xs.length:=by rw[←hlen];exact(Af.1 hi).1
  rw[hg i hil]at hi;injection hi with hi;subst hi;exact(each i hil).choose_spec.2 j hj
 obtain⟨i,hi⟩:=List.getElem?_of_mem hy;have hil:i<xs.length:=by rw[←hlen];exact(Af.1 hi).1
 rw[hg i hil]at hi;injection hi with hi;subst hi;exact(each i hil).choose_spec.1
theorem gG{es:List BQ}{v:Value}(hfew:es.length≤1000)(h:At St w (.sl 2 (es.map DO) none) v):Old.EntsR w (Old.Old w) v es:=by
 obtain⟨ys,h1,⟨A,c,h2,h3,h4,h5⟩,_⟩:=TU hst (cell:=fun y:BQ×Value=>Old.entCell y.1) (Sub:=fun _ _=>True) (by omega) hfew h (fun x _ _ c hc=>⟨.bool true,trivial,fun j hj=>by
  match j,hj with
  |0,_=>obtain⟨u,q1,q2⟩:=hc 0 _ rfl;simp only[At]at q2;rw[q1,q2];rfl
  |1,_=>obtain⟨u,q1,q2⟩:=hc 1 _ rfl;simp only[At]at q2;rw[q1,q2];rfl⟩)
 subst h1;refine⟨A,c,by rw[h2,List.length_map],by simpa using h3,by simpa using h4,fun hn=>?_⟩;obtain⟨b,off,e1,e2,e3⟩:=h5 (by simpa using hn);refine⟨b,off,e1,e2,fun i x j hi hj=>?_⟩;rw[List.getElem?_map]at hi
 cases hy:ys[i]? with
 |none=>rw[hy]at hi;cases hi
 |some y=>
   rw[hy]at hi;injection hi with hi;subst hi;exact e3 i y j hy hj
theorem gH{ns:List Nod}{v:Value}(hfew:ns.length≤1000)(he:∀n∈ns,n.entries.length≤1000)(h:At St w (.sl 8 (ns.map Ac) none) v):Old.NodsR w (Old.Old w) v ns:=
 TU hst (cell:=Old.nodCell) (Sub:=fun n u=>Old.EntsR w (Old.Old w) u n.entries) (by omega) hfew h (fun x hx _ c hc=>by
  obtain⟨u0,p0,q0⟩:=hc 0 _ rfl;obtain⟨u1,p1,q1⟩:=hc 1 _ rfl;obtain⟨u2,p2,q2⟩:=hc 2 _ rfl;obtain⟨u3,p3,q3⟩:=hc 3 _ rfl;obtain⟨u4,p4,q4⟩:=hc 4 _ rfl;obtain⟨u5,p5,q5⟩:=hc 5 _ rfl;obtain⟨u6,p6,q6⟩:=hc 6 _ rfl;obtain⟨u7,p7,q7⟩:=hc 7 _ rfl;have q7':=gG hst (he x hx) q7;simp only[At]at q0 q1 q2 q3 q4 q5 q6;subst q0 q1 q2 q3 q4 q5 q6;refine⟨u7,q7',fun j hj=>?_⟩
  match j,hj with
  |0,_=>exact p0
  |1,_=>exact p1
  |2,_=>exact p2
  |3,_=>exact p3
  |4,_=>exact p4
  |5,_=>exact p5
  |6,_=>exact p6
  |7,_=>exact p7)
theorem Wy{f:AR}(hf:FlsB f){v:Value}(h:At St w (.agg (Ao f)) v):Old.FlsR w (Old.Old w) v f:=by
 simp only[At,Ao,Bf]at h;obtain⟨ys,rfl,z,zs,rfl,h,rfl⟩:=h;have h':At St w (.sl 2 (f.map Cd) none) z:=by simp only[At];exact h
 refine⟨z,rfl,TU hst (cell:=Old.dvcCell) (Sub:=fun d u=>Old.NodsR w (Old.Old w) u d.nodes) (by omega) hf.few h' (fun x hx _ c hc=>?_)⟩;obtain⟨u0,p0,q0⟩:=hc 0 _ rfl;obtain⟨u1,p1,q1⟩:=hc 1 _ rfl;have q1':=gH hst (hf.nodes x hx) (hf.ents x hx) q1;simp only[At]at q0;subst q0;refine⟨u1,q1',fun j hj=>?_⟩
 match j,hj with
 |0,_=>exact p0
 |1,_=>exact p1
end
theorem PN{α:Type}{sz:Nat}{cell:α→Nat→Value}{E:TypeId}{w:World}{base:Nat}{v:Value}{xs:List α}(h:Old.OwnL sz cell E w base v xs){St:Nat→Nat→Prop}(hst:∀b,v.ownBlock=some b→∀o,St b o){enc:α→List AV}(hlen:∀x∈xs,(enc x).length=sz)
    (hx:∀x∈xs,∀j av,(enc x)[j]?=some av→At St w av (cell x j)):At St w (.sl sz (xs.map enc) none) v:=by
 simp only[At,true_and];obtain⟨⟨h0,h1⟩,h2⟩:=h;rcases h1 with⟨rfl,hn⟩|⟨g,cap,cur,rfl,hb,hg,hnc,hcm,hcs,htk⟩
 ·exact⟨none,0,by rw[List.length_map,hn],by rw[List.length_map,hn];exact B6 _,BK _, .inl (by rw[Fg hn];rfl)⟩
 refine⟨_,cap,by rw[List.length_map],by rw[List.length_map];exact hnc,hcm, .inr ⟨g,0,rfl,Q9 fun i r hi=>?_⟩⟩;rw[List.getElem?_map]at hi
 cases hy:xs[i]? with
 |none=>rw[hy]at hi;cases hi
 |some x=>
   rw[hy]at hi;injection hi with hi;subst hi;have hm:=Ag hy;refine⟨hlen x hm,Ox fun j av hj=>?_⟩;have hjl:j<sz:=by rw[←hlen x hm];exact(Af.1 hj).1
   have hil:=(Af.1 hy).1
   have hlt:i * sz+j<xs.length * sz:=by
    have h2:(i+1) * sz≤xs.length * sz:=Nat.mul_le_mul_right sz hil;rw[Nat.add_mul]at h2;omega
   have hc:cur.toList[i * sz+j]?=some (cell x j):=by
    rw[←Old.flat_get xs i j x hy hjl,←htk,List.getElem?_take,if_pos hlt]
   refine⟨hst g rfl _,cell x j,?_,h2 g cur E rfl hg _ (Ag hc),hx x hm j av hj⟩;rw[Nat.zero_add];simp only[World.cell?,hg]
   simpa using hc
theorem Wz{α:Type}{sz:Nat}{cell:α→Nat→Value}{E:TypeId}{w:World}{base:Nat}{v:Value}{xs:List α}(h:Old.OwnL sz cell E w base v xs)(h0:0<xs.length){G:Gh}{rows:List (List AV)}(hp:0<sz)(hl:rows.length=xs.length)(hlen:∀r∈rows,r.length=sz)
    (hx:∀(i:Nat) (x:α) (r:List AV),xs[i]?=some x→rows[i]?=some r→∀j av,r[j]?=some av→rep G w av (cell x j)):
    ∃g cap,v= .slice (some ⟨g,0,none⟩) xs.length cap∧base≤g∧g<w.heap.size∧xs.length≤cap∧cap≤maxLen∧QA G w g (CZ sz cap rows):=by
 obtain⟨⟨h3,h1⟩,h2⟩:=h;rcases h1 with⟨rfl,hn⟩|⟨g,cap,cur,rfl,hb,hg,hnc,hcm,hcs,htk⟩
 ·omega
 refine⟨g,cap,rfl,hb,(Array.getElem?_eq_some_iff.1 hg).1,hnc,hcm,cur.toList,E,by simpa using hg,?_,h2 g cur E rfl hg⟩;have e:cur.toList=cur.toList.take (xs.length * sz)++cur.toList.drop (xs.length * sz):=(List.take_append_drop _ _).symm;rw[e];unfold CZ;refine PB ?_ ?_
 ·rw[htk];refine Sk (by rw[ND hlen,hl,Old.flat_length]) fun i x hi=>?_;have hii:i=i / sz * sz+i % sz:=by rw[Nat.mul_comm];exact(Nat.div_add_mod i sz).symm
  have hk:i % sz<sz:=Nat.mod_lt _ hp;rw[hii,R4 hlen hk]at hi
  cases hq:rows[i / sz]? with
  |none=>rw[hq]at hi;simp at hi
  |some r=>
    rw[hq]at hi;have hqx:i / sz<xs.length:=by rw[←hl];exact(Af.1 hq).1
    have hxx:xs[i / sz]?=some xs[i / sz]:=B3 hqx;refine⟨cell xs[i / sz] (i % sz),?_,hx _ _ r hxx hq _ _ hi⟩;have:=Old.flat_get (cell:=cell) xs (i / sz) (i % sz) _ hxx hk
    rwa [←hii]at this
 have:(cur.toList.drop (xs.length * sz)).length=(cap - rows.length) * sz:=by
  rw[List.length_drop,hl,Nat.sub_mul,←hcs];simp
 rw[←this];exact R5 _
theorem gJ{α β:Type}{f:α→List β}{l:List α}{i:Nat}{x:α}(hx:l[i]?=some x):l.flatMap f=(l.take i).flatMap f++(f x++(l.drop (i+1)).flatMap f):=by
 obtain⟨hi,rfl⟩:=Af.1 hx;rw[←List.flatMap_cons,←List.flatMap_append,←List.drop_eq_getElem_cons hi,List.take_append_drop]
def J1(f:AR)(K:Nat)(d:Dvc)(j cap1:Nat):List (List AV):=(f.map Cd).set K (Kh d j cap1)
theorem RM(f:AR)(K:Nat)(d:Dvc)(j cap1:Nat):∀r∈J1 f K d j cap1,r.length=2:=by
 intro r hr;rcases List.mem_or_eq_of_mem_set hr with h|h
 ·exact Wn _ r h
 rw[h];rfl
theorem gK(f:AR)(K:Nat)(d:Dvc)(j cap1:Nat):(J1 f K d j cap1).length=f.length:=by simp[J1]
theorem OM(f:AR)(K:Nat)(dK:Dvc)(hf:FlsB f)(hK:f[K]?=some dK)(hne:0<dK.nodes.length):
    ACall prog 182 [.agg (Ao f)] [] (fun r b t=>t=[]∧∃cap cap1,f.length≤cap∧dK.nodes.length≤cap1∧b=[CZ 2 cap (J1 f K dK 1 cap1),CZ 8 cap1 (dK.nodes.map Ac)]∧r= .agg [.bs 0 0 2 f.length cap]):=by
 intro w St bl vs hr hv;have hbl:bl=[]:=by have:=hr.bxlen;simpa using this
 subst hbl;simp only[AO]at hv;obtain⟨z,zs,rfl,hz,rfl⟩:=hv;have hz':At St w (.agg (Ao f)) z:=by have:=Jz _ _ hz;simpa[Da,F9,Ao]using this
 have hF:=Wy hr.stlt hf hz';refine Calls.mono (Old.Copy_any z f w hF) ?_;rintro e w' ⟨dv,L,rfl,hD,hL,hB⟩;have hsz:=hB.size;have hLl:L.length=f.length:=by rw[←hL];simp[Old.flsOf]
 have hKl:=(Af.1 hK).1
 obtain⟨x,hx,hxd⟩:∃x,L[K]?=some x∧Old.dvcOf x=dK:=by
  have h1:L[K]?=some L[K]:=B3 (by omega);refine⟨_,h1,?_⟩;have:=hK;rw[←hL,Old.flsOf,List.getElem?_map,h1]at this;injection this
 have hxm:=Ag hx;obtain⟨d1,d2,d3,d4⟩:=hD;obtain⟨e1,e2,e3⟩:=d2 x hxm |>.1;have hyl:0<x.2.2.length:=by rw[←hxd]at hne;simpa[Old.dvcOf]using hne
 have form:∀{α:Type} {sz:Nat} {cell:α→Nat→Value} {E:TypeId} {base:Nat} {v:Value} {xs:List α},Old.OwnL sz cell E w' base v xs→0<xs.length→∃g cap,v= .slice (some ⟨g,0,none⟩) xs.length cap:=by
  intro α sz cell E base v xs h h0;rcases h.1.2 with⟨_,hn⟩|⟨g,cap,cur,rfl,_⟩
  ·omega
  exact⟨g,cap,rfl⟩
 obtain⟨g0,cap,hdv⟩:=form d1 (by omega);obtain⟨g1,cap1,hnv⟩:=form e1 hyl;have hb0:g0∈Old.blk dv:=Old.mem_blk.2 (by rw[hdv];rfl);have hb1:g1∈Old.blk x.2.1:=Old.mem_blk.2 (by rw[hnv];rfl);have nd:=List.nodup_append.1 d3;have hin:∀y∈L,∀b∈Old.fpN y.2.1 y.2.2,b∈L.flatMap fun x=>Old.fpN x.2.1 x.2.2:=fun y hy b hb=>List.mem_flatMap.2 ⟨y,hy,hb⟩;have h01:g0≠g1:=fun e=>nd.2.2 g0 hb0 g1 (hin x hxm g1 (List.mem_append_left _ hb1)) e;let St':Nat→Nat→Prop:=fun b o=>St b o∨(w.heap.size≤b∧b<w'.heap.size∧b≠g0∧b≠g1);let G':Gh:=⟨St',[g0,g1],[]⟩
 have hfresh:∀b∈Old.fpD dv L,b≠g0→b≠g1→∀o,St' b o:=fun b hb n0 n1 o=>by
  have:=Old.DvcsAt.fp_lt (w:=w') ⟨d1,d2,d3,d4⟩ b hb;exact .inr ⟨this.1,this.2,n0,n1⟩
 -- a list of entries that lies in blocks that stay
 have hents:∀(y:Nod×Value),Old.OwnL 2 Old.entCell 234 w' w.heap.size y.2 y.1.entries→(∀b∈Old.blk y.2,∀o,St' b o)→At St' w' (.sl 2 (y.1.entries.map DO) none) y.2:=by
  intro y hy hb;refine PN hy (fun b h=>hb b (Old.mem_blk.2 h)) (fun _ _=>rfl) fun e _ j av hj=>?_
  match j,hj with
  |0,hj=>injection hj with hj;subst hj;simp only[At];rfl
  |1,hj=>injection hj with hj;subst hj;simp only[At];rfl
 have hnod:∀(y:Nod×Value),Old.OwnL 2 Old.entCell 234 w' w.heap.size y.2 y.1.entries→(∀b∈Old.blk y.2,∀o,St' b o)→∀j av,(Ac y.1)[j]?=some av→At St' w' av (Old.nodCell y j):=by
  intro y hy hb j av hj
  match j,hj with
  |0,hj=>injection hj with hj;subst hj;simp only[At];rfl
  |1,hj=>injection hj with hj;subst hj;simp only[At];rfl
  |2,hj=>injection hj with hj;subst hj;simp only[At];rfl
  |3,hj=>injection hj with hj;subst hj;simp only[At];rfl
  |4,hj=>injection hj with hj;subst hj;simp only[At];rfl
  |5,hj=>injection hj with hj;subst hj;simp only[At];rfl
  |6,hj=>injection hj with hj;subst hj;simp only[At];rfl
  |7,hj=>injection hj with hj;subst hj;exact hents y hy hb
  |j+8,hj=>exact absurd hj (by simp[Ac])
 have hne0:∀y∈L,∀b∈Old.fpN y.2.1 y.2.2,b≠g0:=fun y hy b hb e=>nd.2.2 g0 hb0 b (hin y hy b hb) e.symm
 have hfp:∀y∈L,∀b∈Old.fpN y.2.1 y.2.2,b∈Old.fpD dv L:=fun y hy b hb=>List.mem_append_right _ (hin y hy b hb)
 -- the boxes
 obtain⟨g1',cap1',q1,q2,q3,q4,q5,q6⟩:=Wz (G:=G') e1 hyl (rows:=dK.nodes.map Ac) (by omega) (by rw[←hxd];simp[Old.dvcOf]) (Mm _) (by
  intro i y r hi hri j av hj;have hnm:dK.nodes[i]?=some y.1:=by rw[←hxd,Old.dvcOf];simp[hi]
  rw[List.getElem?_map,hnm]at hri;injection hri with hri;subst hri;have hym:=Ag hi;refine Kx _ _ (hnod y (e2 y hym).1 (fun b hb=>hfresh b (hfp x hxm b (List.mem_append_right _ (List.mem_flatMap.2 ⟨y,hym,hb⟩))) (hne0 x hxm b (List.mem_append_right _ (List.mem_flatMap.2 ⟨y,hym,hb⟩))) fun e=>?_) j av hj)
  exact(List.nodup_append.1 e3).2.2 g1 hb1 b (List.mem_flatMap.2 ⟨y,hym,hb⟩) e.symm)
 rw[hnv]at q1;simp only[Value.slice.injEq,Option.some.injEq,Addr.mk.injEq,and_true,true_and]at q1;obtain⟨rfl,rfl⟩:=q1
 obtain⟨g0',cap',p1,p2,p3,p4,p5,p6⟩:=Wz (G:=G') d1 (by omega) (rows:=J1 f K dK 1 cap1) (by omega) (by rw[gK,hLl]) (RM _ _ _ _ _) (by
  intro i y r hi hri j av hj;have hfi:f[i]?=some (Old.dvcOf y):=by rw[←hL,Old.flsOf,List.getElem?_map,hi];rfl
  have hym:=Ag hi;unfold J1 at hri;by_cases hiK:K=i
  ·subst hiK;rw[hx]at hi;injection hi with hi;subst hi;rw[List.getElem?_set_self (by simp;omega)]at hri;injection hri with hri;subst hri
   match j,hj with
   |0,hj=>injection hj with hj;subst hj;simp only[rep];rw[←hxd];rfl
   |1,hj=>
     injection hj with hj;subst hj;simp only[rep];refine⟨g1,rfl,?_,?_,q5⟩
     ·show x.2.1=_;rw[hnv,←hxd];simp[Old.dvcOf]
     rw[←hxd];simpa[Old.dvcOf]using q4
   |j+2,hj=>exact absurd hj (by simp[Kh])
  rw[List.getElem?_set_ne hiK,List.getElem?_map,hfi]at hri;injection hri with hri;subst hri
  have hn1:∀b∈Old.fpN y.2.1 y.2.2,b≠g1:=by
   intro b hb e;subst e;have hd2:=nd.2.1;have hil:=(Af.1 hi).1;rw[gJ hx]at hd2;obtain⟨c1,c2,c3⟩:=List.nodup_append.1 hd2;obtain⟨c4,c5,c6⟩:=List.nodup_append.1 c2;rcases Nat.lt_or_ge i K with hlt|hge
   ·exact c3 b (List.mem_flatMap.2 ⟨y,List.mem_iff_getElem?.2 ⟨i,by rw[List.getElem?_take,if_pos hlt];exact hi⟩,hb⟩) b (List.mem_append_left _ (List.mem_append_left _ hb1)) rfl
   exact c6 b (List.mem_append_left _ hb1) b (List.mem_flatMap.2 ⟨y,List.mem_iff_getElem?.2 ⟨i - (K+1),by rw[List.getElem?_drop,show K+1+(i - (K+1))=i by omega];exact hi⟩,hb⟩) rfl
  obtain⟨f1,f2,f3⟩:=(d2 y hym).1
  match j,hj with
  |0,hj=>injection hj with hj;subst hj;simp only[rep];rfl
  |1,hj=>
    injection hj with hj;subst hj
    have key:=PN f1 (St:=St') (fun b h=>hfresh b (hfp y hym b (List.mem_append_left _ (Old.mem_blk.2 h))) (hne0 y hym b (List.mem_append_left _ (Old.mem_blk.2 h))) (hn1 b (List.mem_append_left _ (Old.mem_blk.2 h)))) (enc:=fun y=>Ac y.1) (fun _ _=>rfl) fun z hz j av hj=>
     hnod z (f2 z hz).1 (fun b hb=>hfresh b (hfp y hym b (List.mem_append_right _ (List.mem_flatMap.2 ⟨z,hz,hb⟩))) (hne0 y hym b (List.mem_append_right _ (List.mem_flatMap.2 ⟨z,hz,hb⟩))) (hn1 b (List.mem_append_right _ (List.mem_flatMap.2 ⟨z,hz,hb⟩)))) j av hj
    have e:((Old.dvcOf y).nodes.map Ac)=y.2.2.map fun y=>Ac y.1:=by simp[Old.dvcOf]
    rw[e];exact Kx _ _ key
  |j+2,hj=>exact absurd hj (by simp[Cd]))
 rw[hdv]at p1;simp only[Value.slice.injEq,Option.some.injEq,Addr.mk.injEq,and_true,true_and]at p1;obtain⟨rfl,rfl⟩:=p1;have hst:∀b o,St b o→b<w.heap.size:=hr.stlt;refine⟨.agg [.bs 0 0 2 f.length cap],_,_,G',⟨rfl,cap,cap1,by omega,by rw[←hxd];simpa[Old.dvcOf]using q4,rfl,rfl⟩,⟨?_,?_,?_,?_,rfl,?_,?_,?_,?_,rfl,?_,?_,?_⟩,⟨?_,?_,?_⟩,?_⟩
 ·intro i b hi;simp at hi
 ·exact⟨hB.os,hB.tape,hB.output,hB.size,fun k hk _=>hB.block k hk⟩
 ·rintro b o (h|h)
  ·have:=hst b o h;omega
  exact h.2.1
 ·rintro b o (h|h)
  ·exact .inl h
  exact .inr h.1
 ·show[g0,g1].Nodup
  simpa using h01
 ·rintro b hb o (h|h)
  ·have:=hst b o h;simp[G']at hb;rcases hb with rfl|rfl<;>omega
  simp[G']at hb;rcases hb with rfl|rfl
  ·exact h.2.2.1 rfl
  exact h.2.2.2 rfl
 ·intro b hb;simp[G']at hb;rcases hb with rfl|rfl
  ·exact .inl p2
  exact .inl q2
 ·intro i b row hi hrow
  match i,hi,hrow with
  |0,hi,hrow=>simp[G']at hi;simp at hrow;subst hi;subst hrow;exact p6
  |1,hi,hrow=>simp[G']at hi;simp at hrow;subst hi;subst hrow;exact q6
  |i+2,hi,_=>simp[G']at hi
 ·intro g n u T sz rows hg;simp[G']at hg
 ·intro g n u hg;simp[G']at hg
 ·intro g g' n n' u u' hg;simp[G']at hg
 ·exact fun b o h=>⟨.inl h,hB.cell (p:=⟨b,o,none⟩) (hst b o h)⟩
 ·intro i b hi;simp at hi
 ·intro g n u hg;simp at hg
 simp only[rep,AO];exact⟨[dv],rfl,dv,[],rfl,⟨g0,rfl,by rw[hdv,hLl],by omega,p5⟩,rfl⟩
theorem PO(f:Nat→Option Nat):∀xs:List AV,E5 f xs=xs.map (H8 f)
 |[]=>rfl
 |x::xs=>by simp[E5,PO f xs]
theorem RN(f:Nat→Option Nat):∀xs:List AV,JY f xs=xs.map (JG f)
 |[]=>rfl
 |x::xs=>by simp[JY,RN f xs]
theorem PP(g:Nat→Option (List AV)):∀xs:List AV,Kb g xs=xs.map (FB g)
 |[]=>rfl
 |x::xs=>by simp[Kb,PP g xs]
theorem PQ(F:AV→AV)(h:F .any= .any)(sz cap:Nat)(rows:List (List AV)):(CZ sz cap rows).map F=CZ sz cap (rows.map (·.map F)):=by
 simp[CZ,h,List.map_flatten]
theorem TV{n m:Nat}{xs:List AV}:AX n m xs=true↔∀x∈xs,AW n m x=true:=by
 induction xs with
 |nil=>simp[AX]
 |cons x xs ih=>simp[AX,ih]
theorem TW{n m sz cap:Nat}{rows:List (List AV)}(h:∀r∈rows,AX n m r=true):AX n m (CZ sz cap rows)=true:=by
 rw[TV];intro x hx;unfold CZ at hx;rcases List.mem_append.1 hx with hx|hx
 ·obtain⟨r,hr,hx⟩:=List.mem_flatten.1 hx;exact TV.1 (h r hr) x hx
 rw[(List.mem_replicate.1 hx).2];rfl
def DB(f:AR)(K:Nat)(d:Dvc)(j cap cap1:Nat):List AV:=CZ 2 cap (J1 f K d j cap1)
def NB(ns:List Nod)(cap1:Nat):List AV:=CZ 8 cap1 (ns.map Ac)
theorem Cl{n m:Nat}{f:AR}{K:Nat}{d:Dvc}{j cap cap1:Nat}(hj:j<n):AX n m (DB f K d j cap cap1)=true:=by
 refine TW fun r hr=>?_;rcases List.mem_or_eq_of_mem_set hr with h|h
 ·obtain⟨d',_,rfl⟩:=List.mem_map.1 h;rfl
 rw[h];simp[Kh,AX,AW,hj]
theorem Cm{n m:Nat}{ns:List Nod}{cap1:Nat}:AX n m (NB ns cap1)=true:=by
 refine TW fun r hr=>?_;obtain⟨d',_,rfl⟩:=List.mem_map.1 hr;rfl
section
variable {F:AV→AV}(hany:F .any= .any)(hv:∀x,F (.v x)= .v x)(hs:∀sz rows,F (.sl sz rows none)= .sl sz rows none)
include hany hv hs
theorem TX(ns:List Nod)(cap1:Nat):(NB ns cap1).map F=NB ns cap1:=by
 unfold NB;rw[PQ F hany,List.map_map]
 congr 1
 apply List.map_congr_left;intro n _;simp[Ac,hv,hs]
theorem X0(f:AR):(f.map Cd).map (·.map F)=f.map Cd:=by
 have _:=hany;rw[List.map_map];apply List.map_congr_left;intro n _;simp[Cd,hv,hs]
theorem X3(f:AR)(K:Nat)(d:Dvc){j j':Nat}(cap cap1:Nat)(hb:F (.bs j 0 8 d.nodes.length cap1)= .bs j' 0 8 d.nodes.length cap1):(DB f K d j cap cap1).map F=DB f K d j' cap cap1:=by
 unfold DB J1;rw[PQ F hany,List.map_set,X0 hany hv hs];simp[Kh,hv,hb]
theorem gL{f:AR}{K:Nat}{d:Dvc}{j cap cap1:Nat}(hK:f[K]?=some d)(hb:F (.bs j 0 8 d.nodes.length cap1)= .sl 8 (d.nodes.map Ac) none):(DB f K d j cap cap1).map F=CZ 2 cap (f.map Cd):=by
 unfold DB J1;rw[PQ F hany,List.map_set,X0 hany hv hs];have e:(Kh d j cap1).map F=Cd d:=by simp[Kh,hv,hb,Cd]
 rw[e]
 congr 1
 apply List.ext_getElem?;intro i;rw[List.getElem?_set];split
 ·rename_i e1;subst e1;obtain⟨h1,h2⟩:=Af.1 hK;simp[h1,h2]
 rfl
end
theorem KC{g:Nat→Option Nat}{j j':Nat}(h:g j=some j')(f:AR)(K:Nat)(d:Dvc)(cap cap1:Nat):E5 g (DB f K d j cap cap1)=DB f K d j' cap cap1:=by
 rw[PO];exact X3 rfl (fun _=>rfl) (fun _ _=>rfl) f K d cap cap1 (by simp[H8,h])
theorem Ji(g:Nat→Option Nat)(ns:List Nod)(cap1:Nat):E5 g (NB ns cap1)=NB ns cap1:=by
 rw[PO];exact TX rfl (fun _=>rfl) (fun _ _=>rfl) ns cap1
theorem NZ{g:Nat→Option Nat}{j j':Nat}(h:g j=some j')(f:AR)(K:Nat)(d:Dvc)(cap cap1:Nat):JY g (DB f K d j cap cap1)=DB f K d j' cap cap1:=by
 rw[RN];exact X3 rfl (fun _=>rfl) (fun _ _=>rfl) f K d cap cap1 (by simp[JG,h])
theorem M4(g:Nat→Option Nat)(ns:List Nod)(cap1:Nat):JY g (NB ns cap1)=NB ns cap1:=by
 rw[RN];exact TX rfl (fun _=>rfl) (fun _ _=>rfl) ns cap1
theorem gM(g:Nat→Option (List AV))(ns:List Nod)(cap1:Nat):Kb g (NB ns cap1)=NB ns cap1:=by
 rw[PP];exact TX rfl (fun _=>rfl) (fun _ _=>rfl) ns cap1
theorem PR{ns:List Nod}{cap1:Nat}(h:ns.length≤cap1):(NB ns cap1).length=cap1 * 8:=TH (Mm _) (by simpa using h)
theorem TY{g:Nat→Option (List AV)}{j sz n cap0 cap:Nat}{rows:List (List AV)}(hg:g j=some (CZ sz cap rows))(hr:∀r∈rows,r.length=sz)(hn:n=rows.length)(hc:rows.length≤cap):FB g (.bs j 0 sz n cap0)= .sl sz rows none:=by
 subst hn;have hl:=TH hr hc
 have hb:Nat.ble (0+rows.length * sz) (CZ sz cap rows).length=true:=by
  rw[hl,Nat.ble_eq];have:=Nat.mul_le_mul_right sz hc;omega
 simp only[FB,hg,hb,List.drop_zero];unfold CZ;rw[Vt hr]
theorem gN{n:Nat}{bx:List (List AV)}{k j:Nat}{ns:List Nod}{cap1:Nat}(hn:n≤j)(hj:bx[j]?=some (NB ns cap1)):Ec n bx (k+1) j=some (NB ns cap1):=by
 have:Nat.blt j n=false:=by rw[←Bool.not_eq_true,Nat.blt_eq];omega
 simp only[Ec,this,hj,Option.map_some,gM]
theorem gO{n:Nat}{bx:List (List AV)}{k i j:Nat}{f:AR}{K:Nat}{d:Dvc}{cap cap1:Nat}(hK:f[K]?=some d)(hc1:d.nodes.length≤cap1)(hni:n≤i)(hnj:n≤j)(hi:bx[i]?=some (DB f K d j cap cap1))(hj:bx[j]?=some (NB d.nodes cap1)):
    Ec n bx (k+2) i=some (CZ 2 cap (f.map Cd)):=by
 have:Nat.blt i n=false:=by rw[←Bool.not_eq_true,Nat.blt_eq];omega
 rw[show k+2=(k+1)+1 from rfl,Ec];simp only[this,hi,Option.map_some,PP];rw[gL rfl (fun _=>rfl) (fun _ _=>rfl) hK];exact TY (gN hnj hj) (Mm _) (by simp) (by simpa using hc1)
theorem Mo{n:Nat}{bx:List (List AV)}{k i j:Nat}{f:AR}{K:Nat}{d:Dvc}{cap cap0 cap1:Nat}(hK:f[K]?=some d)(hc:f.length≤cap)(hc1:d.nodes.length≤cap1)(hni:n≤i)(hnj:n≤j)(hi:bx[i]?=some (DB f K d j cap cap1))(hj:bx[j]?=some (NB d.nodes cap1)):
    FB (Ec n bx (k+2)) (.agg [.bs i 0 2 f.length cap0])= .agg (Ao f):=by
 show AV.agg [FB _ _]=_;unfold Ao;rw[TY (gO hK hc1 hni hnj hi hj) (Wn _) (by simp) (by simpa using hc)]
theorem PS{sz cap:Nat}{rows:List (List AV)}{q k:Nat}{r:List AV}{x:AV}(hr:∀r∈rows,r.length=sz)(hq:rows[q]?=some r)(hx:r[k]?=some x):(CZ sz cap rows)[0+q * sz+k]?=some x:=by
 have hk:k<sz:=by rw[←hr r (Ag hq)];exact(Af.1 hx).1
 have e:=R4 hr hk (q:=q);rw[hq]at e;simp only[Option.bind_some]at e;rw[hx]at e;unfold CZ;rw[Nat.zero_add,DJ (Af.1 e).1];exact e
theorem gP{sz cap:Nat}{rows:List (List AV)}{q:Nat}{r:List AV}(hr:∀r∈rows,r.length=sz)(hq:rows[q]?=some r):((CZ sz cap rows).drop (0+q * sz)).take sz=r:=by
 have hrl:=hr r (Ag hq);apply List.ext_getElem?;intro k;rw[List.getElem?_take];split
 ·rename_i hk;rw[List.getElem?_drop];have hx:r[k]?=some r[k]:=B3 (by omega);rw[PS hr hq hx,hx]
 rw[List.getElem?_eq_none (by omega)]
theorem TZ{sz cap:Nat}{rows:List (List AV)}{q k:Nat}{r r' cs:List AV}(hr:∀r∈rows,r.length=sz)(hq:rows[q]?=some r)(hs:SetAt r k cs r')(hne:cs≠[]):SetAt (CZ sz cap rows) (0+q * sz+k) cs (CZ sz cap (rows.set q r')):=by
 unfold CZ;rw[Nat.zero_add,List.length_set];exact(dC hr hq hs hne).left _
theorem Ta{f:AR}{K:Nat}{d:Dvc}{j cap1:Nat}(hK:K<f.length):(J1 f K d j cap1)[K]?=some (Kh d j cap1):=by
 unfold J1;rw[List.getElem?_set_self (by simpa using hK)]
theorem PT{f:AR}{K:Nat}{d:Dvc}{j cap cap1:Nat}(hK:K<f.length):(DB f K d j cap cap1)[0+K * 2+1]?=some (.bs j 0 8 d.nodes.length cap1):=PS (RM _ _ _ _ _) (Ta hK) rfl
theorem gQ{f:AR}{K:Nat}{d:Dvc}{j cap cap1:Nat}(hK:K<f.length):(DB f K d j cap cap1)[0+K * 2+0]?=some (.v (.int .i64 d.next)):=PS (RM _ _ _ _ _) (Ta hK) rfl
theorem RO{ns:List Nod}{cap1 i:Nat}{n:Nod}(h:ns[i]?=some n):((NB ns cap1).drop (0+i * 8)).take 8=Ac n:=gP (Mm _) (by rw[List.getElem?_map,h];rfl)
theorem X4{ns:List Nod}{cap1 i k:Nat}{n:Nod}{x:AV}(h:ns[i]?=some n)(hx:(Ac n)[k]?=some x):(NB ns cap1)[0+i * 8+k]?=some x:=PS (Mm _) (by rw[List.getElem?_map,h];rfl) hx
theorem Tc{ns:List Nod}{cap1 i k:Nat}{n n':Nod}{cs:List AV}(h:ns[i]?=some n)(hs:SetAt (Ac n) k cs (Ac n'))(hne:cs≠[]):SetAt (NB ns cap1) (0+i * 8+k) cs (NB (ns.set i n') cap1):=by
 have key:=TZ (cap:=cap1) (Mm ns) (by rw[List.getElem?_map,h];rfl) hs hne;rw[←List.map_set]at key;exact key
theorem Td{f:AR}{K:Nat}{d d':Dvc}{j j' cap cap1 cap1' k:Nat}{cs:List AV}(hK:K<f.length)(hs:SetAt (Kh d j cap1) k cs (Kh d' j' cap1'))(hne:cs≠[]):SetAt (DB f K d j cap cap1) (0+K * 2+k) cs (DB f K d' j' cap cap1'):=by
 have key:=TZ (cap:=cap) (RM f K d j cap1) (Ta hK) hs hne;unfold J1 at key;rw[List.set_set]at key;exact key
theorem Te(f:AR)(K:Nat)(d d':Dvc)(j cap cap1:Nat):DB (f.set K d') K d j cap cap1=DB f K d j cap cap1:=by
 unfold DB J1;rw[List.map_set,List.set_set]
theorem LeA.tok(sz:Nat)(rows:List (List AV))(g:Option Nat):LeA (.sl sz rows g) (.sl sz rows none):=fun G w v h=>by
 cases g with
 |none=>exact h
 |some g=>simp only[rep]at h ⊢;exact h.1
section
variable {P:Program}{ev:Operand→Option AV}{h:AH}{R:AV→AH→Prop}{d:Option Tmp}{ty:TypeId}{pos:String}{af:Array Edge}{gd:Option (Nat×Bool)}
theorem Mp{T:TypeId}{x:Operand}{sz i o:Nat}{row cs:List AV}[ht:Typ P T sz true](hx:ev x=some (.bp i o))(hb:h.bx[i]?=some row)(hr:o+sz≤row.length)(he:(row.drop o).take sz=cs)(hR:R (.agg cs) h):AStep P ⟨d, .load T x,ty,pos,af,gd⟩ ev h R:=by
 subst he;exact MO hx hb (by rw[Nat.ble_eq];exact hr) hR
end
end Go.Proofs.YtbgnigjfkbmceaaGreatDoor
namespace Go.Proofs.YtbgnigjfkbmceaaGreatDoor
abbrev Bs:=List UInt8
def Fn(l:Bs):Bool:=decide (l≠[]∧l.length≤12∧l≠[46]∧l≠[46,46]∧(0:UInt8)∉l∧(47:UInt8)∉l)
theorem RP{l:Bs}:Fn l=true↔l≠[]∧l.length≤12∧l≠[46]∧l≠[46,46]∧(0:UInt8)∉l∧(47:UInt8)∉l:=decide_eq_true_iff
def Ct:Bs→List Bs
 |[]=>[[]]
 |c::t=>if c=47 then[]::Ct t else match Ct t with
   |[]=>[[c]]
   |h::r=>(c::h)::r
def ne_(p:Bs):Bool:=decide (p≠[])
def DU(l:Bs):List Bs:=(Ct l).filter ne_
def ED(ps:List Bs):Bs:=ps.flatMap fun p=>47::p
theorem Tf(l:Bs):Ct l≠[]:=by
 cases l with
 |nil=>simp[Ct]
 |cons c t=>
   unfold Ct;split
   ·simp
   split<;>simp
theorem X5(c:UInt8)(t:Bs):Ct (c::t)=if c=47 then[]::Ct t else match Ct t with
    |[]=>[[c]]
    |h::r=>(c::h)::r:=rfl
theorem X6(u t:Bs):Ct (u++47::t)=Ct u++Ct t:=by
 induction u with
 |nil=>simp[Ct]
 |cons c u ih=>
   rw[List.cons_append,X5,X5,ih];by_cases hc:c=47
   ·simp[hc]
   rw[if_neg hc,if_neg hc]
   cases h:Ct u with
   |nil=>exact absurd h (Tf u)
   |cons a r=>simp
theorem RQ{l:Bs}(h:(47:UInt8)∉l):Ct l=[l]:=by
 induction l with
 |nil=>rfl
 |cons c t ih=>
   simp only[List.mem_cons,not_or]at h;unfold Ct;rw[if_neg (fun e=>h.1 e.symm),ih h.2]
theorem X7{a:Bs}(h:(47:UInt8)∉a)(b:Bs):Ct (a++47::b)=a::Ct b:=by
 rw[X6,RQ h];rfl
theorem LZ(p:Bs)(ps:List Bs):ED (p::ps)=47::(p++ED ps):=by simp[ED]
theorem Tg(ps qs:List Bs):ED (ps++qs)=ED ps++ED qs:=by simp[ED]
theorem X8:∀(ps:List Bs) (p:Bs),(47:UInt8)∉p→(∀q∈ps,(47:UInt8)∉q)→Ct (p++ED ps)=p::ps:=by
 intro ps
 induction ps with
 |nil=>intro p hp _;simp[ED,RQ hp]
 |cons q ps ih=>
   intro p hp hq;rw[LZ,X7 hp,ih q (hq q (by simp)) fun x hx=>hq x (by simp[hx])]
theorem X9(l:Bs):ED (Ct l)=47::l:=by
 induction l with
 |nil=>simp[Ct,ED]
 |cons c t ih=>
   unfold Ct;by_cases hc:c=47
   ·rw[if_pos hc,LZ,ih,hc];rfl
   rw[if_neg hc]
   cases h:Ct t with
   |nil=>exact absurd h (Tf t)
   |cons a r=>
     rw[h]at ih;rw[LZ]at ih ⊢;simp only[List.cons.injEq,true_and]at ih;simp[ih]
theorem ON:DU []=[]:=by simp[DU,Ct,ne_]
theorem RR(u t:Bs):DU (u++47::t)=DU u++DU t:=by simp[DU,X6]
def one_(p:Bs):List Bs:=if p=[]then[]else[p]
theorem XA{l:Bs}(h:(47:UInt8)∉l):DU l=one_ l:=by
 unfold DU one_;rw[RQ h];by_cases e:l=[]<;>simp[e,ne_]
def Th(u:Bs):Prop:=u=[]∨∃u',u=u'++[47]
theorem XB{u p:Bs}(hu:Th u)(hp:(47:UInt8)∉p):DU (u++p)=DU u++one_ p:=by
 rcases hu with rfl|⟨u',rfl⟩
 ·simp[ON,XA hp]
 have e:u'++[47]++p=u'++47::p:=by simp
 rw[e,RR,RR,ON,XA hp];simp
theorem gR{u p:Bs}(hu:Th u)(hp:(47:UInt8)∉p):DU (u++p++[47])=DU u++one_ p:=by
 rw[RR,XB hu hp,ON,List.append_nil]
def Fb(l:Bs):Bool:=decide (l=[47])||(decide (l.head?=some 47)&&(Ct l.tail).all Fn)
def PU(l:Bs):Bool:=(DU l).all Fn&&(decide (l=[47])||(decide (DU l≠[])&&decide (l=ED (DU l))))
theorem RS{p:Bs}(h:Fn p=true):(47:UInt8)∉p:=(RP.1 h).2.2.2.2.2
theorem gS{p:Bs}(h:Fn p=true):p≠[]:=(RP.1 h).1
theorem gT(l:Bs):Fb l=true↔l=[47]∨∃ps,ps≠[]∧(∀p∈ps,Fn p=true)∧l=ED ps:=by
 unfold Fb;rw[Bool.or_eq_true,Bool.and_eq_true,decide_eq_true_iff,decide_eq_true_iff];constructor
 ·rintro(h|⟨h,ha⟩)
  ·exact .inl h
  cases l with
  |nil=>simp at h
  |cons c t=>
    simp at h;subst h;exact .inr ⟨Ct t,Tf t,by simpa using ha,(X9 t).symm⟩
 rintro(h|⟨ps,hne,hn,rfl⟩)
 ·exact .inl h
 cases ps with
 |nil=>exact absurd rfl hne
 |cons p ps=>
   right;rw[LZ];refine⟨rfl,?_⟩;show(Ct (p++ED ps)).all Fn=true;rw[X8 ps p (RS (hn p (by simp))) fun q hq=>RS (hn q (by simp[hq]))]
   simpa using hn
theorem gU{ps:List Bs}(hn:∀p∈ps,Fn p=true):DU (ED ps)=ps:=by
 cases ps with
 |nil=>simp[ED,ON]
 |cons p ps=>
   rw[LZ];have:=RR [] (p++ED ps);rw[List.nil_append]at this;rw[this,ON,List.nil_append];unfold DU;rw[X8 ps p (RS (hn p (by simp))) fun q hq=>RS (hn q (by simp[hq]))];rw[List.filter_eq_self];intro a ha
   simpa[ne_]using gS (hn a ha)
theorem gV:DU [47]=[]:=by simp[DU,Ct,ne_]
theorem Ti(l:Bs):PU l=Fb l:=by
 rw[Bool.eq_iff_iff,gT];unfold PU;rw[Bool.and_eq_true,Bool.or_eq_true,Bool.and_eq_true,decide_eq_true_iff,decide_eq_true_iff,decide_eq_true_iff,List.all_eq_true];constructor
 ·rintro⟨ha,h|⟨h1,h2⟩⟩
  ·exact .inl h
  exact .inr ⟨_,h1,ha,h2⟩
 rintro(rfl|⟨ps,h1,h2,rfl⟩)
 ·exact⟨by simp[gV], .inl rfl⟩
 rw[gU h2];exact⟨h2, .inr ⟨h1,rfl⟩⟩
end Go.Proofs.YtbgnigjfkbmceaaGreatDoor
namespace Go.Proofs.YtbgnigjfkbmceaaGreatDoor
def CX(xs:List AE):List Bs:=xs.map fun x=>x.data.toList
theorem Tj(x:UInt8):((x.toNat:Int)==47)=decide (x=47):=by
 rw[Bool.eq_iff_iff,beq_iff_eq,decide_eq_true_iff];constructor
 ·intro h;apply UInt8.toNat_inj.1;have:(47:UInt8).toNat=47:=rfl;omega
 rintro rfl;rfl
def Fo(l:Bs)(f k:Nat)(bs:List Bs):Prop:=(k≤l.length∧f≤k∧Th (l.take f)∧(47:UInt8)∉(l.drop f).take (k - f)∧bs=DU (l.take f))∨(k=l.length+1∧bs=DU l)
theorem gW{l:Bs}{f k:Nat}{bs:List Bs}{x:UInt8}(h:Fo l f k bs)(hx:l[k]?=some x)(hne:x≠47):Fo l f (k+1) bs:=by
 have hk:=(Af.1 hx).1;rcases h with⟨h1,h2,h3,h4,h5⟩|⟨h1,h2⟩
 ·refine .inl ⟨hk,by omega,h3,?_,h5⟩;rw[show k+1 - f=(k - f)+1 by omega,List.take_add_one];have:(l.drop f)[k - f]?=some x:=by rw[List.getElem?_drop,show f+(k - f)=k by omega];exact hx
  rw[this];simp only[Option.toList_some,List.mem_append,List.mem_singleton,not_or];exact⟨h4,fun e=>hne e.symm⟩
 omega
theorem XC{l:Bs}{f k:Nat}(h:f≤k):l.take k=l.take f++(l.drop f).take (k - f):=by
 rw[show k=f+(k - f) by omega,List.take_add];simp
theorem gX{l:Bs}{f k:Nat}{bs:List Bs}(h:Fo l f k bs)(hx:l[k]?=some 47):Fo l (k+1) (k+1) (bs++one_ ((l.drop f).take (k - f))):=by
 have hk:=(Af.1 hx).1;rcases h with⟨h1,h2,h3,h4,h5⟩|⟨h1,h2⟩
 ·have e:l.take (k+1)=l.take f++(l.drop f).take (k - f)++[47]:=by rw[List.take_add_one,hx,XC h2];rfl
  refine .inl ⟨hk,B6 _, .inr ⟨_,e⟩,by simp,?_⟩;rw[e,gR h3 h4,h5]
 omega
theorem gY{l:Bs}{f:Nat}{bs:List Bs}(h:Fo l f l.length bs):Fo l (l.length+1) (l.length+1) (bs++one_ ((l.drop f).take (l.length - f))):=by
 rcases h with⟨h1,h2,h3,h4,h5⟩|⟨h1,h2⟩
 ·refine .inr ⟨rfl,?_⟩;have e:=XC (l:=l) h2;rw[List.take_length]at e;have h6:=XB h3 h4;rw[←e]at h6;rw[h5];exact h6.symm
 omega
theorem gZ(l:Bs):Fo l 0 0 []:= .inl ⟨BK _,B6 _, .inl rfl,by simp,by simp[ON]⟩
theorem RT{l:Bs}{f k:Nat}{bs:List Bs}(h:Fo l f k bs)(hk:l.length<k):bs=DU l:=by
 rcases h with⟨h1,_⟩|⟨_,h2⟩
 ·omega
 exact h2
theorem hC{p:Bs}(h:p≠[]):one_ p=[p]:=if_neg h
theorem hG(s:ByteArray){f k:Nat}(h:f<k)(hk:k≤s.size):(s.data.toList.drop f).take (k - f)≠[]:=by
 intro e;have:=congrArg List.length e;rw[Lib.size_eq]at hk;simp at this;simp at hk;omega
theorem hH(s:ByteArray)(h:0<s.size):decide (s.data.toList.head?=some 47)=(((s[0]'h).toNat:Int)==47):=by
 rw[Tj];have:s.data.toList.head?=some (s[0]'h):=by rw[List.head?_eq_getElem?];exact Lib.data_getElem? s 0 h
 rw[this];simp
theorem hU(s:ByteArray)(h:0<s.size):decide (s.data.toList.getLast?=some 47)=(((s[s.size - 1]'(by omega)).toNat:Int)==47):=by
 rw[Tj];have:s.data.toList.getLast?=some (s[s.size - 1]'(by omega)):=by rw[List.getLast?_eq_getElem?,←Lib.size_eq];exact Lib.data_getElem? s _ (by omega)
 rw[this];simp
theorem hZ{s:ByteArray}{a k a' k':Nat}{ss:List AE}(h:Fo s.data.toList a' k' (CX ss++one_ ((s.data.toList.drop a).take (k - a))))(ho:one_ ((s.data.toList.drop a).take (k - a))=[(s.data.toList.drop a).take (k - a)]):Fo s.data.toList a' k' (CX (ss++[s.extract a k])):=by
 rw[ho]at h
 have:CX (ss++[s.extract a k])=CX ss++[(s.data.toList.drop a).take (k - a)]:=by
  rw[←Lib.extract_data];simp[CX]
 rw[this];exact h
theorem i4{s:ByteArray}{a k a' k':Nat}{bs:List Bs}(h:Fo s.data.toList a' k' (bs++one_ ((s.data.toList.drop a).take (k - a))))(ho:k≤a):Fo s.data.toList a' k' bs:=by
 rw[show k - a=0 by omega]at h
 simpa[one_]using h
theorem XD(s:ByteArray):s.toList=s.data.toList:=Lib.toList_data s
theorem i5(s:ByteArray):(s.toList==[46])=decide (s.data.toList=[46]):=by rw[XD,Bool.eq_iff_iff];simp
theorem i6(s:ByteArray):(s.toList==[46,46])=decide (s.data.toList=[46,46]):=by rw[XD,Bool.eq_iff_iff];simp
theorem Tk(s:AE):Fk s=Fn s.data.toList:=by
 have hs:=Lib.size_eq s;rw[Bool.eq_iff_iff,RP];unfold Fk;by_cases h1:s.size<1∨12<s.size
 ·rw[if_pos h1];constructor
  ·intro h;cases h
  rintro⟨h2,h3,_⟩;have:0<s.data.toList.length:=List.length_pos_iff.2 h2;omega
 rw[if_neg h1,i5,i6];have hne:s.data.toList≠[]:=by intro e;rw[e]at hs;change s.size=0 at hs;omega
 by_cases h2:s.data.toList=[46]
 ·rw[if_pos (decide_eq_true h2)];constructor
  ·intro h;cases h
  exact fun h=>absurd h2 h.2.2.1
 rw[if_neg (by simpa using h2)];by_cases h3:s.data.toList=[46,46]
 ·rw[if_pos (decide_eq_true h3)];constructor
  ·intro h;cases h
  exact fun h=>absurd h3 h.2.2.2.1
 rw[if_neg (by simpa using h3),List.all_eq_true]
 have hb:∀c:UInt8,M0 c=true↔c≠0∧c≠47:=by
  intro c;unfold M0;rw[Bool.and_eq_true,Tj]
  have:((c.toNat:Int)==0)=decide (c=0):=by
   rw[Bool.eq_iff_iff,beq_iff_eq,decide_eq_true_iff];constructor
   ·intro h;apply UInt8.toNat_inj.1;have:(0:UInt8).toNat=0:=rfl;omega
   rintro rfl;rfl
  rw[this];simp
 constructor
 ·intro h;exact⟨hne,by omega,h2,h3,fun h0=>((hb _).1 (h _ h0)).1 rfl,fun h0=>((hb _).1 (h _ h0)).2 rfl⟩
 rintro⟨_,_,_,_,h0,h47⟩ c hc;exact(hb c).2 ⟨fun e=>h0 (e ▸ hc),fun e=>h47 (e ▸ hc)⟩
theorem i7(ps:List Bs)(p:Bs→Bool):(ED (ps.filter p)).length≤(ED ps).length:=by
 induction ps with
 |nil=>simp
 |cons q ps ih=>
   rw[List.filter_cons];split
   ·rw[LZ,LZ];simp;omega
   rw[LZ];simp;omega
theorem i8(ps:List Bs)(k:Nat):(ED (ps.take k)).length≤(ED ps).length:=by
 conv=>rhs;rw[←List.take_append_drop k ps,Tg]
 simp
theorem Tl(l:Bs):(ED (DU l)).length≤l.length+1:=by
 have:=i7 (Ct l) ne_;rw[X9]at this
 simpa[DU]using this
theorem i9{l p:Bs}(h:p∈DU l):p.length≤l.length:=by
 have h1:=Tl l;obtain⟨a,b,e⟩:=List.append_of_mem h;rw[e,Tg,LZ]at h1;simp at h1;omega
end Go.Proofs.YtbgnigjfkbmceaaGreatDoor
namespace Go.Proofs.YtbgnigjfkbmceaaGreatDoor
open Go.RowKit
section
def Old(w:World):Nat→Prop:=fun b=>b<w.heap.size
theorem TK{B:Nat}{a w:World}(h:Below B a w)(n:Nat):Below B a (w.drewN n):=⟨h.os,h.tape,h.output,h.size,h.block⟩
def J0(at_:A9):Value:= .agg #[.int .i64 at_.1, .int .i64 at_.2]
theorem NT{a b:Bool}(h:a=b):Ending.returned (.bool a)= .returned (.bool b):=by rw[h]
theorem Mn{w:World}{g:Nat}{cs:Array Value}{t:TypeId}{fz:Nat×Nat}(h:w.heap[g]?=some (.cells cs t fz))(i:Nat):w.cell? ⟨g,i,none⟩=cs[i]?:=by
 simp[World.cell?,h]
theorem TM{w:World}{g:Nat}{cs:Array Value}{t:TypeId}(h:w.heap[g]?=some (.cells cs t (0,0)))(i:Nat):w.frozen? ⟨g,i,none⟩=false:=by
 simp[World.frozen?,h]
theorem Hf{w:World}{b:Nat}{o:Obj}(h:w.heap[b]?=some o)(o':Obj):(w.alloc o').heap[b]?=some o:=by
 have hb:b<w.heap.size:=by
  rcases Nat.lt_or_ge b w.heap.size with hlt|hge
  ·exact hlt
  rw[Array.getElem?_eq_none hge]at h;cases h
 exact(Below.heap_alloc w o' b hb).trans h
theorem GS{w:World}{g:Nat}{cs:Array Value}{t:TypeId}(h:w.heap[g]?=some (.cells cs t (0,0))):(∀i,w.cell? ⟨g,i,none⟩=cs[i]?)∧(∀i,w.frozen? ⟨g,i,none⟩=false):=
 ⟨fun i=>Mn h i,fun i=>TM h i⟩
theorem OH{w:World}{b:Nat}{cs:Array Value}{t:TypeId}{fz:Nat×Nat}(h:w.heap[b]?=some (.cells cs t fz))(i:Nat)(u:Value):(w.setCell ⟨b,i,none⟩ u).heap[b]?=some (.cells (cs.setIfInBounds i u) t fz):=by
 simp[World.setCell,Array.getElem?_modify,h]
theorem NU{w:World}{b:Nat}{o:Obj}(h:w.heap[b]?=some o){p:Addr}(hp:b≠p.block)(u:Value):(w.setCell p u).heap[b]?=some o:=(Below.heap_setCell w p u b hp).trans h
theorem Fa{w w':World}{b B:Nat}{o:Obj}(h:w.heap[b]?=some o)(hg:Below B w w')(hb:b<B):w'.heap[b]?=some o:=(hg.block b hb).trans h
theorem LY(w:World)(o1:Obj):Below w.heap.size w (w.alloc o1):=by
 exact(Below.refl _ w).alloc (B6 _) _
theorem TN(w:World)(o1:Obj):(w.alloc o1).heap.size=w.heap.size+1:=by simp
theorem OJ(w:World)(o1:Obj):(w.alloc o1).heap[w.heap.size]?=some o1:=(by have:=heap_alloc_new w o1;simpa using this)
theorem NV(w:World)(o1 o2:Obj):Below w.heap.size w ((w.alloc o1).alloc o2):=by
 exact(LY w o1).alloc (by simp<;>omega) _
theorem OK(w:World)(o1 o2:Obj):((w.alloc o1).alloc o2).heap[w.heap.size]?=some o1:=Hf (OJ w o1) _
theorem OL(w:World)(o1 o2:Obj):((w.alloc o1).alloc o2).heap[w.heap.size+1]?=some o2:=(by have:=heap_alloc_new (w.alloc o1) o2;simpa using this)
theorem PL(w:World)(o1 o2 o3:Obj):Below w.heap.size w (((w.alloc o1).alloc o2).alloc o3):=by
 exact(NV w o1 o2).alloc (by simp<;>omega) _
theorem TO(w:World)(o1 o2 o3:Obj):(((w.alloc o1).alloc o2).alloc o3).heap[w.heap.size]?=some o1:=Hf (OK w o1 o2) _
theorem PM(w:World)(o1 o2 o3:Obj):(((w.alloc o1).alloc o2).alloc o3).heap[w.heap.size+1]?=some o2:=Hf (OL w o1 o2) _
theorem TP(w:World)(o1 o2 o3:Obj):(((w.alloc o1).alloc o2).alloc o3).heap[w.heap.size+1+1]?=some o3:=(by have:=heap_alloc_new ((w.alloc o1).alloc o2) o3;simpa using this)
theorem Wo(w:World)(o1 o2 o3 o4:Obj):Below w.heap.size w ((((w.alloc o1).alloc o2).alloc o3).alloc o4):=by
 exact(PL w o1 o2 o3).alloc (by simp<;>omega) _
theorem Wp(w:World)(o1 o2 o3 o4:Obj):((((w.alloc o1).alloc o2).alloc o3).alloc o4).heap[w.heap.size+1]?=some o2:=Hf (PM w o1 o2 o3) _
theorem Wq(w:World)(o1 o2 o3 o4:Obj):((((w.alloc o1).alloc o2).alloc o3).alloc o4).heap[w.heap.size+1+1+1]?=some o4:=(by have:=heap_alloc_new (((w.alloc o1).alloc o2).alloc o3) o4;simpa using this)
structure Moves(own:Nat→Prop)(B:Nat)(X Y:World):Prop where
 os:Y.os=X.os
 tape:Y.tape=X.tape
 output:Y.output=X.output
 size:X.heap.size≤Y.heap.size
 block:∀k,k<X.heap.size→¬own k→(k<B∨∃o:Obj,X.heap[k]?=some o∧o.isCells=true)→Y.heap[k]?=X.heap[k]?
section
variable {own:Nat→Prop}{B:Nat}{X Y Z:World}
theorem Moves.mono(h:Moves own B X Y){B':Nat}(hB:B'≤B):Moves own B' X Y:=
 ⟨h.os,h.tape,h.output,h.size,fun i hi ho hb=>h.block i hi ho (by
  rcases hb with hb|hb
  ·exact .inl (Nat.lt_of_lt_of_le hb hB)
  exact .inr hb)⟩
theorem Moves.below(h:Below X.heap.size X Y):Moves own B X Y:=⟨h.os,h.tape,h.output,h.size,fun i hi _ _=>h.block i hi⟩
theorem Moves.grown{g:Nat}(h:X.grownBy Y (some g))(hg:own g):Moves own B X Y:=
 ⟨h.os,h.tape,h.output,h.size,fun i hi ho _=>h.block i hi (fun e=>ho (by injection e with e;rw[e];exact hg))⟩
theorem Moves.set_(X:World){b:Nat}(hb:own b)(v:Value):Moves own B X (X.setCell ⟨b,0,none⟩ v):=Moves.grown (grownBy_setCell' X b v) hb
theorem Moves.put_{l:Nat}{o:Obj}(o':Obj)(hl:X.heap[l]?=some o)(ho:o.isCells=false)(hB:B≤l):Moves own B X (X.putObj l o'):=
 have h:=grownBy_putObj' X l o'
 ⟨h.os,h.tape,h.output,h.size,fun i hi _ hb=>h.block i hi (fun e=>by
  injection e with e;subst e;rcases hb with hb|⟨o2,h1,h2⟩
  ·omega
  rw[hl]at h1;injection h1 with h1;subst h1;rw[ho]at h2;cases h2)⟩
theorem Moves.boxed(h:Moves own B X Y){b:Nat}{t:TypeId}{v:Value}(hb:Boxed X b t v)(hn:¬own b):Boxed Y b t v:=
 (h.block b hb.lt hn (.inr ⟨_,hb,rfl⟩)).trans hb
theorem Moves.under(h:Moves own B X Y){n₀:Nat}{w:World}(hb:Below n₀ w X)(hn:n₀≤w.heap.size)(ho:∀b,own b→n₀≤b)(hB:n₀≤B):Below n₀ w Y:=
 ⟨h.os.trans hb.os,h.tape.trans hb.tape,h.output.trans hb.output,Nat.le_trans hb.size h.size,fun i hi=>by
  refine(h.block i (by have:=hb.size;omega) (fun e=>?_) (.inl (by omega))).trans (hb.block i hi);have:=ho i e
  omega⟩
end
theorem RU{B:Nat}{X Y:World}(h:Below X.heap.size X Y):KeepsFrom B X Y:=⟨h.size,fun k _ _ hk _=>(h.block k (Array.getElem?_eq_some_iff.1 hk).1).trans hk⟩
theorem XE{B:Nat}{X Y:World}(h:KeepsFrom B X Y){b:Nat}(hb:b<B)(v:Value):KeepsFrom B X (Y.setCell ⟨b,0,none⟩ v):=
 h.trans (KeepsFrom.of_grownBy (grownBy_setCell' Y b v) (fun j e=>by cases e;exact hb))
theorem RV{W:World}{b D:Nat}{t:TypeId}{v:Value}(h:Boxed W b t v)(hne:b≠D)(o:Obj):Boxed (W.putObj D o) b t v:=h.kept (grownBy_putObj' W D o) (fun e=>hne (by injection e))
theorem RW{B:Nat}{w W:World}(h:Below B w W){D:Nat}(hD:B≤D)(o:Obj):Below B w (W.putObj D o):=
 have g:=grownBy_putObj' W D o
 ⟨g.os.trans h.os,g.tape.trans h.tape,g.output.trans h.output,Nat.le_trans h.size g.size,fun k hk=>(World.putObj_heap_other (by omega)).trans (h.block k hk)⟩
theorem Na{P:Program}{n m f:Nat}{args:Array Value}{w:World}{R:Ending→World→Prop}(h:CallsIn Fence.wide m P f args w R):
    Fence.wide.fn f∧(Fence.wide.depth.isSome=true→1≤n)∧CallsIn Fence.wide m P f args w R:=⟨trivial,(fun h=>by cases h),h⟩
def RX{α:Type}(F:Fence)(n:Nat)(P:Program)(g:Nat)(lb:Array Value)(encs:α→Array Value)(own:Nat→Prop)(Kp:World→World→Prop)(Pf:List α→Prop)(S Sp:List α→Prop)(w:World):Prop:=
 ∀(l:Nat) (J Jx:List α→World→Prop) (W:World),Below w.heap.size w W→
  (∀s X Y,J s X→Moves own W.heap.size X Y→J s Y)→(∀s X Y,Jx s X→Moves own W.heap.size X Y→Jx s Y)→
  (∀pre x W1,J pre W1→Pf (pre++[x])→YieldAt F (n - 1) P l (encs x) W1 fun e W'=>
    (e= .returned (.bool true)∧J (pre++[x]) W'∧Kp W1 W')∨(e= .returned (.bool false)∧Jx (pre++[x]) W'))→
  J [] W→
  CallsIn F n P g (#[.func (.yield l) #[] #[]]++lb) W fun e W'=>(∃v,e= .returned v)∧((∃xs,S xs∧J xs W')∨(∃pre,Sp pre∧Jx pre W'))
variable {F:Fence}{n:Nat}{P:Program}
theorem iA{α:Type}{g:Operand}{ps:Array Tmp}{assign body:Code}{Q:Exit→Act→World→Prop}{a:Act}{w:World}
    (hro:F.round=none) (h1:1≤n) {gf:Nat} {lb:Array Value} (hg:a.eval g= .func (.func gf) #[] lb) (hFg:F.fn gf) (eg:∀args w,(callFunc gf args).run P w= .ok (.enter gf args) w)
    {encs:α→Array Value} {own:Nat→Prop} {Kp:World→World→Prop} {Pf:List α→Prop} {S Sp:List α→Prop} {w0:World} (hseq:RX F (n - 1) P gf lb encs own Kp Pf S Sp w0)
    (hown:∀b,own b→b<w.heap.size) (hKt:∀{A B C:World},Kp A B→Kp B C→Kp A C) (hKb:∀(W:World) (l:Nat) (o o':Obj),w.heap.size≤l→W.heap[l]?=some o→o.isCells=false→Kp W (W.putObj l o'))
    (hb0:Below w0.heap.size w0 w) (hps:∀x,(encs x).size=ps.size)
    (I:List α→World→Prop) (Ix:Code→List α→World→Prop) (hI:∀s X Y,I s X→Moves own w.heap.size X Y→I s Y) (hIx:∀c s X Y,Ix c s X→Moves own w.heap.size X Y→Ix c s Y) (h0:I [] w) (a₁:α→Act)
    (hassign:∀(l:Nat) (x:α) (W:World) (K:Act→World→Prop),K (a₁ x) W→
      assign.wpIn (F.inRound l) (n - 1 - 1) P (Exit.then K (fun _ _ _=>False)) {tmps:=(ps.zip (encs x)).foldl (fun t (p,v)=>t.setIfInBounds p v) a.tmps,defers:=[]} W)
    (hbody:∀(l:Nat) (pre:List α) (x:α) (W:World),I pre W→Pf (pre++[x])→w.heap.size+2≤W.heap.size→body.wpIn (F.inRound l) (n - 1 - 1) P (ownPostG w.heap.size Kp I Ix (pre++[x]) W) (a₁ x) W)
    (hdone:∀(D:Nat) (xs:List α) (W:World),w.heap.size≤D→S xs→I xs W→W.heap[D]?=some (.deferred (some []))→Q .normal {a with defers:={target:= .collected D,args:=#[]}::a.defers} W)
    (hstop:∀(D:Nat) (c:Code) (pre:List α) (W:World),w.heap.size≤D→Sp pre→Ix c pre W→W.heap[D]?=some (.deferred (some []))→c.wpIn F n P Q {a with defers:={target:= .collected D,args:=#[]}::a.defers} W):
    (Code.rangeFunc g ps assign body).wpIn F n P Q a w:=by
 refine wpIn_rangeFunc ?_;intro fn hfn;rw[hro];obtain⟨rec,hrec⟩:∃rec:LoopState→Option Code→Loop,rec=fun st pe=>{state:=st,pending:=pe,fn,tmps:=a.tmps,params:=ps,assign,body,defers:=w.heap.size}:=⟨_,rfl⟩;obtain⟨W1,hW1⟩:∃W1,(w.alloc (.deferred (some []))).alloc (.loop (rec .ready none))=W1:=⟨_,rfl⟩;have hbw:Below w.heap.size w W1:=by rw[←hW1];exact NV w _ _
 have hsz:W1.heap.size=w.heap.size+2:=by rw[←hW1];simp
 have hL1:W1.heap[w.heap.size+1]?=some (.loop (rec .ready none)):=by rw[←hW1];exact OL _ _ _
 have hK1:W1.heap[w.heap.size]?=some (.deferred (some [])):=by rw[←hW1];exact OK _ _ _
 have hn0:¬own w.heap.size:=fun h=>by have:=hown _ h;omega
 have hn1:¬own (w.heap.size+1):=fun h=>by have:=hown _ h;omega
 refine⟨w.heap.size+1,[{target:= .collected w.heap.size,args:=#[]}],W1,{target:= .fn (.func gf) lb,args:=#[.func (.yield (w.heap.size+1)) #[] #[]]},W1,gf,
  #[.func (.yield (w.heap.size+1)) #[] #[]]++lb,W1,?_,?_,?_,?_,fun _=>h1,?_⟩
 ·rw[←hW1,hrec];exact run_enterLoop_outer _ _ _ _ _
 ·simp only[resolve,hg];simp[go_sem]
 ·intro f' hf';simp[Target.leads]at hf';subst hf';exact hFg
 ·simp[invoke,go_sem,eg]
 have lt_of:∀{W:World} {k:Nat} {o:Obj},W.heap[k]?=some o→k<W.heap.size:=fun h=>(Array.getElem?_eq_some_iff.1 h).1;have keep:∀{X Y:World} {k:Nat} {o:Obj},Moves own W1.heap.size X Y→X.heap[k]?=some o→k<W1.heap.size→¬own k→Y.heap[k]?=some o:=fun hm hx hk hn=>(hm.block _ (lt_of hx) hn (.inl hk)).trans hx
 refine(hseq (w.heap.size+1)
  (fun pre W=>I pre W∧W.heap[w.heap.size+1]?=some (.loop (rec .ready none))∧W.heap[w.heap.size]?=some (.deferred (some [])))
  (fun pre W=>∃c,Ix c pre W∧W.heap[w.heap.size+1]?=some (.loop (rec .done (some c)))∧W.heap[w.heap.size]?=some (.deferred (some [])))
  W1 (hb0.trans (hbw.mono hb0.size))
  (fun s X Y hs hm=>⟨hI s X Y hs.1 (hm.mono (by omega)),keep hm hs.2.1 (by omega) hn1,keep hm hs.2.2 (by omega) hn0⟩)
  (fun s X Y hs hm=>by
    obtain⟨c,hc,hl,hk⟩:=hs
    exact⟨c,hIx c s X Y hc (hm.mono (by omega)),keep hm hl (by omega) hn1,keep hm hk (by omega) hn0⟩)
  ?_ ⟨hI _ _ _ h0 (.below hbw),hL1,hK1⟩).mono ?_
 ·rintro pre x W ⟨hi,hl,hk⟩ hpf;have hlt:w.heap.size+1<W.heap.size:=lt_of hl;have hy:=run_yield (P:=P) (args:=encs x) hl (by rw[hrec];exact hps x);rw[hrec]at hy;refine⟨fn,_,assign,body,hy,roundIn_of_wpIn hfn (hassign _ x W _ ⟨_,run_beginRound hl (by rw[hrec]),?_⟩)⟩;have hl2:(W.putObj (w.heap.size+1) (.loop {rec .ready none with state:= .busy})).heap[w.heap.size+1]?=some (.loop {rec .ready none with state:= .busy}):=World.putObj_heap_same hlt;have hk2:(W.putObj (w.heap.size+1) (.loop {rec .ready none with state:= .busy})).heap[w.heap.size]?=some (.deferred (some [])):=(World.putObj_heap_other (by omega)).trans hk;have hw2:Kp W (W.putObj (w.heap.size+1) (.loop {rec .ready none with state:= .busy})):=hKb _ _ _ _ (by omega) hl rfl;refine wpIn_mono (hbody _ pre x _ (hI _ _ _ hi (.put_ _ hl rfl (by omega))) hpf (lt_of hl2)) ?_
  have fin:∀(jump:Option Code) (W3:World),KeepsFrom w.heap.size (W.putObj (w.heap.size+1) (.loop {rec .ready none with state:= .busy})) W3→
      (Instr.endRound (w.heap.size+1) jump).run P W3= .ok (.bool jump.isNone) (W3.putObj (w.heap.size+1) (.loop (rec (if jump.isNone then .ready else .done) jump)))∧
      W3.heap[w.heap.size+1]?=some (.loop {rec .ready none with state:= .busy})∧
      (W3.putObj (w.heap.size+1) (.loop (rec (if jump.isNone then .ready else .done) jump))).heap[w.heap.size+1]?=some (.loop (rec (if jump.isNone then .ready else .done) jump))∧
      (W3.putObj (w.heap.size+1) (.loop (rec (if jump.isNone then .ready else .done) jump))).heap[w.heap.size]?=some (.deferred (some [])):=fun jump W3 hk3=>by
   have hl3:=hk3.same _ _ (by omega) hl2 rfl;have:=run_endRound (P:=P) jump hl3;rw[hrec]at this ⊢;exact⟨this,by rw[hrec]at hl3;exact hl3,World.putObj_heap_same (lt_of hl3),(World.putObj_heap_other (by omega)).trans (hk3.same _ _ (B6 _) hk2 rfl)⟩
  rintro e a3 W3 hp
  cases e with
  |normal=>
    obtain⟨hk3,hkp3,hi3⟩:=hp;obtain⟨hr,hl3,hl4,hk4⟩:=fin none W3 hk3;exact⟨_,_,hr, .inl ⟨rfl,⟨hI _ _ _ hi3 (.put_ _ hl3 rfl (by omega)),hl4,hk4⟩,hKt (hKt hw2 hkp3) (hKb _ _ _ _ (by omega) hl3 rfl)⟩⟩
  |ret=>
    obtain⟨hk3,hi3⟩:=hp;obtain⟨hr,hl3,hl4,hk4⟩:=fin (some .ret) W3 hk3;exact⟨_,_,hr, .inr ⟨rfl, .ret,hIx _ _ _ _ hi3 (.put_ _ hl3 rfl (by omega)),hl4,hk4⟩⟩
  |exit id=>
    obtain⟨hk3,hi3⟩:=hp;obtain⟨hr,hl3,hl4,hk4⟩:=fin (some (.exit id)) W3 hk3;exact⟨_,_,hr, .inr ⟨rfl, .exit id,hIx _ _ _ _ hi3 (.put_ _ hl3 rfl (by omega)),hl4,hk4⟩⟩
  |goto t=>
    obtain⟨hk3,hi3⟩:=hp;obtain⟨hr,hl3,hl4,hk4⟩:=fin (some (.goto t)) W3 hk3;exact⟨_,_,hr, .inr ⟨rfl, .goto t,hIx _ _ _ _ hi3 (.put_ _ hl3 rfl (by omega)),hl4,hk4⟩⟩
  |panic ch=>exact hp.elim
  |outgrown=>exact hp.elim
 rintro e W2 ⟨⟨v,rfl⟩,(⟨xs,hS,hi,hl,hk⟩|⟨pre,hSp,c,hi,hl,hk⟩)⟩
 ·exact⟨none,_,by have:=run_endLoop (P:=P) hl (by rw[hrec];simp);rw[hrec]at this;exact this,hdone _ xs _ (B6 _) hS (hI _ _ _ hi (.put_ _ hl rfl (by omega))) ((World.putObj_heap_other (by omega)).trans hk)⟩
 exact⟨some c,_,by have:=run_endLoop (P:=P) hl (by rw[hrec];simp);rw[hrec]at this;exact this,hstop _ c pre _ (B6 _) hSp (hIx _ _ _ _ hi (.put_ _ hl rfl (by omega))) ((World.putObj_heap_other (by omega)).trans hk)⟩
end
theorem XF{P:Program}{f:FuncId}{xs:List AV}{R:AV}(h:AFn P f xs fun r=>r=R){w:World}{N:Nat}{vs:List Value}(hN:N≤w.heap.size)(hv:Bf (fun b _=>b<N) w xs vs):
    Calls P f vs.toArray w fun e w'=>∃(v:Value) (G':Gh),e= .returned v∧rep G' w' R v∧Below w.heap.size w w':=by
 refine Calls.mono (h w (fun b _=>b<N) [] vs (Vo (fun b o hb=>Nat.lt_of_lt_of_le hb hN)) (ML _ _ hv)) ?_;intro e w' h3
 cases e with
 |returned v=>
   obtain⟨r,b,t,G',⟨_,_,rfl⟩,k2,_,k4⟩:=h3;have k:=k2.kept;exact⟨v,G',rfl,k4,⟨k.os,k.tape,k.output,k.size,fun i hi=>k.block i hi (by simp)⟩⟩
 |panicked c=>exact h3.elim
 |outgrown=>exact h3.elim
def SpcIn(s:Spc)(N:Nat)(w:World)(ds ms:Value):Prop:=N≤w.heap.size∧Bf (fun b _=>b<N) w (AT s) [ds,ms]
theorem SpcIn.keep{s:Spc}{N:Nat}{w w':World}{ds ms:Value}(h:SpcIn s N w ds ms)(hs:w.heap.size≤w'.heap.size)(hb:∀b,b<N→w'.heap[b]?=w.heap[b]?):SpcIn s N w' ds ms:=
 ⟨Nat.le_trans h.1 hs,N2 (fun b o hN=>⟨hN,World.cell?_of_block (w:=w) (a:=⟨b,o,none⟩) (hb b hN)⟩) _ _ h.2⟩
theorem SpcIn.below{s:Spc}{N B:Nat}{w w':World}{ds ms:Value}(h:SpcIn s N w ds ms)(hb:Below B w w')(hN:N≤B):SpcIn s N w' ds ms:=
 h.keep hb.size fun b hbN=>hb.block b (Nat.lt_of_lt_of_le hbN hN)
section
variable {s:Spc}{N:Nat}{w:World}{ds ms:Value}(h:SpcIn s N w ds ms)(hs:SpcB s)
include h hs
theorem iB(a:A9):Calls prog 169 #[.agg #[ds],J0 a] w fun e w'=>
    (∃(A:Option Addr) (m c:Nat),e= .returned (.tuple #[.agg #[.int .i64 (Ah s.files a).ino, .int .i64 (Ah s.files a).kind, .int .i64 (Ah s.files a).mode, .int .i64 (Ah s.files a).uid, .int .i64 (Ah s.files a).gid, .int .i64 (Ah s.files a).parent, .string (Ah s.files a).target, .slice A m c], .bool (Dc s.files a)]))∧Below w.heap.size w w':=by
 have h2:=h.2;simp only[AT,Bf]at h2;obtain⟨z,zs,e1,h3,_⟩:=h2;obtain⟨rfl,rfl⟩:=List.cons.inj e1;refine(XF (Wi s.files a hs.files) (vs:=[.agg #[ds],J0 a]) h.1 ?_).mono ?_
 ·simp only[Bf,At,Ao,AB,J0];exact⟨_,_,rfl,⟨[ds],rfl,ds,[],rfl,by simpa only[At]using h3,rfl⟩,_,_,rfl,⟨[.int .i64 a.1, .int .i64 a.2],rfl,_,_,rfl,rfl,_,_,rfl,rfl,rfl⟩,rfl⟩
 rintro e w' ⟨v,G',rfl,hr,hb⟩;refine⟨?_,hb⟩;simp only[rep,AO,Ac,At]at hr;obtain⟨ys,rfl,z1,zs1,rfl,⟨ys2,rfl,_,_,rfl,rfl,_,_,rfl,rfl,_,_,rfl,rfl,_,_,rfl,rfl,_,_,rfl,rfl,_,_,rfl,rfl,_,_,rfl,rfl,_,_,rfl,⟨_,A,c,rfl,_⟩,rfl⟩,_,_,rfl,rfl,rfl⟩:=hr;exact⟨A,_,c,rfl⟩
theorem iC(xs:List AV)(vs:List Value)(hx:Bf (fun b _=>b<N) w xs vs):Bf (fun b _=>b<N) w (.agg (AT s)::xs) (.agg #[ds,ms]::vs):=by
 have _:=hs;simp only[Bf];refine⟨_,_,rfl,?_,hx⟩;simp only[At];exact⟨[ds,ms],rfl,h.2⟩
theorem iD(d:Int):Bf (fun b _=>b<N) w [.agg (AT s), .v (.int .i64 d)] [.agg #[ds,ms], .int .i64 d]:=by
 refine iC h hs _ _ ?_;simp only[Bf,At];exact⟨_,_,rfl,rfl,rfl⟩
theorem iE(d:Int):Calls prog 229 #[.agg #[ds,ms], .int .i64 d] w fun e w'=>
    e= .returned (.tuple #[J0 ((CE s d).getD (0,0)), .bool (CE s d).isSome])∧Below w.heap.size w w':=by
 refine(XF (WX s d hs) (vs:=[.agg #[ds,ms], .int .i64 d]) h.1 (iD h hs d)).mono ?_;rintro e w' ⟨v,G',rfl,hr,hb⟩;refine⟨?_,hb⟩;simp only[rep,AO,AB]at hr;obtain⟨ys,rfl,z1,zs1,rfl,⟨ys2,rfl,_,_,rfl,rfl,_,_,rfl,rfl,rfl⟩,_,_,rfl,rfl,rfl⟩:=hr;rfl
end
theorem SpcIn.devs{s:Spc}{N:Nat}{w:World}{ds ms:Value}(h:SpcIn s N w ds ms):∃A cap,ds= .slice A s.files.length cap∧s.files.length≤cap∧cap≤maxLen∧
    (0<s.files.length→∃b off,A=some ⟨b,off,none⟩∧b<N∧∀i d,s.files[i]?=some d→w.cell? ⟨b,off+i * 2,none⟩=some (.int .i64 d.next)∧∃A2 cap2,w.cell? ⟨b,off+i * 2+1,none⟩=some (.slice A2 d.nodes.length cap2)):=by
 have h2:=h.2;simp only[AT,Bf]at h2;obtain⟨z,zs,e1,h3,_⟩:=h2;obtain⟨rfl,rfl⟩:=List.cons.inj e1;simp only[At,List.length_map]at h3;obtain⟨_,A,cap,rfl,h4,h5,h6⟩:=h3;refine⟨A,cap,rfl,h4,h5,fun hpos=>?_⟩;rcases h6 with h6|⟨b,off,rfl,h6⟩
 ·simp at h6;rw[h6]at hpos;simp at hpos
 refine⟨b,off,rfl,?_,?_⟩
 ·obtain⟨_,h8⟩:=N4 h6 (i:=0) (r:=Cd (s.files[0]'hpos)) (by simp[hpos]);simp only[Cd,DQ]at h8;exact h8.1.1
 intro i d hd;obtain⟨_,h8⟩:=N4 h6 (i:=i) (r:=Cd d) (by simp[hd]);simp only[Cd,DQ,At,List.length_map]at h8;obtain⟨⟨_,u,h9,_,rfl⟩,⟨_,u2,h10,_,_,A2,cap2,rfl,_⟩,_⟩:=h8;exact⟨h9,A2,cap2,h10⟩
theorem iF(ds ms:Value)(a:A9)(w:World):
    Calls prog 170 #[.agg #[ds,ms],J0 a] w fun e w'=>
     e= .returned (.func (.func 228) #[] #[.pointer (some ⟨w.heap.size,0,none⟩), .pointer (some ⟨w.heap.size+1,0,none⟩)])∧
     w'=(w.alloc (.cells #[ds,ms] 42)).alloc (.cells #[.int .i64 a.1, .int .i64 a.2] 26):=by
 unfold J0
 go_enter Tryz.func170,Tryz.ntmps170
 go_wp2
 go_ret
 exact⟨by simp,rfl⟩
end Go.Proofs.YtbgnigjfkbmceaaGreatDoor
namespace Go.Proofs.YtbgnigjfkbmceaaGreatDoor
open Go.RowKit Go.Shelf
attribute [local go_sem] Oper.semAt_some
theorem iG{n:Nat}{P:Program}{c:Code}{Q:Exit→Act→World→Prop}{a:Act}{w:World}(h:c.wpIn Fence.wide n P (Exit.noGoto Q) a w):(Code.scope c).wpIn Fence.wide n P Q a w:=
 wpIn_wide.2 (wp_scope_straight (wpIn_wide.1 h))
theorem Moves.setc{own:Nat→Prop}{B:Nat}(X:World){p:Addr}(hb:own p.block)(v:Value):Moves own B X (X.setCell p v):=
 have h:Below 0 X (X.setCell p v):=(Below.refl 0 X).setCell (BK _) v
 ⟨h.os,h.tape,h.output,h.size,fun k _ hk _=>Below.heap_setCell X p v k fun e=>hk (by rw[e];exact hb)⟩
def GT(s:Spc)(a:A9):Option A9:=
 if(Ah s.files a).ino≠1 then some (a.1,(Ah s.files a).parent)
 else if a.1=0 then none else CE s a.1
def BZ(s:Spc):Nat→A9→List A9
 |0,_=>[]
 |k+1,a=>if AU s.files a then a::(match GT s a with
   |none=>[]
   |some b=>BZ s k b)else[]
def Bo(f:AR):Nat:=(f.map fun d=>d.nodes.length).sum
def KeepC(N sb db:Nat)(X Y:World):Prop:=X.heap.size≤Y.heap.size∧Y.heap[sb]?=X.heap[sb]?∧Y.heap[db]?=X.heap[db]?∧(∀b,b<N→Y.heap[b]?=X.heap[b]?)∧
 ∀(b:Nat) (cs:Array Value),X.heap[b]?=some (.cells cs 151)→Y.heap[b]?=some (.cells cs 151)
theorem KeepC.trans{N sb db:Nat}{X Y Z:World}(h:KeepC N sb db X Y)(k:KeepC N sb db Y Z):KeepC N sb db X Z:=
 ⟨Nat.le_trans h.1 k.1,k.2.1.trans h.2.1,k.2.2.1.trans h.2.2.1,fun b hb=>(k.2.2.2.1 b hb).trans (h.2.2.2.1 b hb),fun b cs hb=>k.2.2.2.2 b cs (h.2.2.2.2 b cs hb)⟩
theorem iH{N sb db B:Nat}(hN:N≤B)(hs:sb<B)(hd:db<B)(W:World)(l:Nat)(o o':Obj)(hl:B≤l)(ho:W.heap[l]?=some o)(hc:o.isCells=false):KeepC N sb db W (W.putObj l o'):=
 ⟨(grownBy_putObj' W l o').size,World.putObj_heap_other (by omega),World.putObj_heap_other (by omega),fun b hb=>World.putObj_heap_other (by omega),fun b cs hb=>by
  refine(World.putObj_heap_other fun e=>?_).trans hb;subst e;rw[ho]at hb;injection hb with hb;subst hb
  cases hc⟩
theorem XG{N sb db:Nat}{X Y:World}(h:Below X.heap.size X Y)(hN:N≤X.heap.size)(hs:sb<X.heap.size)(hd:db<X.heap.size):KeepC N sb db X Y:=
 ⟨h.size,h.block _ hs,h.block _ hd,fun b hb=>h.block _ (by omega),fun b cs hb=>(h.block _ (Array.getElem?_eq_some_iff.1 hb).1).trans hb⟩
theorem XH{f:AR}(hf:FlsB f)(j:Nat):Bo (f.take j)≤1000000:=by
 have:∀(l:AR),(∀d∈l,d.nodes.length≤1000)→Bo l≤l.length * 1000:=by
  intro l
  induction l with
  |nil=>intro _;simp[Bo]
  |cons d l ih=>
    intro h;have h1:=ih fun d hd=>h d (List.mem_cons_of_mem _ hd);have h2:=h d (List.mem_cons_self ..);simp only[Bo,List.map_cons,List.sum_cons,List.length_cons]at h1 ⊢;omega
 have h1:=this (f.take j) fun d hd=>hf.nodes d (List.mem_of_mem_take hd);have h2:=hf.few;have h3:(f.take j).length≤f.length:=by simp;omega
 have:(f.take j).length * 1000≤1000 * 1000:=Nat.mul_le_mul_right _ (by omega);omega
theorem iJ{f:AR}{j:Nat}{d:Dvc}(h:f[j]?=some d):Bo (f.take (j+1))=Bo (f.take j)+d.nodes.length:=by
 rw[List.take_add_one,h];simp[Bo]
set_option maxRecDepth 100000 in
set_option maxHeartbeats 2000000 in
theorem iK(n:Nat)(s:Spc)(hs:SpcB s)(a0:A9)(N sb db:Nat)(ds ms:Value)(w:World)(h0:w.heap[sb]?=some (.cells #[ds,ms] 42))(h1:w.heap[db]?=some (.cells #[.int .i64 a0.1, .int .i64 a0.2] 26))
    (hS:SpcIn s N w ds ms) (hNs:N≤sb) (hNd:N≤db) (hne:sb≠db):
    RX Fence.wide n prog 228 #[.pointer (some ⟨sb,0,none⟩), .pointer (some ⟨db,0,none⟩)] (fun x:A9=>#[J0 x]) (fun b=>b=db) (KeepC N sb db) (fun xs=>xs<+:BZ s (Bo s.files) a0)
     (fun xs=>xs=BZ s (Bo s.files) a0) (fun pre=>pre<+:BZ s (Bo s.files) a0) w:=fun l J Jx W hW hJ hJx hY hst=>by
 have lt_of:∀{W:World} {k:Nat} {o:Obj},W.heap[k]?=some o→k<W.heap.size:=fun h=>(Array.getElem?_eq_some_iff.1 h).1;have k0:W.heap[sb]?=some (.cells #[ds,ms] 42):=Fa h0 hW (lt_of h0);have k1:W.heap[db]?=some (.cells #[.int .i64 a0.1, .int .i64 a0.2] 26):=Fa h1 hW (lt_of h1);have kS:SpcIn s N W ds ms:=hS.below hW hS.1;obtain⟨A,cap,rfl,hcap,hcm,hdev⟩:=kS.devs;obtain⟨c0,f0⟩:=GS k0;obtain⟨c1,f1⟩:=GS k1;have hfew:=hs.files.few;have HD:=Lib.hid hdev;have HW:=Lib.hid hW;have HJ:=Lib.hid hJ;have HJx:=Lib.hid hJx;have HY:=Lib.hid hY;clear hdev hS hW hJ hJx hY h0 h1;refine callsIn_of_wp Tryz.func228 rfl trivial ?_ rfl;simp only[Tryz.ntmps228,List.size_toArray,List.length_cons,List.length_nil,Nat.reduceAdd,Nat.reduceSub,Array.replicate_succ,Array.replicate_zero,List.push_toArray,List.append_toArray,List.nil_append,List.cons_append]
 gi_wp2
 refine iG ?_
 gi_wp2
 gi_loopw [4,14] (fun t i wr=>∃j:Nat,j≤s.files.length∧i= .int .i64 j∧t= .int .i64 (Bo (s.files.take j))∧Below W.heap.size W wr) (fun _ i _=>s.files.length - (intOf i).toNat)
 case atStart=>exact⟨0,BK _,rfl,rfl,Below.refl _ _⟩
 case round=>
  obtain⟨j,hj,rfl,rfl,hb⟩:=hrel;have hNW:=kS.1;by_cases hlt:j<s.files.length
  ·obtain⟨b,off,rfl,hbN,hrow⟩:=HD.out (by omega);obtain⟨r1,A2,cap2,r2⟩:=hrow j _ (B3 hlt);have r1':=(World.cell?_of_block (w:=W) (w':=wr) (a:=⟨b,off+j * 2,none⟩) (hb.block b (by omega))).trans r1;have r2':=(World.cell?_of_block (w:=W) (w':=wr) (a:=⟨b,off+j * 2+1,none⟩) (hb.block b (by omega))).trans r2;have hM:=XH hs.files j;have hL:=hs.files.nodes _ (List.getElem_mem hlt);have HE:=Lib.hid (iJ (B3 hlt));generalize (s.files[j]).nodes.length=L at *;generalize (s.files[j]).next=nx at *;generalize Bo (s.files.take j)=M at *;clear hrow r1 r2 hs
   gi_wp2
   go_roundw
   case rel=>exact⟨j+1,by omega,by go_num,by rw[HE.out];go_num,hb.alloc hb.size _⟩
   case measure=>simp[intOf];omega
  have ej:j=s.files.length:=by omega
  subst ej;have hM:=XH hs.files s.files.length;rw[List.take_length]at hM;rw[List.take_length];have k0':=Fa k0 hb (lt_of k0);have k1':=Fa k1 hb (lt_of k1);have kS':=kS.below hb hNW;have hJ0:J [] wr:=HJ.out _ _ _ hst (Moves.below hb)
  gi_wp2
  refine wpIn_label ?_
  gi_wp2
  clear c0 f0 c1 f1 k0 k1 kS hst;obtain⟨M,hM0⟩:∃M,Bo s.files=M:=⟨_,rfl⟩;rw[hM0]at hM ⊢;have HM:=Lib.hid hM0;clear hM0
  gi_loopw [25] (fun i wr=>∃(j:Nat) (pre:List A9) (cur:A9),j≤M∧i= .int .i64 j∧J pre wr∧wr.heap[sb]?=some (.cells #[.slice A s.files.length cap,ms] 42)∧
   wr.heap[db]?=some (.cells #[.int .i64 cur.1, .int .i64 cur.2] 26)∧SpcIn s N wr (.slice A s.files.length cap) ms∧Hid (pre++BZ s (M - j) cur=BZ s M a0)) (fun i _=>M - (intOf i).toNat)
  case atStart=>exact⟨0,[],a0,BK _,rfl,hJ0,k0',k1',kS',rfl⟩
  case round=>
   obtain⟨j,pre,cur,hj,rfl,hJp,m0,m1,mS,hch⟩:=hrel;clear k0' k1' kS' hJ0;obtain⟨c0,f0⟩:=GS m0;obtain⟨c1,f1⟩:=GS m1;by_cases hlt:j<M
   ·have HC:Hid (BZ s (M - j) cur=if AU s.files cur then cur::(match GT s cur with
       |none=>[]
       |some b=>BZ s (M - (j+1)) b)else[]):=by
       rw[show M - j=(M - (j+1))+1 by omega];exact Lib.hid rfl
    gi_wp2_with fail
    refine Na ((callsIn_wide.2 (iB mS hs cur)).mono ?_);rintro e w1 ⟨⟨eA,em,ec,rfl⟩,hb1⟩;have HB1:=Lib.hid hb1;have HD1:=Lib.hid (Md s.files cur);obtain⟨nd,hnd⟩:∃nd,Ah s.files cur=nd:=⟨_,rfl⟩;have HN:=Lib.hid hnd;obtain⟨hg,hhg⟩:∃hg,Dc s.files cur=hg:=⟨_,rfl⟩;have HH:=Lib.hid hhg;have n0:=Fa m0 hb1 (lt_of m0);have n1:=Fa m1 hb1 (lt_of m1);have nS:=mS.below hb1 mS.1;have hz:=hb1.size;clear c0 f0 c1 f1;obtain⟨c0,f0⟩:=GS n0;obtain⟨c1,f1⟩:=GS n1;rw[hnd,hhg];clear hb1 hnd hhg
    cases hg with
    |false=>
      have HE:Hid (BZ s (M - j) cur=[]):=Lib.hid (by rw[HC.out,HD1.out,HH.out];simp)
      gi_wp2
      refine⟨fun _ h=>(by cases h),?_⟩
      gi_wp2
      rw[Exit.noGoto_ret];refine bodyPost_ret (results_none rfl _ _ _) rfl ?_;exact⟨⟨_,rfl⟩, .inl ⟨pre,by rw[HM.out,←hch.out,HE.out];simp,HJ.out _ _ _ hJp (Moves.below (HB1.out.alloc hz _))⟩⟩
    |true=>
      by_cases hk:nd.kind=2
      ·have HE:Hid (BZ s (M - j) cur=cur::(match GT s cur with
          |none=>[]
          |some b=>BZ s (M - (j+1)) b)):=Lib.hid (by rw[HC.out,HD1.out,HH.out,HN.out];simp[hk])
       obtain⟨W2,hW2⟩:∃W2,w1.alloc (.cells #[.int .i64 nd.ino, .int .i64 2, .int .i64 nd.mode, .int .i64 nd.uid, .int .i64 nd.gid, .int .i64 nd.parent, .string nd.target, .slice eA em ec] 151)=W2:=⟨_,rfl⟩;have hB2:Below wr.heap.size wr W2:=by rw[←hW2];exact HB1.out.alloc hz _
       have hJ2:J pre W2:=HJ.out _ _ _ hJp (Moves.below hB2);have q7:W2.heap[w1.heap.size]?=some (.cells #[.int .i64 nd.ino, .int .i64 2, .int .i64 nd.mode, .int .i64 nd.uid, .int .i64 nd.gid, .int .i64 nd.parent, .string nd.target, .slice eA em ec] 151):=by rw[←hW2];exact OJ _ _
       have q0:=Fa m0 hB2 (lt_of m0);have q1:=Fa m1 hB2 (lt_of m1);have qS:=mS.below hB2 mS.1;obtain⟨fn,tmps,assign,body,hy,hR⟩:=HY.out pre cur W2 hJ2 (by rw[HM.out,←hch.out,HE.out];exact⟨_,by rw[List.append_assoc];rfl⟩);rw[←hW2]at hy;unfold J0 at hy;have HH2:=Lib.hid hW2;clear hW2
       gi_wp2
       refine⟨(fun h=>by cases h),?_⟩;rw[HH2.out];refine hR.mono ?_;rintro e W3 (⟨rfl,hJ3,hk3⟩|⟨rfl,hJx3⟩)
       ·obtain⟨z0,z1,z2,z3,z4⟩:=hk3;have r0:=z1.trans q0;have r1:=z2.trans q1;have r7:=z4 _ _ q7;have rS:=qS.keep z0 z3;clear hy hR c0 f0 c1 f1 q0 q1 q7 qS;obtain⟨c0,f0⟩:=GS r0;obtain⟨c1,f1⟩:=GS r1;obtain⟨c7,f7⟩:=GS r7;by_cases hi:nd.ino=1
        ·gi_wp2_with fail
         refine Na ((callsIn_wide.2 (iE rS hs cur.1)).mono ?_);rintro e w4 ⟨rfl,hb4⟩;have HP:=Lib.hid (show GT s cur=if cur.1=0 then none else CE s cur.1 by unfold GT;rw[HN.out,if_neg (by simp[hi])]);obtain⟨pl,hpl⟩:∃pl,CE s cur.1=pl:=⟨_,rfl⟩;rw[hpl];have HPL:=Lib.hid hpl;have s0:=Fa r0 hb4 (lt_of r0);have s1:=Fa r1 hb4 (lt_of r1);have sS:=rS.below hb4 rS.1;have sz:=hb4.size;have sJ:=HJ.out _ _ _ hJ3 (Moves.below hb4);clear c0 f0 c1 f1 c7 f7 hb4 hpl r0 r1 r7 rS;obtain⟨c0,f0⟩:=GS s0;obtain⟨c1,f1⟩:=GS s1;unfold J0
         cases pl with
         |none=>
           have HS:Hid (GT s cur=none):=Lib.hid (by rw[HP.out,HPL.out];split<;>rfl)
           gi_wp2
           rw[Exit.noGoto_ret];refine bodyPost_ret (results_none rfl _ _ _) rfl ?_;exact⟨⟨_,rfl⟩, .inl ⟨pre++[cur],by rw[HM.out,←hch.out,HE.out,HS.out],HJ.out _ _ _ sJ (Moves.below ((Below.refl _ _).alloc (B6 _) _))⟩⟩
         |some on=>
           by_cases hd:cur.1=0
           ·have HS:Hid (GT s cur=none):=Lib.hid (by rw[HP.out,if_pos hd])
            gi_wp2
            rw[Exit.noGoto_ret];refine bodyPost_ret (results_none rfl _ _ _) rfl ?_;exact⟨⟨_,rfl⟩, .inl ⟨pre++[cur],by rw[HM.out,←hch.out,HE.out,HS.out],HJ.out _ _ _ sJ (Moves.below ((Below.refl _ _).alloc (B6 _) _))⟩⟩
           have HS:Hid (GT s cur=some on):=Lib.hid (by rw[HP.out,if_neg hd,HPL.out])
           gi_wp2
           have t1:=Hf (OH (OH s1 0 (.int .i64 on.1)) 1 (.int .i64 on.2)) (.cells #[.int .i64 on.1, .int .i64 on.2] 26);have t0:=Hf (NU (NU s0 (p:=⟨db,0,none⟩) hne (.int .i64 on.1)) (p:=⟨db,1,none⟩) hne (.int .i64 on.2)) (.cells #[.int .i64 on.1, .int .i64 on.2] 26)
           have hb5:Below N w4 (((w4.setCell ⟨db,0,none⟩ (.int .i64 on.1)).setCell ⟨db,1,none⟩ (.int .i64 on.2)).alloc (.cells #[.int .i64 on.1, .int .i64 on.2] 26)):=
            (((Below.refl _ _).setCell hNd _).setCell hNd _).alloc (by simpa using sS.1) _
           refine⟨⟨j+1,pre++[cur],on,by omega,by go_num,?_,t0,by simpa using t1,sS.below hb5 (B6 _),Lib.hid ?_⟩,by simp[intOf];omega⟩
           ·exact HJ.out _ _ _ (HJ.out _ _ _ (HJ.out _ _ _ sJ (Moves.setc (own:=fun b=>b=db) (p:=⟨db,0,none⟩) _ rfl _)) (Moves.setc (own:=fun b=>b=db) (p:=⟨db,1,none⟩) _ rfl _)) (Moves.below ((Below.refl _ _).alloc (B6 _) _))
           rw[←hch.out,HE.out,HS.out];simp
        have HS:Hid (GT s cur=some (cur.1,nd.parent)):=Lib.hid (by unfold GT;rw[HN.out,if_pos hi])
        gi_wp2
        have m1':=OH r1 1 (.int .i64 nd.parent);have m0':=NU r0 (p:=⟨db,1,none⟩) hne (.int .i64 nd.parent);have hb4:Below N W3 (W3.setCell ⟨db,1,none⟩ (.int .i64 nd.parent)):=(Below.refl _ _).setCell hNd _;refine⟨⟨j+1,pre++[cur],(cur.1,nd.parent),by omega,by go_num,HJ.out _ _ _ hJ3 (Moves.setc (own:=fun b=>b=db) (p:=⟨db,1,none⟩) _ rfl _),m0',by simpa using m1',rS.below hb4 (B6 _),Lib.hid ?_⟩,by simp[intOf];omega⟩;rw[←hch.out,HE.out,HS.out];simp
       clear hy hR
       gi_wp2
       rw[Exit.noGoto_ret];refine bodyPost_ret (results_none rfl _ _ _) rfl ?_;exact⟨⟨_,rfl⟩, .inr ⟨pre++[cur],by rw[HM.out,←hch.out,HE.out];exact⟨_,by rw[List.append_assoc];rfl⟩,hJx3⟩⟩
      have HE:Hid (BZ s (M - j) cur=[]):=Lib.hid (by rw[HC.out,HD1.out,HH.out,HN.out];simp[hk])
      gi_wp2
      refine⟨fun _ h=>(by cases h),?_⟩
      gi_wp2
      rw[Exit.noGoto_ret];refine bodyPost_ret (results_none rfl _ _ _) rfl ?_;exact⟨⟨_,rfl⟩, .inl ⟨pre,by rw[HM.out,←hch.out,HE.out];simp,HJ.out _ _ _ hJp (Moves.below (HB1.out.alloc hz _))⟩⟩
   have HC:Hid (BZ s (M - j) cur=[]):=by rw[show M - j=0 by omega];exact Lib.hid rfl
   gi_wp2
   rw[Exit.noGoto_normal]
   go_end0
   exact⟨⟨_,rfl⟩, .inl ⟨pre,by rw[HM.out,←hch.out,HC.out];simp,hJp⟩⟩
end Go.Proofs.YtbgnigjfkbmceaaGreatDoor
namespace Go.Proofs.YtbgnigjfkbmceaaGreatDoor
open Go.RowKit
theorem Hg{es:List BQ}{j:Nat}{e:BQ}(h:es[j]?=some e)(name:AE)(ino:Int)(dn:Bool):Jf name ino dn (es.drop j)=(if !dn&& !He e.1 name then[(name,ino)]else[])++((if e.1=name then[]else[e])++Jf name ino (dn|| !He e.1 name) (es.drop (j+1))):=by
 obtain⟨hj,rfl⟩:=Af.1 h;rw[List.drop_eq_getElem_cons hj];rfl
section
theorem PV(f:AR)(q:Nat)(d:Dvc)(n:Nod)(i:Nat)(a:A9)(name:AE)(ino:Int)(cap cap1:Nat)(hf:FlsB f)(hq:f[q]?=some d)(ha:a.1=(q:Int))(hi:Hy f a=(i:Int))(hn:d.nodes[i]?=some n)(hcap:f.length≤cap)(hcap1:d.nodes.length≤cap1):
    ACall prog 232 [.agg [.bs 0 0 2 f.length cap], .agg (AB a), .v (.string name), .v (.int .i64 ino)] [DB f q d 1 cap cap1,NB d.nodes cap1] (fun r b t=>t=[]∧r= .tup []∧b=[DB f q d 1 cap cap1,NB (d.nodes.set i {n with entries:=D9 n.entries name ino}) cap1]):=by
 have hql:=(Af.1 hq).1;have hil:=(Af.1 hn).1;have hen:=hf.ents d (Ag hq) n (Ag hn);have hN0:0+i * 8+8≤(NB d.nodes cap1).length:=by rw[PR hcap1];omega
 have hD0:(DB f q d 1 cap cap1)[0+q * 2+1]?=some (.bs 1 0 8 d.nodes.length cap1):=PT hql;have hset:SetAt (NB d.nodes cap1) (0+i * 8+7) [.sl 2 ((D9 n.entries name ino).map DO) none] (NB (d.nodes.set i {n with entries:=D9 n.entries name ino}) cap1):=Tc hn (by repeat constructor) (by simp);refine enter Tryz.func232 rfl rfl rfl rfl rfl 2 rfl ?_;refine Dh (h:=e_ (?_));refine B9 (fun t=>t=⟨look [(2, .v (.string name)),(3, .v (.int .i64 ino)),(4, .bp 2 0),(5, .bp 3 0),(8, .bp 4 0)],⟨[DB f q d 1 cap cap1,NB d.nodes cap1,[.bs 0 0 2 f.length cap],AB a,Ac n],[]⟩⟩) ?_ ?_
 ·skip
  refine BS ([(0,DB f q d 1 cap cap1),(1,NB d.nodes cap1),(2,[.bs 0 0 2 f.length cap]),(3,AB a)]) 13 (h:=AD 0 (h:=?_));refine AA 1 (h:=?_);refine AD 2 (h:=?_);refine AA 3 (h:=?_);refine CC 4 rfl (fun _ hS=>Dy (m:=q) rfl rfl ha hql ⟨rfl,rfl⟩) ?_;refine AD 5 (h:=?_)
  first|refine AA 6 (h:=?_)|refine CC 6 rfl (fun _ hS=>Dq (row:=DB f q d 1 cap cap1) rfl (kb hS rfl) hD0 ⟨rfl,rfl⟩) ?_
  refine AA 7 (h:=?_);refine AA 8 (h:=?_);refine DS 9 12 rfl rfl ?_ ?_
  ·refine Ds 2 rfl (.cons _ _ _ _ _ rfl (LeA.of_eq (Mo hq hcap hcap1 (BK _) (BK _) rfl rfl)) (.cons _ _ _ _ _ rfl (A7 _) .nil)) (Me f a hf) ?_;rintro r rfl;refine⟨rfl,?_⟩;refine o_ (h:=?_);refine CC 10 rfl (fun _ hS=>Dy (m:=i) rfl rfl hi hil ⟨rfl,rfl⟩) ?_
   first|refine AA 11 (h:=?_)|refine CC 11 rfl (fun _ hS=>Dq (row:=DB f q d 1 cap cap1) rfl (kb hS rfl) hD0 ⟨rfl,rfl⟩) ?_|refine CC 11 rfl (fun _ hS=>Mp (row:=NB d.nodes cap1) rfl (kb hS rfl) hN0 (RO hn) ⟨rfl,rfl⟩) ?_
   refine c_ 12 rfl (BV (by repeat constructor) ?_);refine o_ (h:=?_);refine Ak 13 (h:=z_ (h:=?_));refine AM ?_;exact⟨_,rfl,Bk 5 0 (by simp[AY,AX,AW,Cl,Cm,AB,Ac])⟩
  refine BV (by repeat constructor) ?_;refine o_ (h:=?_);refine c_ 9 rfl (Ds 2 rfl (.cons _ _ _ _ _ rfl (LeA.of_eq (Mo hq hcap hcap1 (BK _) (BK _) rfl rfl)) (.cons _ _ _ _ _ rfl (A7 _) .nil)) (Me f a hf) ?_);rintro r rfl;refine⟨rfl,?_⟩;refine o_ (h:=?_);refine CC 10 rfl (fun _ hS=>Dy (m:=i) rfl rfl hi hil ⟨rfl,rfl⟩) ?_
  first|refine AA 11 (h:=?_)|refine CC 11 rfl (fun _ hS=>Dq (row:=DB f q d 1 cap cap1) rfl (kb hS rfl) hD0 ⟨rfl,rfl⟩) ?_|refine CC 11 rfl (fun _ hS=>Mp (row:=NB d.nodes cap1) rfl (kb hS rfl) hN0 (RO hn) ⟨rfl,rfl⟩) ?_
  refine Ak 13 (h:=z_ (h:=?_));refine AM ?_;exact⟨_,rfl,Bk 5 0 (by simp[AY,AX,AW,Cl,Cm,AB,Ac])⟩
 rintro t rfl;refine Eh (h:=Ed (h:=CW (h:=?_)));refine MS 9 234 2 rfl (by repeat constructor) ?_;refine BR (fun m t=>∃(j:Nat) (acc:List BQ) (dn:Bool),j≤n.entries.length∧m=n.entries.length - j∧acc++Jf name ino dn (n.entries.drop j)=D9 n.entries name ino∧acc.length≤2 * j∧t=⟨look [(2, .v (.string name)),(3, .v (.int .i64 ino)),(4, .bp 2 0),(5, .bp 3 0),(8, .bp 4 0),(9, .sl 2 (acc.map DO) (some 0)),(10, .v (.bool dn)),(11, .v (.int .i64 (j:Int)))],⟨[DB f q d 1 cap cap1,NB d.nodes cap1,[.bs 0 0 2 f.length cap],AB a,Ac n],[(234,2,acc.map DO)]⟩⟩) (n.entries.length) (Bk 5 1 (by simp[AY,AX,AW,Cl,Cm,AB,Ac])) (⟨0,[],_,BK _,rfl,rfl,by simp,rfl⟩) ?_;rintro m t ⟨j,acc,dn,hj,rfl,hacc,hal,rfl⟩;refine GN (h:=?_);refine A4 rfl (fun hb1 hc1=>?_) (fun hb1 hc1=>?_)
 ·obtain⟨hlt,e,hy,hrow, -⟩:=Bz DO hc1;refine C2 (h:=Bv (h:=EV (h:=?_)));refine AJ true rfl rfl (fun hb2 hc2=>?_) (fun hb2 hc2=>?_)
  ·have hdn:=hc2;refine Ab (h:=JJ (h:=Gj (h:=EJ (h:=Bj (h:=e_ (?_))))));refine A4 rfl (fun hb3 hc3=>?_) (fun hb3 hc3=>?_)
   ·have hsl:He e.1 name=false:=hc3;refine w_ (m_ (h:=m_ (h:=m_ (h:=Bq (h:=BY (h:=Gg (h:=a_ (h:=e_ (Av (a_ (h:=e_ (w_ (f_ (h:=l_ (h:=m_ (h:=i_ (h:=f_ (h:=l_ (h:=m_ (h:=GH (h:=e_ (?_))))))))))))))))))))));refine A4 rfl (fun hb4 hc4=>?_) (fun hb4 hc4=>?_)
    ·have hnm:¬e.1=name:=hc4;refine Av (m_ (h:=f_ (h:=l_ (h:=m_ (h:=i_ (h:=l_ (h:=BY (h:=Gg (h:=a_ (h:=C1 (BB (t_ (Av (m_ (h:=ES (h:=a_ (h:=C1 (AM (?_)))))))))))))))))))
     (exact⟨n.entries.length - (j+1),_,by omega,⟨j+1,acc++[(name,ino)]++[e],true,by omega,rfl,(by rw[←hacc,Hg hy];first|(simp only[hsl,hdn];simp[hnm];done)|(simp only[hdn];simp[hnm];done)),(by(try simp);omega),rfl⟩,(by(try simp only[List.map_append,List.map_cons,List.map_nil]);exact Bk 5 1 (by simp[AY,AX,AW,Cl,Cm,AB,Ac]))⟩)
    have hnm:e.1=name:=hc4;refine DL (h:=?_)
    first|(exact⟨n.entries.length - (j+1),_,by omega,⟨j+1,acc++[(name,ino)]++[e],true,by omega,rfl,(by rw[←hacc,Hg hy];first|(simp only[hsl,hdn];simp[hnm];done)|(simp only[hdn];simp[hnm];done)),(by(try simp);omega),rfl⟩,(by(try simp only[List.map_append,List.map_cons,List.map_nil]);exact Bk 5 1 (by simp[AY,AX,AW,Cl,Cm,AB,Ac]))⟩)|(exact⟨n.entries.length - (j+1),_,by omega,⟨j+1,acc++[(name,ino)],true,by omega,rfl,(by rw[←hacc,Hg hy];first|(simp only[hsl,hdn];simp[hnm];done)|(simp only[hdn];simp[hnm];done)),(by(try simp);omega),rfl⟩,(by(try simp only[List.map_append,List.map_cons,List.map_nil]);exact Bk 5 1 (by simp[AY,AX,AW,Cl,Cm,AB,Ac]))⟩)
   have hsl:He e.1 name=true:=hc3;refine AG (Fu (h:=Gj (h:=Bn (h:=?_))));refine A4 rfl (fun hb5 hc5=>?_) (fun hb5 hc5=>?_)
   ·have hnm:¬e.1=name:=hc5;refine Av (m_ (h:=f_ (h:=l_ (h:=m_ (h:=i_ (h:=l_ (h:=BY (h:=Gg (h:=a_ (h:=C1 (BB (t_ (Av (m_ (h:=ES (h:=a_ (h:=C1 (AM (?_)))))))))))))))))))
    first|(exact⟨n.entries.length - (j+1),_,by omega,⟨j+1,acc++[(name,ino)]++[e],true,by omega,rfl,(by rw[←hacc,Hg hy];first|(simp only[hsl,hdn];simp[hnm];done)|(simp only[hdn];simp[hnm];done)),(by(try simp);omega),rfl⟩,(by(try simp only[List.map_append,List.map_cons,List.map_nil]);exact Bk 5 1 (by simp[AY,AX,AW,Cl,Cm,AB,Ac]))⟩)|(exact⟨n.entries.length - (j+1),_,by omega,⟨j+1,acc++[(name,ino)],true,by omega,rfl,(by rw[←hacc,Hg hy];first|(simp only[hsl,hdn];simp[hnm];done)|(simp only[hdn];simp[hnm];done)),(by(try simp);omega),rfl⟩,(by(try simp only[List.map_append,List.map_cons,List.map_nil]);exact Bk 5 1 (by simp[AY,AX,AW,Cl,Cm,AB,Ac]))⟩)|(exact⟨n.entries.length - (j+1),_,by omega,⟨j+1,acc++[e],dn,by omega,rfl,(by rw[←hacc,Hg hy];first|(simp only[hsl,hdn];simp[hnm];done)|(simp only[hdn];simp[hnm];done)),(by(try simp);omega),rfl⟩,(by(try simp only[List.map_append,List.map_cons,List.map_nil]);exact Bk 5 1 (by simp[AY,AX,AW,Cl,Cm,AB,Ac]))⟩)
   have hnm:e.1=name:=hc5;refine DL (h:=?_)
   first|(exact⟨n.entries.length - (j+1),_,by omega,⟨j+1,acc++[(name,ino)]++[e],true,by omega,rfl,(by rw[←hacc,Hg hy];first|(simp only[hsl,hdn];simp[hnm];done)|(simp only[hdn];simp[hnm];done)),(by(try simp);omega),rfl⟩,(by(try simp only[List.map_append,List.map_cons,List.map_nil]);exact Bk 5 1 (by simp[AY,AX,AW,Cl,Cm,AB,Ac]))⟩)|(exact⟨n.entries.length - (j+1),_,by omega,⟨j+1,acc++[(name,ino)],true,by omega,rfl,(by rw[←hacc,Hg hy];first|(simp only[hsl,hdn];simp[hnm];done)|(simp only[hdn];simp[hnm];done)),(by(try simp);omega),rfl⟩,(by(try simp only[List.map_append,List.map_cons,List.map_nil]);exact Bk 5 1 (by simp[AY,AX,AW,Cl,Cm,AB,Ac]))⟩)|(exact⟨n.entries.length - (j+1),_,by omega,⟨j+1,acc++[e],dn,by omega,rfl,(by rw[←hacc,Hg hy];first|(simp only[hsl,hdn];simp[hnm];done)|(simp only[hdn];simp[hnm];done)),(by(try simp);omega),rfl⟩,(by(try simp only[List.map_append,List.map_cons,List.map_nil]);exact Bk 5 1 (by simp[AY,AX,AW,Cl,Cm,AB,Ac]))⟩)|(exact⟨n.entries.length - (j+1),_,by omega,⟨j+1,acc,dn,by omega,rfl,(by rw[←hacc,Hg hy];first|(simp only[hsl,hdn];simp[hnm];done)|(simp only[hdn];simp[hnm];done)),(by(try simp);omega),rfl⟩,(by(try simp only[List.map_append,List.map_cons,List.map_nil]);exact Bk 5 1 (by simp[AY,AX,AW,Cl,Cm,AB,Ac]))⟩)
  have hdn:=hc2;refine BT (h:=BT (h:=Fj (h:=AG (Fu (h:=Gj (h:=Bn (h:=?_)))))));refine A4 rfl (fun hb6 hc6=>?_) (fun hb6 hc6=>?_)
  ·have hnm:¬e.1=name:=hc6;refine Av (m_ (h:=f_ (h:=l_ (h:=m_ (h:=i_ (h:=l_ (h:=BY (h:=Gg (h:=a_ (h:=C1 (BB (t_ (Av (m_ (h:=ES (h:=a_ (h:=C1 (AM (?_)))))))))))))))))))
   first|(exact⟨n.entries.length - (j+1),_,by omega,⟨j+1,acc++[(name,ino)]++[e],true,by omega,rfl,(by rw[←hacc,Hg hy];first|(simp only[hsl,hdn];simp[hnm];done)|(simp only[hdn];simp[hnm];done)),(by(try simp);omega),rfl⟩,(by(try simp only[List.map_append,List.map_cons,List.map_nil]);exact Bk 5 1 (by simp[AY,AX,AW,Cl,Cm,AB,Ac]))⟩)|(exact⟨n.entries.length - (j+1),_,by omega,⟨j+1,acc++[(name,ino)],true,by omega,rfl,(by rw[←hacc,Hg hy];first|(simp only[hsl,hdn];simp[hnm];done)|(simp only[hdn];simp[hnm];done)),(by(try simp);omega),rfl⟩,(by(try simp only[List.map_append,List.map_cons,List.map_nil]);exact Bk 5 1 (by simp[AY,AX,AW,Cl,Cm,AB,Ac]))⟩)|(exact⟨n.entries.length - (j+1),_,by omega,⟨j+1,acc++[e],dn,by omega,rfl,(by rw[←hacc,Hg hy];first|(simp only[hsl,hdn];simp[hnm];done)|(simp only[hdn];simp[hnm];done)),(by(try simp);omega),rfl⟩,(by(try simp only[List.map_append,List.map_cons,List.map_nil]);exact Bk 5 1 (by simp[AY,AX,AW,Cl,Cm,AB,Ac]))⟩)
  have hnm:e.1=name:=hc6;refine DL (h:=?_)
  first|(exact⟨n.entries.length - (j+1),_,by omega,⟨j+1,acc++[(name,ino)]++[e],true,by omega,rfl,(by rw[←hacc,Hg hy];first|(simp only[hsl,hdn];simp[hnm];done)|(simp only[hdn];simp[hnm];done)),(by(try simp);omega),rfl⟩,(by(try simp only[List.map_append,List.map_cons,List.map_nil]);exact Bk 5 1 (by simp[AY,AX,AW,Cl,Cm,AB,Ac]))⟩)|(exact⟨n.entries.length - (j+1),_,by omega,⟨j+1,acc++[(name,ino)],true,by omega,rfl,(by rw[←hacc,Hg hy];first|(simp only[hsl,hdn];simp[hnm];done)|(simp only[hdn];simp[hnm];done)),(by(try simp);omega),rfl⟩,(by(try simp only[List.map_append,List.map_cons,List.map_nil]);exact Bk 5 1 (by simp[AY,AX,AW,Cl,Cm,AB,Ac]))⟩)|(exact⟨n.entries.length - (j+1),_,by omega,⟨j+1,acc++[e],dn,by omega,rfl,(by rw[←hacc,Hg hy];first|(simp only[hsl,hdn];simp[hnm];done)|(simp only[hdn];simp[hnm];done)),(by(try simp);omega),rfl⟩,(by(try simp only[List.map_append,List.map_cons,List.map_nil]);exact Bk 5 1 (by simp[AY,AX,AW,Cl,Cm,AB,Ac]))⟩)|(exact⟨n.entries.length - (j+1),_,by omega,⟨j+1,acc,dn,by omega,rfl,(by rw[←hacc,Hg hy];first|(simp only[hsl,hdn];simp[hnm];done)|(simp only[hdn];simp[hnm];done)),(by(try simp);omega),rfl⟩,(by(try simp only[List.map_append,List.map_cons,List.map_nil]);exact Bk 5 1 (by simp[AY,AX,AW,Cl,Cm,AB,Ac]))⟩)
 have e:=CD DO hj hc1;subst e;rw[List.drop_length]at hacc;refine CK (h:=Bv (h:=DE (h:=?_)));refine A4 rfl (fun hb7 hc7=>?_) (fun hb7 hc7=>?_)
 ·have hdn:dn=false:=hc7;have ea:acc++[(name,ino)]=D9 n.entries name ino:=by rw[←hacc,hdn];rfl
  refine Av (m_ (h:=m_ (h:=m_ (h:=Bq (h:=BY (h:=Gg (h:=a_ (h:=e_ (BS ([(0,DB f q d 1 cap cap1),(2,[.bs 0 0 2 f.length cap]),(3,AB a),(4,Ac n)]) 14 (h:=AD 0 (h:=?_)))))))))));refine AA 1 (h:=?_);refine AD 2 (h:=?_);refine AA 3 (h:=?_);refine CC 4 rfl (fun _ hS=>Dy (m:=q) rfl rfl ha hql ⟨rfl,rfl⟩) ?_;refine AD 5 (h:=?_)
  first|refine AA 6 (h:=?_)|refine CC 6 rfl (fun _ hS=>Dq (row:=DB f q d 1 cap cap1) rfl (kb hS rfl) hD0 ⟨rfl,rfl⟩) ?_
  refine AA 7 (h:=?_);refine AA 8 (h:=?_);refine CC 10 rfl (fun _ hS=>Hk (y:= .sl 2 ((D9 n.entries name ino).map DO) none) (LO rfl ⟨rfl,rfl⟩) (by rw[←ea];(try simp only[List.map_append,List.map_cons,List.map_nil]);exact LeA.tok _ _ _) ⟨rfl,rfl⟩) ?_;refine c_ 9 rfl (Ds 2 rfl (.cons _ _ _ _ _ rfl (LeA.of_eq (Mo hq hcap hcap1 (BK _) (BK _) rfl rfl)) (.cons _ _ _ _ _ rfl (A7 _) .nil)) (Me f a hf) ?_);rintro r rfl;refine⟨rfl,?_⟩;refine o_ (h:=?_);refine CC 11 rfl (fun _ hS=>Dy (m:=i) rfl rfl hi hil ⟨rfl,rfl⟩) ?_;refine AD 12 (h:=?_);refine Hn 13 rfl (Eo rfl rfl rfl rfl rfl rfl hset (by repeat constructor) ?_);refine Hb (h:=?_);refine R9 (r:= .tup []) none (h4:=(by simp[AY,Cl,Cm])) (h5:=(A7 _)) (h6:=⟨rfl,rfl,rfl⟩)
 have hdn:dn=true:=hc7;have ea:acc=D9 n.entries name ino:=by rw[←hacc,hdn];simp[Jf]
 refine AG (BS ([(0,DB f q d 1 cap cap1),(2,[.bs 0 0 2 f.length cap]),(3,AB a),(4,Ac n)]) 14 (h:=AD 0 (h:=?_)));refine AA 1 (h:=?_);refine AD 2 (h:=?_);refine AA 3 (h:=?_);refine CC 4 rfl (fun _ hS=>Dy (m:=q) rfl rfl ha hql ⟨rfl,rfl⟩) ?_;refine AD 5 (h:=?_)
 first|refine AA 6 (h:=?_)|refine CC 6 rfl (fun _ hS=>Dq (row:=DB f q d 1 cap cap1) rfl (kb hS rfl) hD0 ⟨rfl,rfl⟩) ?_
 refine AA 7 (h:=?_);refine AA 8 (h:=?_);refine CC 10 rfl (fun _ hS=>Hk (y:= .sl 2 ((D9 n.entries name ino).map DO) none) (LO rfl ⟨rfl,rfl⟩) (by rw[←ea];(try simp only[List.map_append,List.map_cons,List.map_nil]);exact LeA.tok _ _ _) ⟨rfl,rfl⟩) ?_;refine c_ 9 rfl (Ds 2 rfl (.cons _ _ _ _ _ rfl (LeA.of_eq (Mo hq hcap hcap1 (BK _) (BK _) rfl rfl)) (.cons _ _ _ _ _ rfl (A7 _) .nil)) (Me f a hf) ?_);rintro r rfl;refine⟨rfl,?_⟩;refine o_ (h:=?_);refine CC 11 rfl (fun _ hS=>Dy (m:=i) rfl rfl hi hil ⟨rfl,rfl⟩) ?_;refine AD 12 (h:=?_);refine Hn 13 rfl (Eo rfl rfl rfl rfl rfl rfl hset (by repeat constructor) ?_);refine Hb (h:=?_);refine R9 (r:= .tup []) none (h4:=(by simp[AY,Cl,Cm])) (h5:=(A7 _)) (h6:=⟨rfl,rfl,rfl⟩)
end
end Go.Proofs.YtbgnigjfkbmceaaGreatDoor
