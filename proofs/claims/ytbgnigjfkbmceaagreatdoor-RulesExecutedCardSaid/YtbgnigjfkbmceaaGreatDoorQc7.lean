/-
  Part 7 of the proof of RulesExecutedP: what the statement's proof uses of the texts in wip/tpl.
-/
import Derived.Lib.Strings
import Derived.Lib.IndexLaws
import Derived.Lib.LastIndexByte
import Derived.Lib.IndexAny
import Derived.Lib.Hide
import Derived.Test.YtbgnigjfkbmceaaGreatDoorProg
import Derived.WalkKit
import Derived.WalkSpells
import Derived.WalkLawsBesides
import Derived.Deep.QuietTactic
import Derived.BigQuiet
import Derived.Outline
import Derived.RangeFuncNested
import Derived.RangeFuncBound
import Derived.RangeFuncCalls
import Derived.RangeFuncLeaves
import Derived.Shelf.Abstract
import Derived.Shelf.RegionOpen
import Derived.OwnWalkIn
import Derived.TacticsInMore
import Derived.LoopNIn
import Derived.LoopIn
import Derived.WalkMore
import Derived.Test.YtbgnigjfkbmceaaGreatDoorQc6
open Go.Proofs.Tryz (prog)
set_option maxRecDepth 10000
set_option maxHeartbeats 4000000
set_option linter.unusedVariables false
set_option linter.unusedSimpArgs false
namespace Go.Proofs.YtbgnigjfkbmceaaGreatDoor.Old
open Go.RowKit
theorem Xl{y:Nod×Value}(h:y.2.oneCell'=true)(j:Nat):(nodCell y j).oneCell'=true:=by
 unfold nodCell;split<;>first|rfl|exact h
theorem Xm(n:Nod)(e:Value):∀j,j<8→(#[.int .i64 n.ino, .int .i64 n.kind, .int .i64 n.mode, .int .i64 n.uid, .int .i64 n.gid, .int .i64 n.parent, .string n.target,e]:Array Value)[j]?=some (nodCell (n,e) j):=by
 intro j hj
 match j,hj with
 |0,_=>rfl
 |1,_=>rfl
 |2,_=>rfl
 |3,_=>rfl
 |4,_=>rfl
 |5,_=>rfl
 |6,_=>rfl
 |7,_=>rfl
theorem Xn{w:World}{v:Value}{L:List EJ}{dvv:Value}{S:Nat}{next:Int}{ns:List Nod}{k:Nat}{nvv:Value}{ys:List (Nod×Value)}{wr W4 W5:World}(h:KF w v L dvv S next ns k nvv ys wr)(h4:Below wr.heap.size wr W4)
    (h5:W4.grownBy W5 nvv.ownBlock):W5.heap[S]?=some (.cells #[.int .i64 next,nvv] 148 (0,0)):=
 Lq (Hj h.2.1 h4 (KG h.2.1)) h5 (fun e=>(h.2.2.2.2.1 S (List.mem_append_left _ (mem_blk.2 e.symm))).2 rfl)
theorem Sz{α:Type}{sz:Nat}{cell:α→Nat→Value}{E:TypeId}{w:World}{base:Nat}{v:Value}{xs:List α}(h:OwnL sz cell E w base v xs){n:Nat}(hn:xs.length=n):∃A c,v= .slice A n c:=by
 subst hn;exact h.form
theorem T0{w:World}{base:Nat}{v:Value}{L:List EJ}(h:DvcsAt w base v L){b:Nat}{cs:Array Value}(hb:w.heap[b]?=some (.cells cs 39 (0,0))):b∉fpD v L:=by
 intro hm;rcases List.mem_append.1 hm with hm|hm
 ·exact h.1.not_mem hb (by decide) hm
 obtain⟨x,hx,hm⟩:=List.mem_flatMap.1 hm;have hx5:=(h.2.1 x hx).1;rcases List.mem_append.1 hm with hm|hm
 ·exact hx5.1.not_mem hb (by decide) hm
 obtain⟨y,hy,hm⟩:=List.mem_flatMap.1 hm;exact(hx5.2.1 y hy).1.not_mem hb (by decide) hm
theorem Xo{w:World}{v:Value}{L:List EJ}{dvv:Value}{S:Nat}{next:Int}{ns:List Nod}{k:Nat}{nvv:Value}{ys:List (Nod×Value)}{wr W5:World}{o:Obj}(h:KF w v L dvv S next ns k nvv ys wr)
    (h5:(wr.alloc o).grownBy W5 dvv.ownBlock):W5.heap[w.heap.size+1+1]?=some (.cells #[dvv] 39 (0,0)):=
 Lq (GC h.2.2.2.2.2.2.2.1 o) h5 (fun e=>T0 h.2.2.2.1 h.2.2.2.2.2.2.2.1 (List.mem_append_left _ (mem_blk.2 e.symm)))
theorem Xp(nx:Int)(v:Value)(ys:List (Nod×Value)):∀j,j<2→(#[.int .i64 nx,v]:Array Value)[j]?=some (KE (nx,v,ys) j):=by
 intro j hj
 match j,hj with
 |0,_=>rfl
 |1,_=>rfl
theorem Xq(nx:Int)(A:Option Addr)(n c:Nat)(ys:List (Nod×Value))(j:Nat):(KE (nx, .slice A n c,ys) j).oneCell'=true:=by
 unfold KE;split<;>rfl
set_option maxRecDepth 100000 in
set_option maxHeartbeats 2000000 in
theorem Copy_any(v:Value)(f:Aj)(w:World)(hf:FlsR w (Old w) v f):
    Calls prog 182 #[v] w fun e w'=>∃dv L,e= .returned (.agg #[dv])∧DvcsAt w' w.heap.size dv L∧flsOf L=f∧Below w.heap.size w w':=by
 obtain⟨d,rfl,xs,hxf,⟨A,c,rfl,hc,hl,hr⟩,hn⟩:=hf;have hfl:f.length=xs.length:=(XS hxf).symm;have hlf:=hl;unfold few at hl
 go_enter Tryz.func182,Tryz.ntmps182
 go_wp2_with fail
 have HX:=Lib.hid hxf;have HFL:=Lib.hid hfl;have HN:=Lib.hid hn;clear hxf hfl hn
 go_loopw [4] (fun i wr=>∃(m:Nat) (dvv:Value) (L:List EJ),m≤xs.length∧i= .int .i64 m∧Ph w (.slice A xs.length c) f m dvv L wr) (fun i _=>xs.length - (intOf i).toNat)
 case atStart=>
  refine⟨0, .slice none 0 0,[],by omega,rfl,by simp[flsOf],DvcsAt.nil_ _ _,Pa _ _ _ _,Pb _ _ _ _,Pc _ _ _ _,PZ _ _ _ _⟩
 case round=>
  obtain⟨m,dvv,L,hm,rfl,hout⟩:=hrel;have hbw:Below w.heap.size w wr:=hout.2.2.2.2.2;have c0:wr.cell? ⟨w.heap.size,0,none⟩=some (.slice A xs.length c):=by rw[Ko hout.2.2.1];rfl
  by_cases hlt:m<xs.length
  ·have hx:xs[m]?=some xs[m]:=BJ hlt;obtain⟨b,off,rfl,hb,hcell⟩:=(hr.keep (Nh hbw)) (by omega);have h0:=hcell m _ 0 hx (by omega);have h1:=hcell m _ 1 hx (by omega);obtain⟨ys0,hy0,⟨A1,c1,hv1,hc1,hl1,hr1⟩,hn1⟩:=HN.out _ (Aw hx);simp only[dvcCell,hv1,Nat.add_zero]at h0 h1;have hdm:f[m]?=some xs[m].1:=by rw[←HX.out];simp[hlt]
   have HD:=Lib.hid hdm;have HY:=Lib.hid hy0;have HV:=Lib.hid hv1;have HX':=Lib.hid hx;have HN1:=Lib.hid hn1;have hl1f:=hl1;unfold few at hl1;unfold Old at hb;obtain⟨hin,hSn,hSB⟩:=Xj hout xs[m].1.next (ys0.map (·.1));have HS:=Lib.hid hSn;have HIN:=Lib.hid hin;have HOUT:=Lib.hid hout;clear hcell hdm hy0 hv1 hx hn1 hSn hin hout;generalize hnx:xs[m].1.next=nx at *;have HNX:=Lib.hid hnx;clear hnx
   go_wp2_with fail
   obtain⟨wo,hwo⟩:∃wo:World,wo=wr:=⟨_,rfl⟩;subst hwo
   go_loopw [6] (fun i wr=>∃(k:Nat) (nvv:Value) (ys:List (Nod×Value)),k≤ys0.length∧i= .int .i64 k∧KF w (.slice (some ⟨b,off,none⟩) xs.length c) L dvv wo.heap.size nx (ys0.map (·.1)) k nvv ys wr) (fun i _=>ys0.length - (intOf i).toNat)
   case atStart=>exact⟨0,_,_,by omega,rfl,HIN.out⟩
   case round=>
    obtain⟨k,nvv,ys,hk,rfl,hin⟩:=hrel;have hb2:Below w.heap.size w wr:=hin.2.2.2.2.2.2.2.2;have c0':wr.cell? ⟨w.heap.size,0,none⟩=some (.slice (some ⟨b,off,none⟩) xs.length c):=by rw[Ko hin.2.2.2.2.2.1];rfl
    have hcell':=hr.keep (Nh hb2);obtain⟨b',off',hbo,_,hcell'⟩:=hcell' (by omega);simp only[Option.some.injEq,Addr.mk.injEq,and_true]at hbo;obtain⟨rfl,rfl⟩:=hbo;have h1':=hcell' m _ 1 HX'.out (by omega);simp only[dvcCell,HV.out]at h1';clear hcell' h0 h1 c0;by_cases hkl:k<ys0.length
    ·have hy:ys0[k]?=some ys0[k]:=BJ hkl;obtain⟨b1,off1,rfl,hb1,hcell1⟩:=(hr1.keep (Nh hb2)) (by omega);obtain⟨n0,n1,n2,n3,n4,n5,n6,n7⟩:=Xe (fun j hj=>hcell1 k _ j hy hj);have hev:=HN1.out _ (Aw hy);have hnk:(ys0.map (·.1))[k]?=some ys0[k].1:=by simp[hkl]
     have HNK:=Lib.hid hnk;generalize ys0[k]=y at *;obtain⟨n,ev⟩:=y;simp only at hev n0 n1 n2 n3 n4 n5 n6 n7;have hlen:=hev;obtain⟨Ae,ce,rfl,hce,hle,hre⟩:=hev;have HE:=Lib.hid hlen;have HIN2:=Lib.hid hin;have HB2:=Lib.hid hb2;have hS1:wo.heap.size<wr.heap.size:=KG hin.2.1;have hSc:wr.cell? ⟨wo.heap.size,1,none⟩=some nvv:=by rw[Ko hin.2.1];rfl
     obtain⟨An,cn,hnv⟩:=hin.2.2.1.1.form;subst hnv;have hbs:=hb2.size;clear hcell1 hnk hy hlen hre hin hb2
     go_wp2_with (first
      |(at_builtin;refine Xa (cell:=entCell) (D:=Old w) rfl (.const (.slice none 0 0)) (.tmp 43) _ rfl Xb (by omega) (by omega) (.slice Ae n.entries.length ce) n.entries rfl rfl (HE.out.keep (Nh (HB2.out.alloc (by omega) _))) (fun y _ j _=>Xf y j) ?_;intro A2 c2 w2 hown hb2;obtain⟨hbw2,hz2,k2⟩:=XV hb2;obtain⟨k2c,k2f⟩:=Lr k2;have hSc2:=(hbw2.cell (p:=⟨wo.heap.size,1,none⟩) hS1).trans hSc;clear hb2)
      |(at_builtin;refine Pe (cell:=nodCell) (xs:=ys) (ys:=[(n, .slice A2 n.entries.length c2)]) (base:=w.heap.size) (D:=fun _=>True) (v:= .slice An ys.length cn) (sv:= .slice (some ⟨w2.heap.size,0,none⟩) 1 1) rfl (.tmp 47) (.tmp 49) _ rfl Xc (by omega) (by omega) rfl rfl (HIN2.out.2.2.1.1.below ((hbw2.setCell (p:=⟨wr.heap.size,7,none⟩) (BN _) _).alloc (by simp[World.setCell];omega) _)) (Sx (by simp[World.setCell]) (Xm n _) trivial) (fun y hy j _=>by obtain rfl:=List.mem_singleton.1 hy;exact Xl rfl j) (by have:=congrArg List.length HIN2.out.1;simp at this;omega) (by simp[World.setCell];omega) ?_;intro v5 w5 hown5 hg5 hat5;obtain⟨A5,c5,rfl⟩:=Sz hown5 (n:=ys.length+1) (by simp);obtain⟨k5c,k5f⟩:=Lr (Xn HIN2.out (by exact(hbw2.setCell (p:=⟨wr.heap.size,7,none⟩) (BN _) _).alloc (by simp[World.setCell];omega) _) hg5);clear k2c k2f hSc hSc2))
     go_roundw
     case rel=>exact⟨k+1,_,_,by omega,by go_num,Xh HIN2.out HS.out hSB HNK.out hle (by exact(hbw2.setCell (p:=⟨wr.heap.size,7,none⟩) (BN _) _).alloc (by simp[World.setCell];omega) _) (by exact((hown.setb (p:=⟨wr.heap.size,7,none⟩) (by show wr.heap.size<(wr.alloc _).heap.size;simp) _).alloc _).mono (by simp)) hg5 hown5 (by simpa[World.setCell]using hat5)⟩
     case measure=>simp[intOf];omega
    have hke:k=ys0.length:=by omega
    have HK:=Lib.hid hke;have HIN2:=Lib.hid hin;have HB2:=Lib.hid hb2;obtain⟨hSc,hSf⟩:=Lr hin.2.1;have hS1:wo.heap.size<wr.heap.size:=KG hin.2.1;have hoc:wr.cell? ⟨w.heap.size+1+1,0,none⟩=some dvv:=by rw[Ko hin.2.2.2.2.2.2.2.1];rfl
    obtain⟨An,cn,hnv⟩:=hin.2.2.1.1.form;subst hnv;obtain⟨Ad,cd,hdv⟩:=hin.2.2.2.1.1.form;subst hdv;have hbs:=hb2.size;have hml:L.length≤1000000:=Xg hin.2.2.2.1.2.2.2;have hz3:w.heap.size+1+1<wr.heap.size:=KG hin.2.2.2.2.2.2.2.1;clear hke hin hb2
    go_wp2_with (at_builtin;refine Pe (cell:=KE) (xs:=L) (ys:=[(nx, .slice An ys.length cn,ys)]) (base:=w.heap.size) (D:=fun _=>True) (v:= .slice Ad L.length cd) (sv:= .slice (some ⟨wr.heap.size,0,none⟩) 1 1) rfl (.tmp 53) (.tmp 55) _ rfl Xd (by omega) (by omega) rfl rfl (HIN2.out.2.2.2.1.1.below (Jg _ _)) (Sx rfl (Xp _ _ _) trivial) (fun y hy j _=>by obtain rfl:=List.mem_singleton.1 hy;exact Xq _ _ _ _ _ j) hml (by simp;omega) ?_;intro v5 w5 hown5 hg5 hat5;obtain⟨A5,c5,rfl⟩:=Sz hown5 (n:=L.length+1) (by simp);obtain⟨k5c,k5f⟩:=Lr (Xo HIN2.out hg5);clear hSc hSf hoc)
    go_roundw
    case rel=>exact⟨m+1,_,_,by omega,by go_num,Xk (ns:=ys0.map (·.1)) (S:=wo.heap.size) (by have h:=HIN2.out;rw[HK.out]at h;simpa using h) HD.out HOUT.out.1 HNX.out (by simpa using HY.out.symm) (by simpa using hl1f) (by rw[HFL.out];exact hlf) hg5 hown5 (by simpa using hat5)⟩
    case measure=>simp[intOf];omega
  have hme:m=xs.length:=by omega
  have HF:Hid (flsOf L=f):=by
   have h:=hout.1;rw[hme,←HFL.out,List.take_length]at h;exact h
  have hrc1:wr.cell? ⟨w.heap.size+1+1,0,none⟩=some dvv:=by rw[Ko hout.2.2.2.2.1];rfl
  obtain⟨hrc,hrf⟩:=Lr hout.2.2.2.1;obtain⟨Ad,cd,hdv⟩:=hout.2.1.1.form;subst hdv;have HOUT:=Lib.hid hout;clear hout hme
  go_wp2_with fail
  refine bodyPost_ret (v:= .agg #[.slice Ad L.length cd]) (by simp[results,Tryz.results182,go_sem,hrc]) rfl ?_;refine⟨_,L,rfl,HOUT.out.2.1.set_ ?_ _,HF.out,hbw.setCell (by show w.heap.size≤w.heap.size+1;omega) _⟩;exact T0 HOUT.out.2.1 HOUT.out.2.2.2.1
end Go.Proofs.YtbgnigjfkbmceaaGreatDoor.Old
namespace Go.Proofs.YtbgnigjfkbmceaaGreatDoor
open Go.RowKit
section
variable {St:Nat→Nat→Prop}{w:World}(hst:∀b o,St b o→b<w.heap.size)
include hst
theorem Pi{α:Type}{sz:Nat}{enc:α→List AV}{cell:α×Value→Nat→Value}{Sub:α→Value→Prop}{xs:List α}{v:Value}(hsz:0<sz)(hfew:xs.length≤1000)(h:B6 St w (.sl sz (xs.map enc) none) v)
    (hrow:∀x∈xs,(enc x).length=sz→∀c:Nat→Option Value,(∀j av,(enc x)[j]?=some av→∃u,c j=some u∧B6 St w av u)→∃u,Sub x u∧∀j,j<sz→c j=some (cell (x,u) j)):
    ∃ys:List (α×Value),ys.map (·.1)=xs∧Old.ListR sz cell w (Old.Old w) v ys∧∀y∈ys,Sub y.1 y.2:=by
 simp only[B6]at h;obtain⟨_,A,cap,rfl,h2,h3,h4⟩:=h;rw[List.length_map]at h2;rcases Nat.eq_zero_or_pos xs.length with h0|h0
 ·obtain rfl:=ER h0;exact⟨[],rfl,⟨A,cap,by simp,by simp,by simp,fun h=>absurd h (by simp)⟩,by simp⟩
 obtain⟨b,off,rfl,h6⟩:=h4.resolve_left (fun e=>by simp at e;subst e;simp at h0)
 have each:∀i (hi:i<xs.length),∃u,Sub xs[i] u∧∀j,j<sz→w.cell? ⟨b,off+i * sz+j,none⟩=some (cell (xs[i],u) j):=by
  intro i hi;have hr:(xs.map enc)[i]?=some (enc xs[i]):=by simp[hi]
  obtain⟨k1,k2⟩:=LN h6 hr
  exact hrow _ (List.getElem_mem hi) k1 _ fun j av hj=>by
   obtain⟨_,u,q1,_,q2⟩:=LM k2 hj;exact⟨u,q1,q2⟩
 let g:Fin xs.length→α×Value:=fun i=>(xs[i.1],(each i.1 i.2).choose);have hg:∀i (hi:i<xs.length),(List.ofFn g)[i]?=some (xs[i],(each i hi).choose):=fun i hi=>by simp[g,hi]
 have hlen:(List.ofFn g).length=xs.length:=by simp
 have hbs:b<w.heap.size:=by
  obtain⟨k1,k2⟩:=LN h6 (i:=0) (r:=enc xs[0]) (by simp[h0]);have:(enc xs[0])[0]?=some (enc xs[0])[0]:=BJ (by omega);exact hst _ _ (LM k2 this).1
 refine⟨List.ofFn g,?_,⟨_,cap,by rw[List.length_map,hlen],by rw[hlen];exact h2,by rw[hlen];unfold Old.few;omega,fun _=>⟨b,off,rfl,hbs,fun i y j hi hj=>?_⟩⟩,fun y hy=>?_⟩
 ·apply List.ext_getElem?;intro i;rcases Nat.lt_or_ge i xs.length with hi|hi
  ·rw[List.getElem?_map,hg i hi];simp[hi]
  rw[List.getElem?_eq_none (by simpa using hi),List.getElem?_eq_none hi]
 ·have hil:i<xs.length:=by rw[←hlen];exact(At.1 hi).1
  rw[hg i hil]at hi;injection hi with hi;subst hi;exact(each i hil).choose_spec.2 j hj
 obtain⟨i,hi⟩:=List.getElem?_of_mem hy;have hil:i<xs.length:=by rw[←hlen];exact(At.1 hi).1
 rw[hg i hil]at hi;injection hi with hi;subst hi;exact(each i hil).choose_spec.1
theorem Xr{es:List Bc}{v:Value}(hfew:es.length≤1000)(h:B6 St w (.sl 2 (es.map FA) none) v):Old.EntsR w (Old.Old w) v es:=by
 obtain⟨ys,h1,⟨A,c,h2,h3,h4,h5⟩,_⟩:=Pi hst (cell:=fun y:Bc×Value=>Old.entCell y.1) (Sub:=fun _ _=>True) (by omega) hfew h (fun x _ _ c hc=>⟨.bool true,trivial,fun j hj=>by
  match j,hj with
  |0,_=>obtain⟨u,q1,q2⟩:=hc 0 _ rfl;simp only[B6]at q2;rw[q1,q2];rfl
  |1,_=>obtain⟨u,q1,q2⟩:=hc 1 _ rfl;simp only[B6]at q2;rw[q1,q2];rfl⟩)
 subst h1;refine⟨A,c,by rw[h2,List.length_map],by simpa using h3,by simpa using h4,fun hn=>?_⟩;obtain⟨b,off,e1,e2,e3⟩:=h5 (by simpa using hn);refine⟨b,off,e1,e2,fun i x j hi hj=>?_⟩;rw[List.getElem?_map]at hi
 cases hy:ys[i]? with
 |none=>rw[hy]at hi;cases hi
 |some y=>
   rw[hy]at hi;injection hi with hi;subst hi;exact e3 i y j hy hj
theorem Xs{ns:List Nod}{v:Value}(hfew:ns.length≤1000)(he:∀n∈ns,n.entries.length≤1000)(h:B6 St w (.sl 8 (ns.map Am) none) v):Old.NodsR w (Old.Old w) v ns:=
 Pi hst (cell:=Old.nodCell) (Sub:=fun n u=>Old.EntsR w (Old.Old w) u n.entries) (by omega) hfew h (fun x hx _ c hc=>by
  obtain⟨u0,p0,q0⟩:=hc 0 _ rfl;obtain⟨u1,p1,q1⟩:=hc 1 _ rfl;obtain⟨u2,p2,q2⟩:=hc 2 _ rfl;obtain⟨u3,p3,q3⟩:=hc 3 _ rfl;obtain⟨u4,p4,q4⟩:=hc 4 _ rfl;obtain⟨u5,p5,q5⟩:=hc 5 _ rfl;obtain⟨u6,p6,q6⟩:=hc 6 _ rfl;obtain⟨u7,p7,q7⟩:=hc 7 _ rfl;have q7':=Xr hst (he x hx) q7;simp only[B6]at q0 q1 q2 q3 q4 q5 q6;subst q0 q1 q2 q3 q4 q5 q6;refine⟨u7,q7',fun j hj=>?_⟩
  match j,hj with
  |0,_=>exact p0
  |1,_=>exact p1
  |2,_=>exact p2
  |3,_=>exact p3
  |4,_=>exact p4
  |5,_=>exact p5
  |6,_=>exact p6
  |7,_=>exact p7)
theorem T3{f:Aj}(hf:FlsB f){v:Value}(h:B6 St w (.agg (B0 f)) v):Old.FlsR w (Old.Old w) v f:=by
 simp only[B6,B0,Br]at h;obtain⟨ys,rfl,z,zs,rfl,h,rfl⟩:=h;have h':B6 St w (.sl 2 (f.map Cc) none) z:=by simp only[B6];exact h
 refine⟨z,rfl,Pi hst (cell:=Old.dvcCell) (Sub:=fun d u=>Old.NodsR w (Old.Old w) u d.nodes) (by omega) hf.few h' (fun x hx _ c hc=>?_)⟩;obtain⟨u0,p0,q0⟩:=hc 0 _ rfl;obtain⟨u1,p1,q1⟩:=hc 1 _ rfl;have q1':=Xs hst (hf.nodes x hx) (hf.ents x hx) q1;simp only[B6]at q0;subst q0;refine⟨u1,q1',fun j hj=>?_⟩
 match j,hj with
 |0,_=>exact p0
 |1,_=>exact p1
end
theorem Lt{α:Type}{sz:Nat}{cell:α→Nat→Value}{E:TypeId}{w:World}{base:Nat}{v:Value}{xs:List α}(h:Old.OwnL sz cell E w base v xs){St:Nat→Nat→Prop}(hst:∀b,v.ownBlock=some b→∀o,St b o){enc:α→List AV}(hlen:∀x∈xs,(enc x).length=sz)
    (hx:∀x∈xs,∀j av,(enc x)[j]?=some av→B6 St w av (cell x j)):B6 St w (.sl sz (xs.map enc) none) v:=by
 simp only[B6,true_and];obtain⟨⟨h0,h1⟩,h2⟩:=h;rcases h1 with⟨rfl,hn⟩|⟨g,cap,cur,rfl,hb,hg,hnc,hcm,hcs,htk⟩
 ·exact⟨none,0,by rw[List.length_map,hn],by rw[List.length_map,hn];exact BN _,BV _, .inl (by rw[ER hn];rfl)⟩
 refine⟨_,cap,by rw[List.length_map],by rw[List.length_map];exact hnc,hcm, .inr ⟨g,0,rfl,Mb fun i r hi=>?_⟩⟩;rw[List.getElem?_map]at hi
 cases hy:xs[i]? with
 |none=>rw[hy]at hi;cases hi
 |some x=>
   rw[hy]at hi;injection hi with hi;subst hi;have hm:=Aw hy;refine⟨hlen x hm,LO fun j av hj=>?_⟩;have hjl:j<sz:=by rw[←hlen x hm];exact(At.1 hj).1
   have hil:=(At.1 hy).1
   have hlt:i * sz+j<xs.length * sz:=by
    have h2:(i+1) * sz≤xs.length * sz:=Nat.mul_le_mul_right sz hil;rw[Nat.add_mul]at h2;omega
   have hc:cur.toList[i * sz+j]?=some (cell x j):=by
    rw[←Old.flat_get xs i j x hy hjl,←htk,List.getElem?_take,if_pos hlt]
   refine⟨hst g rfl _,cell x j,?_,h2 g cur E rfl hg _ (Aw hc),hx x hm j av hj⟩;rw[Nat.zero_add];simp only[World.cell?,hg]
   simpa using hc
theorem T4{α:Type}{sz:Nat}{cell:α→Nat→Value}{E:TypeId}{w:World}{base:Nat}{v:Value}{xs:List α}(h:Old.OwnL sz cell E w base v xs)(h0:0<xs.length){G:Gh}{rows:List (List AV)}(hp:0<sz)(hl:rows.length=xs.length)(hlen:∀r∈rows,r.length=sz)
    (hx:∀(i:Nat) (x:α) (r:List AV),xs[i]?=some x→rows[i]?=some r→∀j av,r[j]?=some av→rep G w av (cell x j)):
    ∃g cap,v= .slice (some ⟨g,0,none⟩) xs.length cap∧base≤g∧g<w.heap.size∧xs.length≤cap∧cap≤maxLen∧Mc G w g (CD sz cap rows):=by
 obtain⟨⟨h3,h1⟩,h2⟩:=h;rcases h1 with⟨rfl,hn⟩|⟨g,cap,cur,rfl,hb,hg,hnc,hcm,hcs,htk⟩
 ·omega
 refine⟨g,cap,rfl,hb,(Array.getElem?_eq_some_iff.1 hg).1,hnc,hcm,cur.toList,E,by simpa using hg,?_,h2 g cur E rfl hg⟩;have e:cur.toList=cur.toList.take (xs.length * sz)++cur.toList.drop (xs.length * sz):=(List.take_append_drop _ _).symm;rw[e];unfold CD;refine Lb ?_ ?_
 ·rw[htk];refine P7 (by rw[K5 hlen,hl,Old.flat_length]) fun i x hi=>?_;have hii:i=i / sz * sz+i % sz:=by rw[Nat.mul_comm];exact(Nat.div_add_mod i sz).symm
  have hk:i % sz<sz:=Nat.mod_lt _ hp;rw[hii,NT hlen hk]at hi
  cases hq:rows[i / sz]? with
  |none=>rw[hq]at hi;simp at hi
  |some r=>
    rw[hq]at hi;have hqx:i / sz<xs.length:=by rw[←hl];exact(At.1 hq).1
    have hxx:xs[i / sz]?=some xs[i / sz]:=BJ hqx;refine⟨cell xs[i / sz] (i % sz),?_,hx _ _ r hxx hq _ _ hi⟩;have:=Old.flat_get (cell:=cell) xs (i / sz) (i % sz) _ hxx hk
    rwa [←hii]at this
 have:(cur.toList.drop (xs.length * sz)).length=(cap - rows.length) * sz:=by
  rw[List.length_drop,hl,Nat.sub_mul,←hcs];simp
 rw[←this];exact NU _
theorem Xt{α β:Type}{f:α→List β}{l:List α}{i:Nat}{x:α}(hx:l[i]?=some x):l.flatMap f=(l.take i).flatMap f++(f x++(l.drop (i+1)).flatMap f):=by
 obtain⟨hi,rfl⟩:=At.1 hx;rw[←List.flatMap_cons,←List.flatMap_append,←List.drop_eq_getElem_cons hi,List.take_append_drop]
def FO(f:Aj)(K:Nat)(d:Dvc)(j cap1:Nat):List (List AV):=(f.map Cc).set K (Gg d j cap1)
theorem Nm(f:Aj)(K:Nat)(d:Dvc)(j cap1:Nat):∀r∈FO f K d j cap1,r.length=2:=by
 intro r hr;rcases List.mem_or_eq_of_mem_set hr with h|h
 ·exact Sr _ r h
 rw[h];rfl
theorem Xu(f:Aj)(K:Nat)(d:Dvc)(j cap1:Nat):(FO f K d j cap1).length=f.length:=by simp[FO]
theorem Kq(f:Aj)(K:Nat)(dK:Dvc)(hf:FlsB f)(hK:f[K]?=some dK)(hne:0<dK.nodes.length):
    ACall prog 182 [.agg (B0 f)] [] (fun r b t=>t=[]∧∃cap cap1,f.length≤cap∧dK.nodes.length≤cap1∧b=[CD 2 cap (FO f K dK 1 cap1),CD 8 cap1 (dK.nodes.map Am)]∧r= .agg [.bs 0 0 2 f.length cap]):=by
 intro w St bl vs hr hv;have hbl:bl=[]:=by have:=hr.bxlen;simpa using this
 subst hbl;simp only[Ab]at hv;obtain⟨z,zs,rfl,hz,rfl⟩:=hv;have hz':B6 St w (.agg (B0 f)) z:=by have:=G3 _ _ hz;simpa[Cv,Dk,B0]using this
 have hF:=T3 hr.stlt hf hz';refine Calls.mono (Old.Copy_any z f w hF) ?_;rintro e w' ⟨dv,L,rfl,hD,hL,hB⟩;have hsz:=hB.size;have hLl:L.length=f.length:=by rw[←hL];simp[Old.flsOf]
 have hKl:=(At.1 hK).1
 obtain⟨x,hx,hxd⟩:∃x,L[K]?=some x∧Old.dvcOf x=dK:=by
  have h1:L[K]?=some L[K]:=BJ (by omega);refine⟨_,h1,?_⟩;have:=hK;rw[←hL,Old.flsOf,List.getElem?_map,h1]at this;injection this
 have hxm:=Aw hx;obtain⟨d1,d2,d3,d4⟩:=hD;obtain⟨e1,e2,e3⟩:=d2 x hxm |>.1;have hyl:0<x.2.2.length:=by rw[←hxd]at hne;simpa[Old.dvcOf]using hne
 have form:∀{α:Type} {sz:Nat} {cell:α→Nat→Value} {E:TypeId} {base:Nat} {v:Value} {xs:List α},Old.OwnL sz cell E w' base v xs→0<xs.length→∃g cap,v= .slice (some ⟨g,0,none⟩) xs.length cap:=by
  intro α sz cell E base v xs h h0;rcases h.1.2 with⟨_,hn⟩|⟨g,cap,cur,rfl,_⟩
  ·omega
  exact⟨g,cap,rfl⟩
 obtain⟨g0,cap,hdv⟩:=form d1 (by omega);obtain⟨g1,cap1,hnv⟩:=form e1 hyl;have hb0:g0∈Old.blk dv:=Old.mem_blk.2 (by rw[hdv];rfl);have hb1:g1∈Old.blk x.2.1:=Old.mem_blk.2 (by rw[hnv];rfl);have nd:=List.nodup_append.1 d3;have hin:∀y∈L,∀b∈Old.fpN y.2.1 y.2.2,b∈L.flatMap fun x=>Old.fpN x.2.1 x.2.2:=fun y hy b hb=>List.mem_flatMap.2 ⟨y,hy,hb⟩;have h01:g0≠g1:=fun e=>nd.2.2 g0 hb0 g1 (hin x hxm g1 (List.mem_append_left _ hb1)) e;let St':Nat→Nat→Prop:=fun b o=>St b o∨(w.heap.size≤b∧b<w'.heap.size∧b≠g0∧b≠g1);let G':Gh:=⟨St',[g0,g1],[]⟩
 have hfresh:∀b∈Old.fpD dv L,b≠g0→b≠g1→∀o,St' b o:=fun b hb n0 n1 o=>by
  have:=Old.DvcsAt.fp_lt (w:=w') ⟨d1,d2,d3,d4⟩ b hb;exact .inr ⟨this.1,this.2,n0,n1⟩
 -- a list of entries that lies in blocks that stay
 have hents:∀(y:Nod×Value),Old.OwnL 2 Old.entCell 234 w' w.heap.size y.2 y.1.entries→(∀b∈Old.blk y.2,∀o,St' b o)→B6 St' w' (.sl 2 (y.1.entries.map FA) none) y.2:=by
  intro y hy hb;refine Lt hy (fun b h=>hb b (Old.mem_blk.2 h)) (fun _ _=>rfl) fun e _ j av hj=>?_
  match j,hj with
  |0,hj=>injection hj with hj;subst hj;simp only[B6];rfl
  |1,hj=>injection hj with hj;subst hj;simp only[B6];rfl
 have hnod:∀(y:Nod×Value),Old.OwnL 2 Old.entCell 234 w' w.heap.size y.2 y.1.entries→(∀b∈Old.blk y.2,∀o,St' b o)→∀j av,(Am y.1)[j]?=some av→B6 St' w' av (Old.nodCell y j):=by
  intro y hy hb j av hj
  match j,hj with
  |0,hj=>injection hj with hj;subst hj;simp only[B6];rfl
  |1,hj=>injection hj with hj;subst hj;simp only[B6];rfl
  |2,hj=>injection hj with hj;subst hj;simp only[B6];rfl
  |3,hj=>injection hj with hj;subst hj;simp only[B6];rfl
  |4,hj=>injection hj with hj;subst hj;simp only[B6];rfl
  |5,hj=>injection hj with hj;subst hj;simp only[B6];rfl
  |6,hj=>injection hj with hj;subst hj;simp only[B6];rfl
  |7,hj=>injection hj with hj;subst hj;exact hents y hy hb
  |j+8,hj=>exact absurd hj (by simp[Am])
 have hne0:∀y∈L,∀b∈Old.fpN y.2.1 y.2.2,b≠g0:=fun y hy b hb e=>nd.2.2 g0 hb0 b (hin y hy b hb) e.symm
 have hfp:∀y∈L,∀b∈Old.fpN y.2.1 y.2.2,b∈Old.fpD dv L:=fun y hy b hb=>List.mem_append_right _ (hin y hy b hb)
 -- the boxes
 obtain⟨g1',cap1',q1,q2,q3,q4,q5,q6⟩:=T4 (G:=G') e1 hyl (rows:=dK.nodes.map Am) (by omega) (by rw[←hxd];simp[Old.dvcOf]) (Jf _) (by
  intro i y r hi hri j av hj;have hnm:dK.nodes[i]?=some y.1:=by rw[←hxd,Old.dvcOf];simp[hi]
  rw[List.getElem?_map,hnm]at hri;injection hri with hri;subst hri;have hym:=Aw hi;refine Gw _ _ (hnod y (e2 y hym).1 (fun b hb=>hfresh b (hfp x hxm b (List.mem_append_right _ (List.mem_flatMap.2 ⟨y,hym,hb⟩))) (hne0 x hxm b (List.mem_append_right _ (List.mem_flatMap.2 ⟨y,hym,hb⟩))) fun e=>?_) j av hj)
  exact(List.nodup_append.1 e3).2.2 g1 hb1 b (List.mem_flatMap.2 ⟨y,hym,hb⟩) e.symm)
 rw[hnv]at q1;simp only[Value.slice.injEq,Option.some.injEq,Addr.mk.injEq,and_true,true_and]at q1;obtain⟨rfl,rfl⟩:=q1
 obtain⟨g0',cap',p1,p2,p3,p4,p5,p6⟩:=T4 (G:=G') d1 (by omega) (rows:=FO f K dK 1 cap1) (by omega) (by rw[Xu,hLl]) (Nm _ _ _ _ _) (by
  intro i y r hi hri j av hj;have hfi:f[i]?=some (Old.dvcOf y):=by rw[←hL,Old.flsOf,List.getElem?_map,hi];rfl
  have hym:=Aw hi;unfold FO at hri;by_cases hiK:K=i
  ·subst hiK;rw[hx]at hi;injection hi with hi;subst hi;rw[List.getElem?_set_self (by simp;omega)]at hri;injection hri with hri;subst hri
   match j,hj with
   |0,hj=>injection hj with hj;subst hj;simp only[rep];rw[←hxd];rfl
   |1,hj=>
     injection hj with hj;subst hj;simp only[rep];refine⟨g1,rfl,?_,?_,q5⟩
     ·show x.2.1=_;rw[hnv,←hxd];simp[Old.dvcOf]
     rw[←hxd];simpa[Old.dvcOf]using q4
   |j+2,hj=>exact absurd hj (by simp[Gg])
  rw[List.getElem?_set_ne hiK,List.getElem?_map,hfi]at hri;injection hri with hri;subst hri
  have hn1:∀b∈Old.fpN y.2.1 y.2.2,b≠g1:=by
   intro b hb e;subst e;have hd2:=nd.2.1;have hil:=(At.1 hi).1;rw[Xt hx]at hd2;obtain⟨c1,c2,c3⟩:=List.nodup_append.1 hd2;obtain⟨c4,c5,c6⟩:=List.nodup_append.1 c2;rcases Nat.lt_or_ge i K with hlt|hge
   ·exact c3 b (List.mem_flatMap.2 ⟨y,List.mem_iff_getElem?.2 ⟨i,by rw[List.getElem?_take,if_pos hlt];exact hi⟩,hb⟩) b (List.mem_append_left _ (List.mem_append_left _ hb1)) rfl
   exact c6 b (List.mem_append_left _ hb1) b (List.mem_flatMap.2 ⟨y,List.mem_iff_getElem?.2 ⟨i - (K+1),by rw[List.getElem?_drop,show K+1+(i - (K+1))=i by omega];exact hi⟩,hb⟩) rfl
  obtain⟨f1,f2,f3⟩:=(d2 y hym).1
  match j,hj with
  |0,hj=>injection hj with hj;subst hj;simp only[rep];rfl
  |1,hj=>
    injection hj with hj;subst hj
    have key:=Lt f1 (St:=St') (fun b h=>hfresh b (hfp y hym b (List.mem_append_left _ (Old.mem_blk.2 h))) (hne0 y hym b (List.mem_append_left _ (Old.mem_blk.2 h))) (hn1 b (List.mem_append_left _ (Old.mem_blk.2 h)))) (enc:=fun y=>Am y.1) (fun _ _=>rfl) fun z hz j av hj=>
     hnod z (f2 z hz).1 (fun b hb=>hfresh b (hfp y hym b (List.mem_append_right _ (List.mem_flatMap.2 ⟨z,hz,hb⟩))) (hne0 y hym b (List.mem_append_right _ (List.mem_flatMap.2 ⟨z,hz,hb⟩))) (hn1 b (List.mem_append_right _ (List.mem_flatMap.2 ⟨z,hz,hb⟩)))) j av hj
    have e:((Old.dvcOf y).nodes.map Am)=y.2.2.map fun y=>Am y.1:=by simp[Old.dvcOf]
    rw[e];exact Gw _ _ key
  |j+2,hj=>exact absurd hj (by simp[Cc]))
 rw[hdv]at p1;simp only[Value.slice.injEq,Option.some.injEq,Addr.mk.injEq,and_true,true_and]at p1;obtain⟨rfl,rfl⟩:=p1;have hst:∀b o,St b o→b<w.heap.size:=hr.stlt;refine⟨.agg [.bs 0 0 2 f.length cap],_,_,G',⟨rfl,cap,cap1,by omega,by rw[←hxd];simpa[Old.dvcOf]using q4,rfl,rfl⟩,⟨?_,?_,?_,?_,rfl,?_,?_,?_,?_,rfl,?_,?_,?_⟩,⟨?_,?_,?_⟩,?_⟩
 ·intro i b hi;simp at hi
 ·exact⟨hB.os,hB.tape,hB.output,hB.size,fun k hk _=>hB.block k hk⟩
 ·rintro b o (h|h)
  ·have:=hst b o h;omega
  exact h.2.1
 ·rintro b o (h|h)
  ·exact .inl h
  exact .inr h.1
 ·show[g0,g1].Nodup
  simpa using h01
 ·rintro b hb o (h|h)
  ·have:=hst b o h;simp[G']at hb;rcases hb with rfl|rfl<;>omega
  simp[G']at hb;rcases hb with rfl|rfl
  ·exact h.2.2.1 rfl
  exact h.2.2.2 rfl
 ·intro b hb;simp[G']at hb;rcases hb with rfl|rfl
  ·exact .inl p2
  exact .inl q2
 ·intro i b row hi hrow
  match i,hi,hrow with
  |0,hi,hrow=>simp[G']at hi;simp at hrow;subst hi;subst hrow;exact p6
  |1,hi,hrow=>simp[G']at hi;simp at hrow;subst hi;subst hrow;exact q6
  |i+2,hi,_=>simp[G']at hi
 ·intro g n u T sz rows hg;simp[G']at hg
 ·intro g n u hg;simp[G']at hg
 ·intro g g' n n' u u' hg;simp[G']at hg
 ·exact fun b o h=>⟨.inl h,hB.cell (p:=⟨b,o,none⟩) (hst b o h)⟩
 ·intro i b hi;simp at hi
 ·intro g n u hg;simp at hg
 simp only[rep,Ab];exact⟨[dv],rfl,dv,[],rfl,⟨g0,rfl,by rw[hdv,hLl],by omega,p5⟩,rfl⟩
theorem Lu(f:Nat→Option Nat):∀xs:List AV,DF f xs=xs.map (Ez f)
 |[]=>rfl
 |x::xs=>by simp[DF,Lu f xs]
theorem Nn(f:Nat→Option Nat):∀xs:List AV,Fl f xs=xs.map (Fa f)
 |[]=>rfl
 |x::xs=>by simp[Fl,Nn f xs]
theorem Lv(g:Nat→Option (List AV)):∀xs:List AV,GY g xs=xs.map (Dl g)
 |[]=>rfl
 |x::xs=>by simp[GY,Lv g xs]
theorem Lw(F:AV→AV)(h:F .any= .any)(sz cap:Nat)(rows:List (List AV)):(CD sz cap rows).map F=CD sz cap (rows.map (·.map F)):=by
 simp[CD,h,List.map_flatten]
theorem Pj{n m:Nat}{xs:List AV}:Ac n m xs=true↔∀x∈xs,Aa n m x=true:=by
 induction xs with
 |nil=>simp[Ac]
 |cons x xs ih=>simp[Ac,ih]
theorem Pk{n m sz cap:Nat}{rows:List (List AV)}(h:∀r∈rows,Ac n m r=true):Ac n m (CD sz cap rows)=true:=by
 rw[Pj];intro x hx;unfold CD at hx;rcases List.mem_append.1 hx with hx|hx
 ·obtain⟨r,hr,hx⟩:=List.mem_flatten.1 hx;exact Pj.1 (h r hr) x hx
 rw[(List.mem_replicate.1 hx).2];rfl
def DB(f:Aj)(K:Nat)(d:Dvc)(j cap cap1:Nat):List AV:=CD 2 cap (FO f K d j cap1)
def NB(ns:List Nod)(cap1:Nat):List AV:=CD 8 cap1 (ns.map Am)
theorem Bw{n m:Nat}{f:Aj}{K:Nat}{d:Dvc}{j cap cap1:Nat}(hj:j<n):Ac n m (DB f K d j cap cap1)=true:=by
 refine Pk fun r hr=>?_;rcases List.mem_or_eq_of_mem_set hr with h|h
 ·obtain⟨d',_,rfl⟩:=List.mem_map.1 h;rfl
 rw[h];simp[Gg,Ac,Aa,hj]
theorem Bx{n m:Nat}{ns:List Nod}{cap1:Nat}:Ac n m (NB ns cap1)=true:=by
 refine Pk fun r hr=>?_;obtain⟨d',_,rfl⟩:=List.mem_map.1 hr;rfl
section
variable {F:AV→AV}(hany:F .any= .any)(hv:∀x,F (.v x)= .v x)(hs:∀sz rows,F (.sl sz rows none)= .sl sz rows none)
include hany hv hs
theorem Pl(ns:List Nod)(cap1:Nat):(NB ns cap1).map F=NB ns cap1:=by
 unfold NB;rw[Lw F hany,List.map_map]
 congr 1
 apply List.map_congr_left;intro n _;simp[Am,hv,hs]
theorem T5(f:Aj):(f.map Cc).map (·.map F)=f.map Cc:=by
 have _:=hany;rw[List.map_map];apply List.map_congr_left;intro n _;simp[Cc,hv,hs]
theorem T6(f:Aj)(K:Nat)(d:Dvc){j j':Nat}(cap cap1:Nat)(hb:F (.bs j 0 8 d.nodes.length cap1)= .bs j' 0 8 d.nodes.length cap1):(DB f K d j cap cap1).map F=DB f K d j' cap cap1:=by
 unfold DB FO;rw[Lw F hany,List.map_set,T5 hany hv hs];simp[Gg,hv,hb]
theorem Xv{f:Aj}{K:Nat}{d:Dvc}{j cap cap1:Nat}(hK:f[K]?=some d)(hb:F (.bs j 0 8 d.nodes.length cap1)= .sl 8 (d.nodes.map Am) none):(DB f K d j cap cap1).map F=CD 2 cap (f.map Cc):=by
 unfold DB FO;rw[Lw F hany,List.map_set,T5 hany hv hs];have e:(Gg d j cap1).map F=Cc d:=by simp[Gg,hv,hb,Cc]
 rw[e]
 congr 1
 apply List.ext_getElem?;intro i;rw[List.getElem?_set];split
 ·rename_i e1;subst e1;obtain⟨h1,h2⟩:=At.1 hK;simp[h1,h2]
 rfl
end
theorem GD{g:Nat→Option Nat}{j j':Nat}(h:g j=some j')(f:Aj)(K:Nat)(d:Dvc)(cap cap1:Nat):DF g (DB f K d j cap cap1)=DB f K d j' cap cap1:=by
 rw[Lu];exact T6 rfl (fun _=>rfl) (fun _ _=>rfl) f K d cap cap1 (by simp[Ez,h])
theorem Fp(g:Nat→Option Nat)(ns:List Nod)(cap1:Nat):DF g (NB ns cap1)=NB ns cap1:=by
 rw[Lu];exact Pl rfl (fun _=>rfl) (fun _ _=>rfl) ns cap1
theorem Jh{g:Nat→Option Nat}{j j':Nat}(h:g j=some j')(f:Aj)(K:Nat)(d:Dvc)(cap cap1:Nat):Fl g (DB f K d j cap cap1)=DB f K d j' cap cap1:=by
 rw[Nn];exact T6 rfl (fun _=>rfl) (fun _ _=>rfl) f K d cap cap1 (by simp[Fa,h])
theorem H4(g:Nat→Option Nat)(ns:List Nod)(cap1:Nat):Fl g (NB ns cap1)=NB ns cap1:=by
 rw[Nn];exact Pl rfl (fun _=>rfl) (fun _ _=>rfl) ns cap1
theorem Xw(g:Nat→Option (List AV))(ns:List Nod)(cap1:Nat):GY g (NB ns cap1)=NB ns cap1:=by
 rw[Lv];exact Pl rfl (fun _=>rfl) (fun _ _=>rfl) ns cap1
theorem Lx{ns:List Nod}{cap1:Nat}(h:ns.length≤cap1):(NB ns cap1).length=cap1 * 8:=PU (Jf _) (by simpa using h)
theorem Pm{g:Nat→Option (List AV)}{j sz n cap0 cap:Nat}{rows:List (List AV)}(hg:g j=some (CD sz cap rows))(hr:∀r∈rows,r.length=sz)(hn:n=rows.length)(hc:rows.length≤cap):Dl g (.bs j 0 sz n cap0)= .sl sz rows none:=by
 subst hn;have hl:=PU hr hc
 have hb:Nat.ble (0+rows.length * sz) (CD sz cap rows).length=true:=by
  rw[hl,Nat.ble_eq];have:=Nat.mul_le_mul_right sz hc;omega
 simp only[Dl,hg,hb,List.drop_zero];unfold CD;rw[Rv hr]
theorem Xx{n:Nat}{bx:List (List AV)}{k j:Nat}{ns:List Nod}{cap1:Nat}(hn:n≤j)(hj:bx[j]?=some (NB ns cap1)):DV n bx (k+1) j=some (NB ns cap1):=by
 have:Nat.blt j n=false:=by rw[←Bool.not_eq_true,Nat.blt_eq];omega
 simp only[DV,this,hj,Option.map_some,Xw]
theorem Xy{n:Nat}{bx:List (List AV)}{k i j:Nat}{f:Aj}{K:Nat}{d:Dvc}{cap cap1:Nat}(hK:f[K]?=some d)(hc1:d.nodes.length≤cap1)(hni:n≤i)(hnj:n≤j)(hi:bx[i]?=some (DB f K d j cap cap1))(hj:bx[j]?=some (NB d.nodes cap1)):
    DV n bx (k+2) i=some (CD 2 cap (f.map Cc)):=by
 have:Nat.blt i n=false:=by rw[←Bool.not_eq_true,Nat.blt_eq];omega
 rw[show k+2=(k+1)+1 from rfl,DV];simp only[this,hi,Option.map_some,Lv];rw[Xv rfl (fun _=>rfl) (fun _ _=>rfl) hK];exact Pm (Xx hnj hj) (Jf _) (by simp) (by simpa using hc1)
theorem Ji{n:Nat}{bx:List (List AV)}{k i j:Nat}{f:Aj}{K:Nat}{d:Dvc}{cap cap0 cap1:Nat}(hK:f[K]?=some d)(hc:f.length≤cap)(hc1:d.nodes.length≤cap1)(hni:n≤i)(hnj:n≤j)(hi:bx[i]?=some (DB f K d j cap cap1))(hj:bx[j]?=some (NB d.nodes cap1)):
    Dl (DV n bx (k+2)) (.agg [.bs i 0 2 f.length cap0])= .agg (B0 f):=by
 show AV.agg [Dl _ _]=_;unfold B0;rw[Pm (Xy hK hc1 hni hnj hi hj) (Sr _) (by simp) (by simpa using hc)]
theorem Ly{sz cap:Nat}{rows:List (List AV)}{q k:Nat}{r:List AV}{x:AV}(hr:∀r∈rows,r.length=sz)(hq:rows[q]?=some r)(hx:r[k]?=some x):(CD sz cap rows)[0+q * sz+k]?=some x:=by
 have hk:k<sz:=by rw[←hr r (Aw hq)];exact(At.1 hx).1
 have e:=NT hr hk (q:=q);rw[hq]at e;simp only[Option.bind_some]at e;rw[hx]at e;unfold CD;rw[Nat.zero_add,Ck (At.1 e).1];exact e
theorem Xz{sz cap:Nat}{rows:List (List AV)}{q:Nat}{r:List AV}(hr:∀r∈rows,r.length=sz)(hq:rows[q]?=some r):((CD sz cap rows).drop (0+q * sz)).take sz=r:=by
 have hrl:=hr r (Aw hq);apply List.ext_getElem?;intro k;rw[List.getElem?_take];split
 ·rename_i hk;rw[List.getElem?_drop];have hx:r[k]?=some r[k]:=BJ (by omega);rw[Ly hr hq hx,hx]
 rw[List.getElem?_eq_none (by omega)]
theorem Pn{sz cap:Nat}{rows:List (List AV)}{q k:Nat}{r r' cs:List AV}(hr:∀r∈rows,r.length=sz)(hq:rows[q]?=some r)(hs:SetAt r k cs r')(hne:cs≠[]):SetAt (CD sz cap rows) (0+q * sz+k) cs (CD sz cap (rows.set q r')):=by
 unfold CD;rw[Nat.zero_add,List.length_set];exact(Wk hr hq hs hne).left _
theorem Po{f:Aj}{K:Nat}{d:Dvc}{j cap1:Nat}(hK:K<f.length):(FO f K d j cap1)[K]?=some (Gg d j cap1):=by
 unfold FO;rw[List.getElem?_set_self (by simpa using hK)]
theorem Hk{f:Aj}{K:Nat}{d:Dvc}{j cap cap1:Nat}(hK:K<f.length):(DB f K d j cap cap1)[0+K * 2+1]?=some (.bs j 0 8 d.nodes.length cap1):=Ly (Nm _ _ _ _ _) (Po hK) rfl
theorem Y0{f:Aj}{K:Nat}{d:Dvc}{j cap cap1:Nat}(hK:K<f.length):(DB f K d j cap cap1)[0+K * 2+0]?=some (.v (.int .i64 d.next)):=Ly (Nm _ _ _ _ _) (Po hK) rfl
theorem JB{ns:List Nod}{cap1 i:Nat}{n:Nod}(h:ns[i]?=some n):((NB ns cap1).drop (0+i * 8)).take 8=Am n:=Xz (Jf _) (by rw[List.getElem?_map,h];rfl)
theorem T7{ns:List Nod}{cap1 i k:Nat}{n:Nod}{x:AV}(h:ns[i]?=some n)(hx:(Am n)[k]?=some x):(NB ns cap1)[0+i * 8+k]?=some x:=Ly (Jf _) (by rw[List.getElem?_map,h];rfl) hx
theorem Pp{ns:List Nod}{cap1 i k:Nat}{n n':Nod}{cs:List AV}(h:ns[i]?=some n)(hs:SetAt (Am n) k cs (Am n'))(hne:cs≠[]):SetAt (NB ns cap1) (0+i * 8+k) cs (NB (ns.set i n') cap1):=by
 have key:=Pn (cap:=cap1) (Jf ns) (by rw[List.getElem?_map,h];rfl) hs hne;rw[←List.map_set]at key;exact key
theorem Pq{f:Aj}{K:Nat}{d d':Dvc}{j j' cap cap1 cap1' k:Nat}{cs:List AV}(hK:K<f.length)(hs:SetAt (Gg d j cap1) k cs (Gg d' j' cap1'))(hne:cs≠[]):SetAt (DB f K d j cap cap1) (0+K * 2+k) cs (DB f K d' j' cap cap1'):=by
 have key:=Pn (cap:=cap) (Nm f K d j cap1) (Po hK) hs hne;unfold FO at key;rw[List.set_set]at key;exact key
theorem Pr(f:Aj)(K:Nat)(d d':Dvc)(j cap cap1:Nat):DB (f.set K d') K d j cap cap1=DB f K d j cap cap1:=by
 unfold DB FO;rw[List.map_set,List.set_set]
theorem LeA.tok(sz:Nat)(rows:List (List AV))(g:Option Nat):LeA (.sl sz rows g) (.sl sz rows none):=fun G w v h=>by
 cases g with
 |none=>exact h
 |some g=>simp only[rep]at h ⊢;exact h.1
section
variable {P:Program}{ev:Operand→Option AV}{h:AH}{R:AV→AH→Prop}{d:Option Tmp}{ty:TypeId}{pos:String}{af:Array Edge}{gd:Option (Nat×Bool)}
theorem Cq{T:TypeId}{x:Operand}{sz i o:Nat}{row cs:List AV}[ht:Typ P T sz true](hx:ev x=some (.bp i o))(hb:h.bx[i]?=some row)(hr:o+sz≤row.length)(he:(row.drop o).take sz=cs)(hR:R (.agg cs) h):AStep P ⟨d, .load T x,ty,pos,af,gd⟩ ev h R:=by
 subst he;exact JS hx hb (by rw[Nat.ble_eq];exact hr) hR
end
end Go.Proofs.YtbgnigjfkbmceaaGreatDoor
namespace Go.Proofs.YtbgnigjfkbmceaaGreatDoor
abbrev Bs:=List UInt8
def E9(l:Bs):Bool:=decide (l≠[]∧l.length≤12∧l≠[46]∧l≠[46,46]∧(0:UInt8)∉l∧(47:UInt8)∉l)
theorem Np{l:Bs}:E9 l=true↔l≠[]∧l.length≤12∧l≠[46]∧l≠[46,46]∧(0:UInt8)∉l∧(47:UInt8)∉l:=decide_eq_true_iff
def CS:Bs→List Bs
 |[]=>[[]]
 |c::t=>if c=47 then[]::CS t else match CS t with
   |[]=>[[c]]
   |h::r=>(c::h)::r
def ne_(p:Bs):Bool:=decide (p≠[])
def Cr(l:Bs):List Bs:=(CS l).filter ne_
def DG(ps:List Bs):Bs:=ps.flatMap fun p=>47::p
theorem Ps(l:Bs):CS l≠[]:=by
 cases l with
 |nil=>simp[CS]
 |cons c t=>
   unfold CS;split
   ·simp
   split<;>simp
theorem T8(c:UInt8)(t:Bs):CS (c::t)=if c=47 then[]::CS t else match CS t with
    |[]=>[[c]]
    |h::r=>(c::h)::r:=rfl
theorem TA(u t:Bs):CS (u++47::t)=CS u++CS t:=by
 induction u with
 |nil=>simp[CS]
 |cons c u ih=>
   rw[List.cons_append,T8,T8,ih];by_cases hc:c=47
   ·simp[hc]
   rw[if_neg hc,if_neg hc]
   cases h:CS u with
   |nil=>exact absurd h (Ps u)
   |cons a r=>simp
theorem Nq{l:Bs}(h:(47:UInt8)∉l):CS l=[l]:=by
 induction l with
 |nil=>rfl
 |cons c t ih=>
   simp only[List.mem_cons,not_or]at h;unfold CS;rw[if_neg (fun e=>h.1 e.symm),ih h.2]
theorem TB{a:Bs}(h:(47:UInt8)∉a)(b:Bs):CS (a++47::b)=a::CS b:=by
 rw[TA,Nq h];rfl
theorem Hl(p:Bs)(ps:List Bs):DG (p::ps)=47::(p++DG ps):=by simp[DG]
theorem Pt(ps qs:List Bs):DG (ps++qs)=DG ps++DG qs:=by simp[DG]
theorem TC:∀(ps:List Bs) (p:Bs),(47:UInt8)∉p→(∀q∈ps,(47:UInt8)∉q)→CS (p++DG ps)=p::ps:=by
 intro ps
 induction ps with
 |nil=>intro p hp _;simp[DG,Nq hp]
 |cons q ps ih=>
   intro p hp hq;rw[Hl,TB hp,ih q (hq q (by simp)) fun x hx=>hq x (by simp[hx])]
theorem TD(l:Bs):DG (CS l)=47::l:=by
 induction l with
 |nil=>simp[CS,DG]
 |cons c t ih=>
   unfold CS;by_cases hc:c=47
   ·rw[if_pos hc,Hl,ih,hc];rfl
   rw[if_neg hc]
   cases h:CS t with
   |nil=>exact absurd h (Ps t)
   |cons a r=>
     rw[h]at ih;rw[Hl]at ih ⊢;simp only[List.cons.injEq,true_and]at ih;simp[ih]
theorem Kr:Cr []=[]:=by simp[Cr,CS,ne_]
theorem Nr(u t:Bs):Cr (u++47::t)=Cr u++Cr t:=by simp[Cr,TA]
def one_(p:Bs):List Bs:=if p=[]then[]else[p]
theorem TE{l:Bs}(h:(47:UInt8)∉l):Cr l=one_ l:=by
 unfold Cr one_;rw[Nq h];by_cases e:l=[]<;>simp[e,ne_]
def Pu(u:Bs):Prop:=u=[]∨∃u',u=u'++[47]
theorem TF{u p:Bs}(hu:Pu u)(hp:(47:UInt8)∉p):Cr (u++p)=Cr u++one_ p:=by
 rcases hu with rfl|⟨u',rfl⟩
 ·simp[Kr,TE hp]
 have e:u'++[47]++p=u'++47::p:=by simp
 rw[e,Nr,Nr,Kr,TE hp];simp
theorem Y1{u p:Bs}(hu:Pu u)(hp:(47:UInt8)∉p):Cr (u++p++[47])=Cr u++one_ p:=by
 rw[Nr,TF hu hp,Kr,List.append_nil]
def FP(l:Bs):Bool:=decide (l=[47])||(decide (l.head?=some 47)&&(CS l.tail).all E9)
def Lz(l:Bs):Bool:=(Cr l).all E9&&(decide (l=[47])||(decide (Cr l≠[])&&decide (l=DG (Cr l))))
theorem Ns{p:Bs}(h:E9 p=true):(47:UInt8)∉p:=(Np.1 h).2.2.2.2.2
theorem Y2{p:Bs}(h:E9 p=true):p≠[]:=(Np.1 h).1
theorem Y3(l:Bs):FP l=true↔l=[47]∨∃ps,ps≠[]∧(∀p∈ps,E9 p=true)∧l=DG ps:=by
 unfold FP;rw[Bool.or_eq_true,Bool.and_eq_true,decide_eq_true_iff,decide_eq_true_iff];constructor
 ·rintro(h|⟨h,ha⟩)
  ·exact .inl h
  cases l with
  |nil=>simp at h
  |cons c t=>
    simp at h;subst h;exact .inr ⟨CS t,Ps t,by simpa using ha,(TD t).symm⟩
 rintro(h|⟨ps,hne,hn,rfl⟩)
 ·exact .inl h
 cases ps with
 |nil=>exact absurd rfl hne
 |cons p ps=>
   right;rw[Hl];refine⟨rfl,?_⟩;show(CS (p++DG ps)).all E9=true;rw[TC ps p (Ns (hn p (by simp))) fun q hq=>Ns (hn q (by simp[hq]))]
   simpa using hn
theorem Y4{ps:List Bs}(hn:∀p∈ps,E9 p=true):Cr (DG ps)=ps:=by
 cases ps with
 |nil=>simp[DG,Kr]
 |cons p ps=>
   rw[Hl];have:=Nr [] (p++DG ps);rw[List.nil_append]at this;rw[this,Kr,List.nil_append];unfold Cr;rw[TC ps p (Ns (hn p (by simp))) fun q hq=>Ns (hn q (by simp[hq]))];rw[List.filter_eq_self];intro a ha
   simpa[ne_]using Y2 (hn a ha)
theorem Y5:Cr [47]=[]:=by simp[Cr,CS,ne_]
theorem Pv(l:Bs):Lz l=FP l:=by
 rw[Bool.eq_iff_iff,Y3];unfold Lz;rw[Bool.and_eq_true,Bool.or_eq_true,Bool.and_eq_true,decide_eq_true_iff,decide_eq_true_iff,decide_eq_true_iff,List.all_eq_true];constructor
 ·rintro⟨ha,h|⟨h1,h2⟩⟩
  ·exact .inl h
  exact .inr ⟨_,h1,ha,h2⟩
 rintro(rfl|⟨ps,h1,h2,rfl⟩)
 ·exact⟨by simp[Y5], .inl rfl⟩
 rw[Y4 h2];exact⟨h2, .inr ⟨h1,rfl⟩⟩
end Go.Proofs.YtbgnigjfkbmceaaGreatDoor
namespace Go.Proofs.YtbgnigjfkbmceaaGreatDoor
def CB(xs:List AT):List Bs:=xs.map fun x=>x.data.toList
theorem Pw(x:UInt8):((x.toNat:Int)==47)=decide (x=47):=by
 rw[Bool.eq_iff_iff,beq_iff_eq,decide_eq_true_iff];constructor
 ·intro h;apply UInt8.toNat_inj.1;have:(47:UInt8).toNat=47:=rfl;omega
 rintro rfl;rfl
def EA(l:Bs)(f k:Nat)(bs:List Bs):Prop:=(k≤l.length∧f≤k∧Pu (l.take f)∧(47:UInt8)∉(l.drop f).take (k - f)∧bs=Cr (l.take f))∨(k=l.length+1∧bs=Cr l)
theorem Y6{l:Bs}{f k:Nat}{bs:List Bs}{x:UInt8}(h:EA l f k bs)(hx:l[k]?=some x)(hne:x≠47):EA l f (k+1) bs:=by
 have hk:=(At.1 hx).1;rcases h with⟨h1,h2,h3,h4,h5⟩|⟨h1,h2⟩
 ·refine .inl ⟨hk,by omega,h3,?_,h5⟩;rw[show k+1 - f=(k - f)+1 by omega,List.take_add_one];have:(l.drop f)[k - f]?=some x:=by rw[List.getElem?_drop,show f+(k - f)=k by omega];exact hx
  rw[this];simp only[Option.toList_some,List.mem_append,List.mem_singleton,not_or];exact⟨h4,fun e=>hne e.symm⟩
 omega
theorem TG{l:Bs}{f k:Nat}(h:f≤k):l.take k=l.take f++(l.drop f).take (k - f):=by
 rw[show k=f+(k - f) by omega,List.take_add];simp
theorem Y7{l:Bs}{f k:Nat}{bs:List Bs}(h:EA l f k bs)(hx:l[k]?=some 47):EA l (k+1) (k+1) (bs++one_ ((l.drop f).take (k - f))):=by
 have hk:=(At.1 hx).1;rcases h with⟨h1,h2,h3,h4,h5⟩|⟨h1,h2⟩
 ·have e:l.take (k+1)=l.take f++(l.drop f).take (k - f)++[47]:=by rw[List.take_add_one,hx,TG h2];rfl
  refine .inl ⟨hk,BN _, .inr ⟨_,e⟩,by simp,?_⟩;rw[e,Y1 h3 h4,h5]
 omega
theorem Y8{l:Bs}{f:Nat}{bs:List Bs}(h:EA l f l.length bs):EA l (l.length+1) (l.length+1) (bs++one_ ((l.drop f).take (l.length - f))):=by
 rcases h with⟨h1,h2,h3,h4,h5⟩|⟨h1,h2⟩
 ·refine .inr ⟨rfl,?_⟩;have e:=TG (l:=l) h2;rw[List.take_length]at e;have h6:=TF h3 h4;rw[←e]at h6;rw[h5];exact h6.symm
 omega
theorem Y9(l:Bs):EA l 0 0 []:= .inl ⟨BV _,BN _, .inl rfl,by simp,by simp[Kr]⟩
theorem Nt{l:Bs}{f k:Nat}{bs:List Bs}(h:EA l f k bs)(hk:l.length<k):bs=Cr l:=by
 rcases h with⟨h1,_⟩|⟨_,h2⟩
 ·omega
 exact h2
theorem YA{p:Bs}(h:p≠[]):one_ p=[p]:=if_neg h
theorem YB(s:ByteArray){f k:Nat}(h:f<k)(hk:k≤s.size):(s.data.toList.drop f).take (k - f)≠[]:=by
 intro e;have:=congrArg List.length e;rw[Lib.size_eq]at hk;simp at this;simp at hk;omega
theorem YC(s:ByteArray)(h:0<s.size):decide (s.data.toList.head?=some 47)=(((s[0]'h).toNat:Int)==47):=by
 rw[Pw];have:s.data.toList.head?=some (s[0]'h):=by rw[List.head?_eq_getElem?];exact Lib.data_getElem? s 0 h
 rw[this];simp
theorem YD(s:ByteArray)(h:0<s.size):decide (s.data.toList.getLast?=some 47)=(((s[s.size - 1]'(by omega)).toNat:Int)==47):=by
 rw[Pw];have:s.data.toList.getLast?=some (s[s.size - 1]'(by omega)):=by rw[List.getLast?_eq_getElem?,←Lib.size_eq];exact Lib.data_getElem? s _ (by omega)
 rw[this];simp
theorem YE{s:ByteArray}{a k a' k':Nat}{ss:List AT}(h:EA s.data.toList a' k' (CB ss++one_ ((s.data.toList.drop a).take (k - a))))(ho:one_ ((s.data.toList.drop a).take (k - a))=[(s.data.toList.drop a).take (k - a)]):EA s.data.toList a' k' (CB (ss++[s.extract a k])):=by
 rw[ho]at h
 have:CB (ss++[s.extract a k])=CB ss++[(s.data.toList.drop a).take (k - a)]:=by
  rw[←Lib.extract_data];simp[CB]
 rw[this];exact h
theorem YF{s:ByteArray}{a k a' k':Nat}{bs:List Bs}(h:EA s.data.toList a' k' (bs++one_ ((s.data.toList.drop a).take (k - a))))(ho:k≤a):EA s.data.toList a' k' bs:=by
 rw[show k - a=0 by omega]at h
 simpa[one_]using h
theorem TH(s:ByteArray):s.toList=s.data.toList:=Lib.toList_data s
theorem YG(s:ByteArray):(s.toList==[46])=decide (s.data.toList=[46]):=by rw[TH,Bool.eq_iff_iff];simp
theorem YH(s:ByteArray):(s.toList==[46,46])=decide (s.data.toList=[46,46]):=by rw[TH,Bool.eq_iff_iff];simp
theorem TJ(s:AT):FM s=E9 s.data.toList:=by
 have hs:=Lib.size_eq s;rw[Bool.eq_iff_iff,Np];unfold FM;by_cases h1:s.size<1∨12<s.size
 ·rw[if_pos h1];constructor
  ·intro h;cases h
  rintro⟨h2,h3,_⟩;have:0<s.data.toList.length:=List.length_pos_iff.2 h2;omega
 rw[if_neg h1,YG,YH];have hne:s.data.toList≠[]:=by intro e;rw[e]at hs;change s.size=0 at hs;omega
 by_cases h2:s.data.toList=[46]
 ·rw[if_pos (decide_eq_true h2)];constructor
  ·intro h;cases h
  exact fun h=>absurd h2 h.2.2.1
 rw[if_neg (by simpa using h2)];by_cases h3:s.data.toList=[46,46]
 ·rw[if_pos (decide_eq_true h3)];constructor
  ·intro h;cases h
  exact fun h=>absurd h3 h.2.2.2.1
 rw[if_neg (by simpa using h3),List.all_eq_true]
 have hb:∀c:UInt8,J5 c=true↔c≠0∧c≠47:=by
  intro c;unfold J5;rw[Bool.and_eq_true,Pw]
  have:((c.toNat:Int)==0)=decide (c=0):=by
   rw[Bool.eq_iff_iff,beq_iff_eq,decide_eq_true_iff];constructor
   ·intro h;apply UInt8.toNat_inj.1;have:(0:UInt8).toNat=0:=rfl;omega
   rintro rfl;rfl
  rw[this];simp
 constructor
 ·intro h;exact⟨hne,by omega,h2,h3,fun h0=>((hb _).1 (h _ h0)).1 rfl,fun h0=>((hb _).1 (h _ h0)).2 rfl⟩
 rintro⟨_,_,_,_,h0,h47⟩ c hc;exact(hb c).2 ⟨fun e=>h0 (e ▸ hc),fun e=>h47 (e ▸ hc)⟩
theorem YJ(ps:List Bs)(p:Bs→Bool):(DG (ps.filter p)).length≤(DG ps).length:=by
 induction ps with
 |nil=>simp
 |cons q ps ih=>
   rw[List.filter_cons];split
   ·rw[Hl,Hl];simp;omega
   rw[Hl];simp;omega
theorem YK(ps:List Bs)(k:Nat):(DG (ps.take k)).length≤(DG ps).length:=by
 conv=>rhs;rw[←List.take_append_drop k ps,Pt]
 simp
theorem Px(l:Bs):(DG (Cr l)).length≤l.length+1:=by
 have:=YJ (CS l) ne_;rw[TD]at this
 simpa[Cr]using this
theorem YL{l p:Bs}(h:p∈Cr l):p.length≤l.length:=by
 have h1:=Px l;obtain⟨a,b,e⟩:=List.append_of_mem h;rw[e,Pt,Hl]at h1;simp at h1;omega
end Go.Proofs.YtbgnigjfkbmceaaGreatDoor
namespace Go.Proofs.YtbgnigjfkbmceaaGreatDoor
open Go.RowKit
section
def Old(w:World):Nat→Prop:=fun b=>b<w.heap.size
theorem PW{B:Nat}{a w:World}(h:Below B a w)(n:Nat):Below B a (w.drewN n):=⟨h.os,h.tape,h.output,h.size,h.block⟩
theorem KD{a b:Bool}(h:a=b):Ending.returned (.bool a)= .returned (.bool b):=by rw[h]
theorem GC{w:World}{b:Nat}{o:Obj}(h:w.heap[b]?=some o)(o':Obj):(w.alloc o').heap[b]?=some o:=by
 have hb:b<w.heap.size:=by
  rcases Nat.lt_or_ge b w.heap.size with hlt|hge
  ·exact hlt
  rw[Array.getElem?_eq_none hge]at h;cases h
 exact(Below.heap_alloc w o' b hb).trans h
theorem Hj{w w':World}{b B:Nat}{o:Obj}(h:w.heap[b]?=some o)(hg:Below B w w')(hb:b<B):w'.heap[b]?=some o:=(hg.block b hb).trans h
theorem Jg(w:World)(o1:Obj):Below w.heap.size w (w.alloc o1):=by
 exact(Below.refl _ w).alloc (BN _) _
theorem Ni(w:World)(o1:Obj):(w.alloc o1).heap[w.heap.size]?=some o1:=(by have:=heap_alloc_new w o1;simpa using this)
theorem Ls(w:World)(o1 o2:Obj):Below w.heap.size w ((w.alloc o1).alloc o2):=by
 exact(Jg w o1).alloc (by simp<;>omega) _
theorem Nj(w:World)(o1 o2:Obj):((w.alloc o1).alloc o2).heap[w.heap.size]?=some o1:=GC (Ni w o1) _
theorem Nk(w:World)(o1 o2:Obj):((w.alloc o1).alloc o2).heap[w.heap.size+1]?=some o2:=(by have:=heap_alloc_new (w.alloc o1) o2;simpa using this)
theorem PZ(w:World)(o1 o2 o3:Obj):Below w.heap.size w (((w.alloc o1).alloc o2).alloc o3):=by
 exact(Ls w o1 o2).alloc (by simp<;>omega) _
theorem Pa(w:World)(o1 o2 o3:Obj):(((w.alloc o1).alloc o2).alloc o3).heap[w.heap.size]?=some o1:=GC (Nj w o1 o2) _
theorem Pb(w:World)(o1 o2 o3:Obj):(((w.alloc o1).alloc o2).alloc o3).heap[w.heap.size+1]?=some o2:=GC (Nk w o1 o2) _
theorem Pc(w:World)(o1 o2 o3:Obj):(((w.alloc o1).alloc o2).alloc o3).heap[w.heap.size+1+1]?=some o3:=(by have:=heap_alloc_new ((w.alloc o1).alloc o2) o3;simpa using this)
structure Moves(own:Nat→Prop)(B:Nat)(X Y:World):Prop where
 os:Y.os=X.os
 tape:Y.tape=X.tape
 output:Y.output=X.output
 size:X.heap.size≤Y.heap.size
 block:∀k,k<X.heap.size→¬own k→(k<B∨∃o:Obj,X.heap[k]?=some o∧o.isCells=true)→Y.heap[k]?=X.heap[k]?
section
variable {own:Nat→Prop}{B:Nat}{X Y Z:World}
theorem Moves.mono(h:Moves own B X Y){B':Nat}(hB:B'≤B):Moves own B' X Y:=
 ⟨h.os,h.tape,h.output,h.size,fun i hi ho hb=>h.block i hi ho (by
  rcases hb with hb|hb
  ·exact .inl (Nat.lt_of_lt_of_le hb hB)
  exact .inr hb)⟩
theorem Moves.below(h:Below X.heap.size X Y):Moves own B X Y:=⟨h.os,h.tape,h.output,h.size,fun i hi _ _=>h.block i hi⟩
theorem Moves.grown{g:Nat}(h:X.grownBy Y (some g))(hg:own g):Moves own B X Y:=
 ⟨h.os,h.tape,h.output,h.size,fun i hi ho _=>h.block i hi (fun e=>ho (by injection e with e;rw[e];exact hg))⟩
theorem Moves.set_(X:World){b:Nat}(hb:own b)(v:Value):Moves own B X (X.setCell ⟨b,0,none⟩ v):=Moves.grown (grownBy_setCell' X b v) hb
theorem Moves.put_{l:Nat}{o:Obj}(o':Obj)(hl:X.heap[l]?=some o)(ho:o.isCells=false)(hB:B≤l):Moves own B X (X.putObj l o'):=
 have h:=grownBy_putObj' X l o'
 ⟨h.os,h.tape,h.output,h.size,fun i hi _ hb=>h.block i hi (fun e=>by
  injection e with e;subst e;rcases hb with hb|⟨o2,h1,h2⟩
  ·omega
  rw[hl]at h1;injection h1 with h1;subst h1;rw[ho]at h2;cases h2)⟩
theorem Moves.boxed(h:Moves own B X Y){b:Nat}{t:TypeId}{v:Value}(hb:Boxed X b t v)(hn:¬own b):Boxed Y b t v:=
 (h.block b hb.lt hn (.inr ⟨_,hb,rfl⟩)).trans hb
theorem Moves.under(h:Moves own B X Y){n₀:Nat}{w:World}(hb:Below n₀ w X)(hn:n₀≤w.heap.size)(ho:∀b,own b→n₀≤b)(hB:n₀≤B):Below n₀ w Y:=
 ⟨h.os.trans hb.os,h.tape.trans hb.tape,h.output.trans hb.output,Nat.le_trans hb.size h.size,fun i hi=>by
  refine(h.block i (by have:=hb.size;omega) (fun e=>?_) (.inl (by omega))).trans (hb.block i hi);have:=ho i e
  omega⟩
end
theorem TK{B:Nat}{X Y:World}(h:Below X.heap.size X Y):KeepsFrom B X Y:=⟨h.size,fun k _ _ hk _=>(h.block k (Array.getElem?_eq_some_iff.1 hk).1).trans hk⟩
theorem YM{B:Nat}{X Y:World}(h:KeepsFrom B X Y){b:Nat}(hb:b<B)(v:Value):KeepsFrom B X (Y.setCell ⟨b,0,none⟩ v):=
 h.trans (KeepsFrom.of_grownBy (grownBy_setCell' Y b v) (fun j e=>by cases e;exact hb))
theorem TL{W:World}{b D:Nat}{t:TypeId}{v:Value}(h:Boxed W b t v)(hne:b≠D)(o:Obj):Boxed (W.putObj D o) b t v:=h.kept (grownBy_putObj' W D o) (fun e=>hne (by injection e))
theorem TM{B:Nat}{w W:World}(h:Below B w W){D:Nat}(hD:B≤D)(o:Obj):Below B w (W.putObj D o):=
 have g:=grownBy_putObj' W D o
 ⟨g.os.trans h.os,g.tape.trans h.tape,g.output.trans h.output,Nat.le_trans h.size g.size,fun k hk=>(World.putObj_heap_other (by omega)).trans (h.block k hk)⟩
theorem Nu{P:Program}{n m f:Nat}{args:Array Value}{w:World}{R:Ending→World→Prop}(h:CallsIn Fence.wide m P f args w R):
    Fence.wide.fn f∧(Fence.wide.depth.isSome=true→1≤n)∧CallsIn Fence.wide m P f args w R:=⟨trivial,(fun h=>by cases h),h⟩
def TN{α:Type}(F:Fence)(n:Nat)(P:Program)(g:Nat)(lb:Array Value)(encs:α→Array Value)(own:Nat→Prop)(Kp:World→World→Prop)(Pf:List α→Prop)(S Sp:List α→Prop)(w:World):Prop:=
 ∀(l:Nat) (J Jx:List α→World→Prop) (W:World),Below w.heap.size w W→
  (∀s X Y,J s X→Moves own W.heap.size X Y→J s Y)→(∀s X Y,Jx s X→Moves own W.heap.size X Y→Jx s Y)→
  (∀pre x W1,J pre W1→Pf (pre++[x])→YieldAt F (n - 1) P l (encs x) W1 fun e W'=>
    (e= .returned (.bool true)∧J (pre++[x]) W'∧Kp W1 W')∨(e= .returned (.bool false)∧Jx (pre++[x]) W'))→
  J [] W→
  CallsIn F n P g (#[.func (.yield l) #[] #[]]++lb) W fun e W'=>(∃v,e= .returned v)∧((∃xs,S xs∧J xs W')∨(∃pre,Sp pre∧Jx pre W'))
variable {F:Fence}{n:Nat}{P:Program}
theorem YN{α:Type}{g:Operand}{ps:Array Tmp}{assign body:Code}{Q:Exit→Act→World→Prop}{a:Act}{w:World}
    (hro:F.round=none) (h1:1≤n) {gf:Nat} {lb:Array Value} (hg:a.eval g= .func (.func gf) #[] lb) (hFg:F.fn gf) (eg:∀args w,(callFunc gf args).run P w= .ok (.enter gf args) w)
    {encs:α→Array Value} {own:Nat→Prop} {Kp:World→World→Prop} {Pf:List α→Prop} {S Sp:List α→Prop} {w0:World} (hseq:TN F (n - 1) P gf lb encs own Kp Pf S Sp w0)
    (hown:∀b,own b→b<w.heap.size) (hKt:∀{A B C:World},Kp A B→Kp B C→Kp A C) (hKb:∀(W:World) (l:Nat) (o o':Obj),w.heap.size≤l→W.heap[l]?=some o→o.isCells=false→Kp W (W.putObj l o'))
    (hb0:Below w0.heap.size w0 w) (hps:∀x,(encs x).size=ps.size)
    (I:List α→World→Prop) (Ix:Code→List α→World→Prop) (hI:∀s X Y,I s X→Moves own w.heap.size X Y→I s Y) (hIx:∀c s X Y,Ix c s X→Moves own w.heap.size X Y→Ix c s Y) (h0:I [] w) (a₁:α→Act)
    (hassign:∀(l:Nat) (x:α) (W:World) (K:Act→World→Prop),K (a₁ x) W→
      assign.wpIn (F.inRound l) (n - 1 - 1) P (Exit.then K (fun _ _ _=>False)) {tmps:=(ps.zip (encs x)).foldl (fun t (p,v)=>t.setIfInBounds p v) a.tmps,defers:=[]} W)
    (hbody:∀(l:Nat) (pre:List α) (x:α) (W:World),I pre W→Pf (pre++[x])→w.heap.size+2≤W.heap.size→body.wpIn (F.inRound l) (n - 1 - 1) P (ownPostG w.heap.size Kp I Ix (pre++[x]) W) (a₁ x) W)
    (hdone:∀(D:Nat) (xs:List α) (W:World),w.heap.size≤D→S xs→I xs W→W.heap[D]?=some (.deferred (some []))→Q .normal {a with defers:={target:= .collected D,args:=#[]}::a.defers} W)
    (hstop:∀(D:Nat) (c:Code) (pre:List α) (W:World),w.heap.size≤D→Sp pre→Ix c pre W→W.heap[D]?=some (.deferred (some []))→c.wpIn F n P Q {a with defers:={target:= .collected D,args:=#[]}::a.defers} W):
    (Code.rangeFunc g ps assign body).wpIn F n P Q a w:=by
 refine wpIn_rangeFunc ?_;intro fn hfn;rw[hro];obtain⟨rec,hrec⟩:∃rec:LoopState→Option Code→Loop,rec=fun st pe=>{state:=st,pending:=pe,fn,tmps:=a.tmps,params:=ps,assign,body,defers:=w.heap.size}:=⟨_,rfl⟩;obtain⟨W1,hW1⟩:∃W1,(w.alloc (.deferred (some []))).alloc (.loop (rec .ready none))=W1:=⟨_,rfl⟩;have hbw:Below w.heap.size w W1:=by rw[←hW1];exact Ls w _ _
 have hsz:W1.heap.size=w.heap.size+2:=by rw[←hW1];simp
 have hL1:W1.heap[w.heap.size+1]?=some (.loop (rec .ready none)):=by rw[←hW1];exact Nk _ _ _
 have hK1:W1.heap[w.heap.size]?=some (.deferred (some [])):=by rw[←hW1];exact Nj _ _ _
 have hn0:¬own w.heap.size:=fun h=>by have:=hown _ h;omega
 have hn1:¬own (w.heap.size+1):=fun h=>by have:=hown _ h;omega
 refine⟨w.heap.size+1,[{target:= .collected w.heap.size,args:=#[]}],W1,{target:= .fn (.func gf) lb,args:=#[.func (.yield (w.heap.size+1)) #[] #[]]},W1,gf,
  #[.func (.yield (w.heap.size+1)) #[] #[]]++lb,W1,?_,?_,?_,?_,fun _=>h1,?_⟩
 ·rw[←hW1,hrec];exact run_enterLoop_outer _ _ _ _ _
 ·simp only[resolve,hg];simp[go_sem]
 ·intro f' hf';simp[Target.leads]at hf';subst hf';exact hFg
 ·simp[invoke,go_sem,eg]
 have lt_of:∀{W:World} {k:Nat} {o:Obj},W.heap[k]?=some o→k<W.heap.size:=fun h=>(Array.getElem?_eq_some_iff.1 h).1;have keep:∀{X Y:World} {k:Nat} {o:Obj},Moves own W1.heap.size X Y→X.heap[k]?=some o→k<W1.heap.size→¬own k→Y.heap[k]?=some o:=fun hm hx hk hn=>(hm.block _ (lt_of hx) hn (.inl hk)).trans hx
 refine(hseq (w.heap.size+1)
  (fun pre W=>I pre W∧W.heap[w.heap.size+1]?=some (.loop (rec .ready none))∧W.heap[w.heap.size]?=some (.deferred (some [])))
  (fun pre W=>∃c,Ix c pre W∧W.heap[w.heap.size+1]?=some (.loop (rec .done (some c)))∧W.heap[w.heap.size]?=some (.deferred (some [])))
  W1 (hb0.trans (hbw.mono hb0.size))
  (fun s X Y hs hm=>⟨hI s X Y hs.1 (hm.mono (by omega)),keep hm hs.2.1 (by omega) hn1,keep hm hs.2.2 (by omega) hn0⟩)
  (fun s X Y hs hm=>by
    obtain⟨c,hc,hl,hk⟩:=hs
    exact⟨c,hIx c s X Y hc (hm.mono (by omega)),keep hm hl (by omega) hn1,keep hm hk (by omega) hn0⟩)
  ?_ ⟨hI _ _ _ h0 (.below hbw),hL1,hK1⟩).mono ?_
 ·rintro pre x W ⟨hi,hl,hk⟩ hpf;have hlt:w.heap.size+1<W.heap.size:=lt_of hl;have hy:=run_yield (P:=P) (args:=encs x) hl (by rw[hrec];exact hps x);rw[hrec]at hy;refine⟨fn,_,assign,body,hy,roundIn_of_wpIn hfn (hassign _ x W _ ⟨_,run_beginRound hl (by rw[hrec]),?_⟩)⟩;have hl2:(W.putObj (w.heap.size+1) (.loop {rec .ready none with state:= .busy})).heap[w.heap.size+1]?=some (.loop {rec .ready none with state:= .busy}):=World.putObj_heap_same hlt;have hk2:(W.putObj (w.heap.size+1) (.loop {rec .ready none with state:= .busy})).heap[w.heap.size]?=some (.deferred (some [])):=(World.putObj_heap_other (by omega)).trans hk;have hw2:Kp W (W.putObj (w.heap.size+1) (.loop {rec .ready none with state:= .busy})):=hKb _ _ _ _ (by omega) hl rfl;refine wpIn_mono (hbody _ pre x _ (hI _ _ _ hi (.put_ _ hl rfl (by omega))) hpf (lt_of hl2)) ?_
  have fin:∀(jump:Option Code) (W3:World),KeepsFrom w.heap.size (W.putObj (w.heap.size+1) (.loop {rec .ready none with state:= .busy})) W3→
      (Instr.endRound (w.heap.size+1) jump).run P W3= .ok (.bool jump.isNone) (W3.putObj (w.heap.size+1) (.loop (rec (if jump.isNone then .ready else .done) jump)))∧
      W3.heap[w.heap.size+1]?=some (.loop {rec .ready none with state:= .busy})∧
      (W3.putObj (w.heap.size+1) (.loop (rec (if jump.isNone then .ready else .done) jump))).heap[w.heap.size+1]?=some (.loop (rec (if jump.isNone then .ready else .done) jump))∧
      (W3.putObj (w.heap.size+1) (.loop (rec (if jump.isNone then .ready else .done) jump))).heap[w.heap.size]?=some (.deferred (some [])):=fun jump W3 hk3=>by
   have hl3:=hk3.same _ _ (by omega) hl2 rfl;have:=run_endRound (P:=P) jump hl3;rw[hrec]at this ⊢;exact⟨this,by rw[hrec]at hl3;exact hl3,World.putObj_heap_same (lt_of hl3),(World.putObj_heap_other (by omega)).trans (hk3.same _ _ (BN _) hk2 rfl)⟩
  rintro e a3 W3 hp
  cases e with
  |normal=>
    obtain⟨hk3,hkp3,hi3⟩:=hp;obtain⟨hr,hl3,hl4,hk4⟩:=fin none W3 hk3;exact⟨_,_,hr, .inl ⟨rfl,⟨hI _ _ _ hi3 (.put_ _ hl3 rfl (by omega)),hl4,hk4⟩,hKt (hKt hw2 hkp3) (hKb _ _ _ _ (by omega) hl3 rfl)⟩⟩
  |ret=>
    obtain⟨hk3,hi3⟩:=hp;obtain⟨hr,hl3,hl4,hk4⟩:=fin (some .ret) W3 hk3;exact⟨_,_,hr, .inr ⟨rfl, .ret,hIx _ _ _ _ hi3 (.put_ _ hl3 rfl (by omega)),hl4,hk4⟩⟩
  |exit id=>
    obtain⟨hk3,hi3⟩:=hp;obtain⟨hr,hl3,hl4,hk4⟩:=fin (some (.exit id)) W3 hk3;exact⟨_,_,hr, .inr ⟨rfl, .exit id,hIx _ _ _ _ hi3 (.put_ _ hl3 rfl (by omega)),hl4,hk4⟩⟩
  |goto t=>
    obtain⟨hk3,hi3⟩:=hp;obtain⟨hr,hl3,hl4,hk4⟩:=fin (some (.goto t)) W3 hk3;exact⟨_,_,hr, .inr ⟨rfl, .goto t,hIx _ _ _ _ hi3 (.put_ _ hl3 rfl (by omega)),hl4,hk4⟩⟩
  |panic ch=>exact hp.elim
  |outgrown=>exact hp.elim
 rintro e W2 ⟨⟨v,rfl⟩,(⟨xs,hS,hi,hl,hk⟩|⟨pre,hSp,c,hi,hl,hk⟩)⟩
 ·exact⟨none,_,by have:=run_endLoop (P:=P) hl (by rw[hrec];simp);rw[hrec]at this;exact this,hdone _ xs _ (BN _) hS (hI _ _ _ hi (.put_ _ hl rfl (by omega))) ((World.putObj_heap_other (by omega)).trans hk)⟩
 exact⟨some c,_,by have:=run_endLoop (P:=P) hl (by rw[hrec];simp);rw[hrec]at this;exact this,hstop _ c pre _ (BN _) hSp (hIx _ _ _ _ hi (.put_ _ hl rfl (by omega))) ((World.putObj_heap_other (by omega)).trans hk)⟩
end
def hG(s:Spc)(N:Nat)(w:World)(ds ms:Value):Prop:=N≤w.heap.size∧Br (fun b _=>b<N) w (BK s) [ds,ms]
end Go.Proofs.YtbgnigjfkbmceaaGreatDoor
namespace Go.Proofs.YtbgnigjfkbmceaaGreatDoor
open Go.RowKit Go.Shelf
attribute [local go_sem] Oper.semAt_some
def JC(s:Spc)(a:AQ):Option AQ:=
 if(B5 s.files a).ino≠1 then some (a.1,(B5 s.files a).parent)
 else if a.1=0 then none else Cd s a.1
def DS(s:Spc):Nat→AQ→List AQ
 |0,_=>[]
 |k+1,a=>if Ay s.files a then a::(match JC s a with
   |none=>[]
   |some b=>DS s k b)else[]
def Ei(f:Aj):Nat:=(f.map fun d=>d.nodes.length).sum
end Go.Proofs.YtbgnigjfkbmceaaGreatDoor
namespace Go.Proofs.YtbgnigjfkbmceaaGreatDoor
open Go.RowKit
theorem De{es:List Bc}{j:Nat}{e:Bc}(h:es[j]?=some e)(name:AT)(ino:Int)(dn:Bool):Fm name ino dn (es.drop j)=(if !dn&& !F9 e.1 name then[(name,ino)]else[])++((if e.1=name then[]else[e])++Fm name ino (dn|| !F9 e.1 name) (es.drop (j+1))):=by
 obtain⟨hj,rfl⟩:=At.1 h;rw[List.drop_eq_getElem_cons hj];rfl
section
theorem M0(f:Aj)(q:Nat)(d:Dvc)(n:Nod)(i:Nat)(a:AQ)(name:AT)(ino:Int)(cap cap1:Nat)(hf:FlsB f)(hq:f[q]?=some d)(ha:a.1=(q:Int))(hi:FL f a=(i:Int))(hn:d.nodes[i]?=some n)(hcap:f.length≤cap)(hcap1:d.nodes.length≤cap1):
    ACall prog 232 [.agg [.bs 0 0 2 f.length cap], .agg (AN a), .v (.string name), .v (.int .i64 ino)] [DB f q d 1 cap cap1,NB d.nodes cap1] (fun r b t=>t=[]∧r= .tup []∧b=[DB f q d 1 cap cap1,NB (d.nodes.set i {n with entries:=Cb n.entries name ino}) cap1]):=by
 have hql:=(At.1 hq).1;have hil:=(At.1 hn).1;have hen:=hf.ents d (Aw hq) n (Aw hn);have hN0:0+i * 8+8≤(NB d.nodes cap1).length:=by rw[Lx hcap1];omega
 have hD0:(DB f q d 1 cap cap1)[0+q * 2+1]?=some (.bs 1 0 8 d.nodes.length cap1):=Hk hql;have hset:SetAt (NB d.nodes cap1) (0+i * 8+7) [.sl 2 ((Cb n.entries name ino).map FA) none] (NB (d.nodes.set i {n with entries:=Cb n.entries name ino}) cap1):=Pp hn (by repeat constructor) (by simp);refine enter Tryz.func232 rfl rfl rfl rfl rfl 2 rfl ?_;refine w_ (b_ (h:=b_ (h:=e_ (?_))));refine BR (fun t=>t=⟨look [(2, .v (.string name)),(3, .v (.int .i64 ino)),(4, .bp 2 0),(5, .bp 3 0),(8, .bp 4 0)],⟨[DB f q d 1 cap cap1,NB d.nodes cap1,[.bs 0 0 2 f.length cap],AN a,Am n],[]⟩⟩) ?_ ?_
 ·skip
  refine Bf ([(0,DB f q d 1 cap cap1),(1,NB d.nodes cap1),(2,[.bs 0 0 2 f.length cap]),(3,AN a)]) 13 (h:=AO 0 (h:=?_))
  first|refine AJ 1 (h:=?_)|refine BF 1 rfl (fun _ hS=>Bt (row:=DB f q d 1 cap cap1) rfl (kb hS rfl) hD0 ⟨rfl,rfl⟩) ?_|refine BF 1 rfl (fun _ hS=>Cq (row:=NB d.nodes cap1) rfl (kb hS rfl) hN0 (JB hn) ⟨rfl,rfl⟩) ?_
  refine AO 2 (h:=?_)
  first|refine AJ 3 (h:=?_)|refine BF 3 rfl (fun _ hS=>Bt (row:=DB f q d 1 cap cap1) rfl (kb hS rfl) hD0 ⟨rfl,rfl⟩) ?_|refine BF 3 rfl (fun _ hS=>Cq (row:=NB d.nodes cap1) rfl (kb hS rfl) hN0 (JB hn) ⟨rfl,rfl⟩) ?_
  refine BF 4 rfl (fun _ hS=>DE (m:=q) rfl rfl ha hql ⟨rfl,rfl⟩) ?_;refine AO 5 (h:=?_)
  first|refine AJ 6 (h:=?_)|refine BF 6 rfl (fun _ hS=>Bt (row:=DB f q d 1 cap cap1) rfl (kb hS rfl) hD0 ⟨rfl,rfl⟩) ?_|refine BF 6 rfl (fun _ hS=>Cq (row:=NB d.nodes cap1) rfl (kb hS rfl) hN0 (JB hn) ⟨rfl,rfl⟩) ?_
  first|refine AJ 7 (h:=?_)|refine BF 7 rfl (fun _ hS=>Bt (row:=DB f q d 1 cap cap1) rfl (kb hS rfl) hD0 ⟨rfl,rfl⟩) ?_|refine BF 7 rfl (fun _ hS=>Cq (row:=NB d.nodes cap1) rfl (kb hS rfl) hN0 (JB hn) ⟨rfl,rfl⟩) ?_
  first|refine AJ 8 (h:=?_)|refine BF 8 rfl (fun _ hS=>Bt (row:=DB f q d 1 cap cap1) rfl (kb hS rfl) hD0 ⟨rfl,rfl⟩) ?_|refine BF 8 rfl (fun _ hS=>Cq (row:=NB d.nodes cap1) rfl (kb hS rfl) hN0 (JB hn) ⟨rfl,rfl⟩) ?_
  refine F6 9 12 rfl rfl ?_ ?_
  ·refine D3 2 rfl (.cons _ _ _ _ _ rfl (LeA.of_eq (Ji hq hcap hcap1 (BV _) (BV _) rfl rfl)) (.cons _ _ _ _ _ rfl (AA _) .nil)) (Jd f a hf) ?_;rintro r rfl;refine⟨rfl,?_⟩;refine o_ (h:=?_);refine BF 10 rfl (fun _ hS=>DE (m:=i) rfl rfl hi hil ⟨rfl,rfl⟩) ?_
   first|refine AJ 11 (h:=?_)|refine BF 11 rfl (fun _ hS=>Bt (row:=DB f q d 1 cap cap1) rfl (kb hS rfl) hD0 ⟨rfl,rfl⟩) ?_|refine BF 11 rfl (fun _ hS=>Cq (row:=NB d.nodes cap1) rfl (kb hS rfl) hN0 (JB hn) ⟨rfl,rfl⟩) ?_
   refine c_ 12 rfl (CV (by repeat constructor) ?_);refine o_ (h:=?_);refine BH 13 rfl (BC rfl rfl rfl rfl rfl rfl (by repeat constructor) (by repeat constructor) ?_);refine o_ (h:=z_ (h:=?_));refine AE ?_;exact⟨_,rfl,Bb 5 0 (by simp[Af,Ac,Aa,Bw,Bx,AN,Am])⟩
  refine CV (by repeat constructor) ?_;refine o_ (h:=?_);refine c_ 9 rfl (D3 2 rfl (.cons _ _ _ _ _ rfl (LeA.of_eq (Ji hq hcap hcap1 (BV _) (BV _) rfl rfl)) (.cons _ _ _ _ _ rfl (AA _) .nil)) (Jd f a hf) ?_);rintro r rfl;refine⟨rfl,?_⟩;refine o_ (h:=?_);refine BF 10 rfl (fun _ hS=>DE (m:=i) rfl rfl hi hil ⟨rfl,rfl⟩) ?_
  first|refine AJ 11 (h:=?_)|refine BF 11 rfl (fun _ hS=>Bt (row:=DB f q d 1 cap cap1) rfl (kb hS rfl) hD0 ⟨rfl,rfl⟩) ?_|refine BF 11 rfl (fun _ hS=>Cq (row:=NB d.nodes cap1) rfl (kb hS rfl) hN0 (JB hn) ⟨rfl,rfl⟩) ?_
  refine BH 13 rfl (BC rfl rfl rfl rfl rfl rfl (by repeat constructor) (by repeat constructor) ?_);refine o_ (h:=z_ (h:=?_));refine AE ?_;exact⟨_,rfl,Bb 5 0 (by simp[Af,Ac,Aa,Bw,Bx,AN,Am])⟩
 rintro t rfl;refine w_ (a_ (h:=e_ (w_ (m_ (h:=AD (h:=a_ (h:=e_ (q_ (w_ (a_ (h:=e_ (Ag (?_)))))))))))));refine Jv 9 234 2 rfl (by repeat constructor) ?_;refine Be (fun m t=>∃(j:Nat) (acc:List Bc) (dn:Bool),j≤n.entries.length∧m=n.entries.length - j∧acc++Fm name ino dn (n.entries.drop j)=Cb n.entries name ino∧acc.length≤2 * j∧t=⟨look [(2, .v (.string name)),(3, .v (.int .i64 ino)),(4, .bp 2 0),(5, .bp 3 0),(8, .bp 4 0),(9, .sl 2 (acc.map FA) (some 0)),(10, .v (.bool dn)),(11, .v (.int .i64 (j:Int)))],⟨[DB f q d 1 cap cap1,NB d.nodes cap1,[.bs 0 0 2 f.length cap],AN a,Am n],[(234,2,acc.map FA)]⟩⟩) (n.entries.length) (Bb 5 1 (by simp[Af,Ac,Aa,Bw,Bx,AN,Am])) (⟨0,[],_,BV _,rfl,rfl,by simp,rfl⟩) ?_;rintro m t ⟨j,acc,dn,hj,rfl,hacc,hal,rfl⟩;refine q_ (w_ (m_ (h:=f_ (h:=l_ (h:=n_ (h:=BB (h:=e_ (?_))))))));refine A8 rfl (fun hb1=>?_) (fun hb1=>?_)
 ·have hc1:=bp hb1;obtain⟨hlt,e,hy,hrow, -⟩:=C1 FA hc1;refine AB (q_ (Ag (q_ (w_ (m_ (h:=B9 (h:=m_ (h:=?_))))))));refine AW true rfl rfl (fun hb2=>?_) (fun hb2=>?_)
  ·have hc2:=bp hb2;have hdn:=hc2;refine f_ (h:=l_ (h:=m_ (h:=i_ (h:=f_ (h:=l_ (h:=m_ (h:=Cw (h:=AF (h:=e_ (?_))))))))));refine A8 rfl (fun hb3=>?_) (fun hb3=>?_)
   ·have hc3:=bp hb3;have hsl:F9 e.1 name=false:=hc3;refine w_ (m_ (h:=m_ (h:=m_ (h:=Ak (h:=Bd (h:=EU (h:=a_ (h:=e_ (AR (a_ (h:=e_ (w_ (f_ (h:=l_ (h:=m_ (h:=i_ (h:=f_ (h:=l_ (h:=m_ (h:=Ap (h:=e_ (?_))))))))))))))))))))));refine A8 rfl (fun hb4=>?_) (fun hb4=>?_)
    ·have hc4:=bp hb4;have hnm:¬e.1=name:=hc4;refine AR (m_ (h:=f_ (h:=l_ (h:=m_ (h:=i_ (h:=l_ (h:=Bd (h:=EU (h:=a_ (h:=AP (Ah (t_ (AR (m_ (h:=BD (h:=a_ (h:=AP (?_))))))))))))))))));refine AE ?_
     first|(exact⟨n.entries.length - (j+1),_,by omega,⟨j+1,acc++[(name,ino)]++[e],true,by omega,rfl,(by rw[←hacc,De hy];first|(simp only[hsl,hdn];simp[hnm];done)|(simp only[hdn];simp[hnm];done)),(by(try simp);omega),rfl⟩,(by(try simp only[List.map_append,List.map_cons,List.map_nil]);exact Bb 5 1 (by simp[Af,Ac,Aa,Bw,Bx,AN,Am]))⟩)|(exact⟨n.entries.length - (j+1),_,by omega,⟨j+1,acc++[(name,ino)],true,by omega,rfl,(by rw[←hacc,De hy];first|(simp only[hsl,hdn];simp[hnm];done)|(simp only[hdn];simp[hnm];done)),(by(try simp);omega),rfl⟩,(by(try simp only[List.map_append,List.map_cons,List.map_nil]);exact Bb 5 1 (by simp[Af,Ac,Aa,Bw,Bx,AN,Am]))⟩)|(exact⟨n.entries.length - (j+1),_,by omega,⟨j+1,acc++[e],dn,by omega,rfl,(by rw[←hacc,De hy];first|(simp only[hsl,hdn];simp[hnm];done)|(simp only[hdn];simp[hnm];done)),(by(try simp);omega),rfl⟩,(by(try simp only[List.map_append,List.map_cons,List.map_nil]);exact Bb 5 1 (by simp[Af,Ac,Aa,Bw,Bx,AN,Am]))⟩)|(exact⟨n.entries.length - (j+1),_,by omega,⟨j+1,acc,dn,by omega,rfl,(by rw[←hacc,De hy];first|(simp only[hsl,hdn];simp[hnm];done)|(simp only[hdn];simp[hnm];done)),(by(try simp);omega),rfl⟩,(by(try simp only[List.map_append,List.map_cons,List.map_nil]);exact Bb 5 1 (by simp[Af,Ac,Aa,Bw,Bx,AN,Am]))⟩)
    have hc4:=bp hb4;have hnm:e.1=name:=hc4;refine Au (Ah (t_ (AR (m_ (h:=BD (h:=a_ (h:=AP (?_))))))));refine AE ?_
    first|(exact⟨n.entries.length - (j+1),_,by omega,⟨j+1,acc++[(name,ino)]++[e],true,by omega,rfl,(by rw[←hacc,De hy];first|(simp only[hsl,hdn];simp[hnm];done)|(simp only[hdn];simp[hnm];done)),(by(try simp);omega),rfl⟩,(by(try simp only[List.map_append,List.map_cons,List.map_nil]);exact Bb 5 1 (by simp[Af,Ac,Aa,Bw,Bx,AN,Am]))⟩)|(exact⟨n.entries.length - (j+1),_,by omega,⟨j+1,acc++[(name,ino)],true,by omega,rfl,(by rw[←hacc,De hy];first|(simp only[hsl,hdn];simp[hnm];done)|(simp only[hdn];simp[hnm];done)),(by(try simp);omega),rfl⟩,(by(try simp only[List.map_append,List.map_cons,List.map_nil]);exact Bb 5 1 (by simp[Af,Ac,Aa,Bw,Bx,AN,Am]))⟩)|(exact⟨n.entries.length - (j+1),_,by omega,⟨j+1,acc++[e],dn,by omega,rfl,(by rw[←hacc,De hy];first|(simp only[hsl,hdn];simp[hnm];done)|(simp only[hdn];simp[hnm];done)),(by(try simp);omega),rfl⟩,(by(try simp only[List.map_append,List.map_cons,List.map_nil]);exact Bb 5 1 (by simp[Af,Ac,Aa,Bw,Bx,AN,Am]))⟩)|(exact⟨n.entries.length - (j+1),_,by omega,⟨j+1,acc,dn,by omega,rfl,(by rw[←hacc,De hy];first|(simp only[hsl,hdn];simp[hnm];done)|(simp only[hdn];simp[hnm];done)),(by(try simp);omega),rfl⟩,(by(try simp only[List.map_append,List.map_cons,List.map_nil]);exact Bb 5 1 (by simp[Af,Ac,Aa,Bw,Bx,AN,Am]))⟩)
   have hc3:=bp hb3;have hsl:F9 e.1 name=true:=hc3;refine AB (w_ (f_ (h:=l_ (h:=m_ (h:=i_ (h:=f_ (h:=l_ (h:=m_ (h:=Ap (h:=e_ (?_)))))))))));refine A8 rfl (fun hb5=>?_) (fun hb5=>?_)
   ·have hc5:=bp hb5;have hnm:¬e.1=name:=hc5;refine AR (m_ (h:=f_ (h:=l_ (h:=m_ (h:=i_ (h:=l_ (h:=Bd (h:=EU (h:=a_ (h:=AP (Ah (t_ (AR (m_ (h:=BD (h:=a_ (h:=AP (?_))))))))))))))))));refine AE ?_
    first|(exact⟨n.entries.length - (j+1),_,by omega,⟨j+1,acc++[(name,ino)]++[e],true,by omega,rfl,(by rw[←hacc,De hy];first|(simp only[hsl,hdn];simp[hnm];done)|(simp only[hdn];simp[hnm];done)),(by(try simp);omega),rfl⟩,(by(try simp only[List.map_append,List.map_cons,List.map_nil]);exact Bb 5 1 (by simp[Af,Ac,Aa,Bw,Bx,AN,Am]))⟩)|(exact⟨n.entries.length - (j+1),_,by omega,⟨j+1,acc++[(name,ino)],true,by omega,rfl,(by rw[←hacc,De hy];first|(simp only[hsl,hdn];simp[hnm];done)|(simp only[hdn];simp[hnm];done)),(by(try simp);omega),rfl⟩,(by(try simp only[List.map_append,List.map_cons,List.map_nil]);exact Bb 5 1 (by simp[Af,Ac,Aa,Bw,Bx,AN,Am]))⟩)|(exact⟨n.entries.length - (j+1),_,by omega,⟨j+1,acc++[e],dn,by omega,rfl,(by rw[←hacc,De hy];first|(simp only[hsl,hdn];simp[hnm];done)|(simp only[hdn];simp[hnm];done)),(by(try simp);omega),rfl⟩,(by(try simp only[List.map_append,List.map_cons,List.map_nil]);exact Bb 5 1 (by simp[Af,Ac,Aa,Bw,Bx,AN,Am]))⟩)|(exact⟨n.entries.length - (j+1),_,by omega,⟨j+1,acc,dn,by omega,rfl,(by rw[←hacc,De hy];first|(simp only[hsl,hdn];simp[hnm];done)|(simp only[hdn];simp[hnm];done)),(by(try simp);omega),rfl⟩,(by(try simp only[List.map_append,List.map_cons,List.map_nil]);exact Bb 5 1 (by simp[Af,Ac,Aa,Bw,Bx,AN,Am]))⟩)
   have hc5:=bp hb5;have hnm:e.1=name:=hc5;refine Au (Ah (t_ (AR (m_ (h:=BD (h:=a_ (h:=AP (?_))))))));refine AE ?_
   first|(exact⟨n.entries.length - (j+1),_,by omega,⟨j+1,acc++[(name,ino)]++[e],true,by omega,rfl,(by rw[←hacc,De hy];first|(simp only[hsl,hdn];simp[hnm];done)|(simp only[hdn];simp[hnm];done)),(by(try simp);omega),rfl⟩,(by(try simp only[List.map_append,List.map_cons,List.map_nil]);exact Bb 5 1 (by simp[Af,Ac,Aa,Bw,Bx,AN,Am]))⟩)|(exact⟨n.entries.length - (j+1),_,by omega,⟨j+1,acc++[(name,ino)],true,by omega,rfl,(by rw[←hacc,De hy];first|(simp only[hsl,hdn];simp[hnm];done)|(simp only[hdn];simp[hnm];done)),(by(try simp);omega),rfl⟩,(by(try simp only[List.map_append,List.map_cons,List.map_nil]);exact Bb 5 1 (by simp[Af,Ac,Aa,Bw,Bx,AN,Am]))⟩)|(exact⟨n.entries.length - (j+1),_,by omega,⟨j+1,acc++[e],dn,by omega,rfl,(by rw[←hacc,De hy];first|(simp only[hsl,hdn];simp[hnm];done)|(simp only[hdn];simp[hnm];done)),(by(try simp);omega),rfl⟩,(by(try simp only[List.map_append,List.map_cons,List.map_nil]);exact Bb 5 1 (by simp[Af,Ac,Aa,Bw,Bx,AN,Am]))⟩)|(exact⟨n.entries.length - (j+1),_,by omega,⟨j+1,acc,dn,by omega,rfl,(by rw[←hacc,De hy];first|(simp only[hsl,hdn];simp[hnm];done)|(simp only[hdn];simp[hnm];done)),(by(try simp);omega),rfl⟩,(by(try simp only[List.map_append,List.map_cons,List.map_nil]);exact Bb 5 1 (by simp[Af,Ac,Aa,Bw,Bx,AN,Am]))⟩)
  have hc2:=bp hb2;have hdn:=hc2;refine A3 (h:=A3 (h:=A3 (h:=A3 (h:=A3 (h:=A3 (h:=A3 (h:=A3 (h:=AM (h:=e_ (Bp (h:=AB (w_ (f_ (h:=l_ (h:=m_ (h:=i_ (h:=f_ (h:=l_ (h:=m_ (h:=Ap (h:=e_ (?_))))))))))))))))))))));refine A8 rfl (fun hb6=>?_) (fun hb6=>?_)
  ·have hc6:=bp hb6;have hnm:¬e.1=name:=hc6;refine AR (m_ (h:=f_ (h:=l_ (h:=m_ (h:=i_ (h:=l_ (h:=Bd (h:=EU (h:=a_ (h:=AP (Ah (t_ (AR (m_ (h:=BD (h:=a_ (h:=AP (?_))))))))))))))))));refine AE ?_
   first|(exact⟨n.entries.length - (j+1),_,by omega,⟨j+1,acc++[(name,ino)]++[e],true,by omega,rfl,(by rw[←hacc,De hy];first|(simp only[hsl,hdn];simp[hnm];done)|(simp only[hdn];simp[hnm];done)),(by(try simp);omega),rfl⟩,(by(try simp only[List.map_append,List.map_cons,List.map_nil]);exact Bb 5 1 (by simp[Af,Ac,Aa,Bw,Bx,AN,Am]))⟩)|(exact⟨n.entries.length - (j+1),_,by omega,⟨j+1,acc++[(name,ino)],true,by omega,rfl,(by rw[←hacc,De hy];first|(simp only[hsl,hdn];simp[hnm];done)|(simp only[hdn];simp[hnm];done)),(by(try simp);omega),rfl⟩,(by(try simp only[List.map_append,List.map_cons,List.map_nil]);exact Bb 5 1 (by simp[Af,Ac,Aa,Bw,Bx,AN,Am]))⟩)|(exact⟨n.entries.length - (j+1),_,by omega,⟨j+1,acc++[e],dn,by omega,rfl,(by rw[←hacc,De hy];first|(simp only[hsl,hdn];simp[hnm];done)|(simp only[hdn];simp[hnm];done)),(by(try simp);omega),rfl⟩,(by(try simp only[List.map_append,List.map_cons,List.map_nil]);exact Bb 5 1 (by simp[Af,Ac,Aa,Bw,Bx,AN,Am]))⟩)|(exact⟨n.entries.length - (j+1),_,by omega,⟨j+1,acc,dn,by omega,rfl,(by rw[←hacc,De hy];first|(simp only[hsl,hdn];simp[hnm];done)|(simp only[hdn];simp[hnm];done)),(by(try simp);omega),rfl⟩,(by(try simp only[List.map_append,List.map_cons,List.map_nil]);exact Bb 5 1 (by simp[Af,Ac,Aa,Bw,Bx,AN,Am]))⟩)
  have hc6:=bp hb6;have hnm:e.1=name:=hc6;refine Au (Ah (t_ (AR (m_ (h:=BD (h:=a_ (h:=AP (?_))))))));refine AE ?_
  first|(exact⟨n.entries.length - (j+1),_,by omega,⟨j+1,acc++[(name,ino)]++[e],true,by omega,rfl,(by rw[←hacc,De hy];first|(simp only[hsl,hdn];simp[hnm];done)|(simp only[hdn];simp[hnm];done)),(by(try simp);omega),rfl⟩,(by(try simp only[List.map_append,List.map_cons,List.map_nil]);exact Bb 5 1 (by simp[Af,Ac,Aa,Bw,Bx,AN,Am]))⟩)|(exact⟨n.entries.length - (j+1),_,by omega,⟨j+1,acc++[(name,ino)],true,by omega,rfl,(by rw[←hacc,De hy];first|(simp only[hsl,hdn];simp[hnm];done)|(simp only[hdn];simp[hnm];done)),(by(try simp);omega),rfl⟩,(by(try simp only[List.map_append,List.map_cons,List.map_nil]);exact Bb 5 1 (by simp[Af,Ac,Aa,Bw,Bx,AN,Am]))⟩)|(exact⟨n.entries.length - (j+1),_,by omega,⟨j+1,acc++[e],dn,by omega,rfl,(by rw[←hacc,De hy];first|(simp only[hsl,hdn];simp[hnm];done)|(simp only[hdn];simp[hnm];done)),(by(try simp);omega),rfl⟩,(by(try simp only[List.map_append,List.map_cons,List.map_nil]);exact Bb 5 1 (by simp[Af,Ac,Aa,Bw,Bx,AN,Am]))⟩)|(exact⟨n.entries.length - (j+1),_,by omega,⟨j+1,acc,dn,by omega,rfl,(by rw[←hacc,De hy];first|(simp only[hsl,hdn];simp[hnm];done)|(simp only[hdn];simp[hnm];done)),(by(try simp);omega),rfl⟩,(by(try simp only[List.map_append,List.map_cons,List.map_nil]);exact Bb 5 1 (by simp[Af,Ac,Aa,Bw,Bx,AN,Am]))⟩)
 have hc1:=bp hb1;have e:=CA FA hj hc1;subst e;rw[List.drop_length]at hacc;refine BT (Ao (Ao (BU (t_ (q_ (w_ (m_ (h:=B9 (h:=e_ (?_))))))))));refine A8 rfl (fun hb7=>?_) (fun hb7=>?_)
 ·have hc7:=bp hb7;have hdn:dn=false:=hc7;have ea:acc++[(name,ino)]=Cb n.entries name ino:=by rw[←hacc,hdn];rfl
  refine AR (m_ (h:=m_ (h:=m_ (h:=Ak (h:=Bd (h:=EU (h:=a_ (h:=e_ (Bf ([(0,DB f q d 1 cap cap1),(2,[.bs 0 0 2 f.length cap]),(3,AN a),(4,Am n)]) 14 (h:=AO 0 (h:=?_)))))))))))
  first|refine AJ 1 (h:=?_)|refine BF 1 rfl (fun _ hS=>Bt (row:=DB f q d 1 cap cap1) rfl (kb hS rfl) hD0 ⟨rfl,rfl⟩) ?_
  refine AO 2 (h:=?_)
  first|refine AJ 3 (h:=?_)|refine BF 3 rfl (fun _ hS=>Bt (row:=DB f q d 1 cap cap1) rfl (kb hS rfl) hD0 ⟨rfl,rfl⟩) ?_
  refine BF 4 rfl (fun _ hS=>DE (m:=q) rfl rfl ha hql ⟨rfl,rfl⟩) ?_;refine AO 5 (h:=?_)
  first|refine AJ 6 (h:=?_)|refine BF 6 rfl (fun _ hS=>Bt (row:=DB f q d 1 cap cap1) rfl (kb hS rfl) hD0 ⟨rfl,rfl⟩) ?_
  first|refine AJ 7 (h:=?_)|refine BF 7 rfl (fun _ hS=>Bt (row:=DB f q d 1 cap cap1) rfl (kb hS rfl) hD0 ⟨rfl,rfl⟩) ?_
  first|refine AJ 8 (h:=?_)|refine BF 8 rfl (fun _ hS=>Bt (row:=DB f q d 1 cap cap1) rfl (kb hS rfl) hD0 ⟨rfl,rfl⟩) ?_
  refine BF 10 rfl (fun _ hS=>FH (y:= .sl 2 ((Cb n.entries name ino).map FA) none) (HU rfl ⟨rfl,rfl⟩) (by rw[←ea];(try simp only[List.map_append,List.map_cons,List.map_nil]);exact LeA.tok _ _ _) ⟨rfl,rfl⟩) ?_;refine c_ 9 rfl (D3 2 rfl (.cons _ _ _ _ _ rfl (LeA.of_eq (Ji hq hcap hcap1 (BV _) (BV _) rfl rfl)) (.cons _ _ _ _ _ rfl (AA _) .nil)) (Jd f a hf) ?_);rintro r rfl;refine⟨rfl,?_⟩;refine o_ (h:=?_);refine BF 11 rfl (fun _ hS=>DE (m:=i) rfl rfl hi hil ⟨rfl,rfl⟩) ?_;refine AO 12 (h:=?_);refine BH 13 rfl (BC rfl rfl rfl rfl rfl rfl hset (by repeat constructor) ?_);refine o_ (h:=z_ (h:=?_));refine NY (r:= .tup []) none (h4:=(by simp[Af,Bw,Bx])) (h5:=(AA _)) (h6:=⟨rfl,rfl,rfl⟩)
 have hc7:=bp hb7;have hdn:dn=true:=hc7;have ea:acc=Cb n.entries name ino:=by rw[←hacc,hdn];simp[Fm]
 refine AB (Bf ([(0,DB f q d 1 cap cap1),(2,[.bs 0 0 2 f.length cap]),(3,AN a),(4,Am n)]) 14 (h:=AO 0 (h:=?_)))
 first|refine AJ 1 (h:=?_)|refine BF 1 rfl (fun _ hS=>Bt (row:=DB f q d 1 cap cap1) rfl (kb hS rfl) hD0 ⟨rfl,rfl⟩) ?_
 refine AO 2 (h:=?_)
 first|refine AJ 3 (h:=?_)|refine BF 3 rfl (fun _ hS=>Bt (row:=DB f q d 1 cap cap1) rfl (kb hS rfl) hD0 ⟨rfl,rfl⟩) ?_
 refine BF 4 rfl (fun _ hS=>DE (m:=q) rfl rfl ha hql ⟨rfl,rfl⟩) ?_;refine AO 5 (h:=?_)
 first|refine AJ 6 (h:=?_)|refine BF 6 rfl (fun _ hS=>Bt (row:=DB f q d 1 cap cap1) rfl (kb hS rfl) hD0 ⟨rfl,rfl⟩) ?_
 first|refine AJ 7 (h:=?_)|refine BF 7 rfl (fun _ hS=>Bt (row:=DB f q d 1 cap cap1) rfl (kb hS rfl) hD0 ⟨rfl,rfl⟩) ?_
 first|refine AJ 8 (h:=?_)|refine BF 8 rfl (fun _ hS=>Bt (row:=DB f q d 1 cap cap1) rfl (kb hS rfl) hD0 ⟨rfl,rfl⟩) ?_
 refine BF 10 rfl (fun _ hS=>FH (y:= .sl 2 ((Cb n.entries name ino).map FA) none) (HU rfl ⟨rfl,rfl⟩) (by rw[←ea];(try simp only[List.map_append,List.map_cons,List.map_nil]);exact LeA.tok _ _ _) ⟨rfl,rfl⟩) ?_;refine c_ 9 rfl (D3 2 rfl (.cons _ _ _ _ _ rfl (LeA.of_eq (Ji hq hcap hcap1 (BV _) (BV _) rfl rfl)) (.cons _ _ _ _ _ rfl (AA _) .nil)) (Jd f a hf) ?_);rintro r rfl;refine⟨rfl,?_⟩;refine o_ (h:=?_);refine BF 11 rfl (fun _ hS=>DE (m:=i) rfl rfl hi hil ⟨rfl,rfl⟩) ?_;refine AO 12 (h:=?_);refine BH 13 rfl (BC rfl rfl rfl rfl rfl rfl hset (by repeat constructor) ?_);refine o_ (h:=z_ (h:=?_));refine NY (r:= .tup []) none (h4:=(by simp[Af,Bw,Bx])) (h5:=(AA _)) (h6:=⟨rfl,rfl,rfl⟩)
end
end Go.Proofs.YtbgnigjfkbmceaaGreatDoor
