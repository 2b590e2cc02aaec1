/-
  Part 7 of the proof of FilterDecidesP: what the statement's proof uses of the texts in wip/tpl.
-/
import Derived.Lib.Strings
import Derived.Lib.IndexLaws
import Derived.Lib.LastIndexByte
import Derived.Lib.IndexAny
import Derived.Lib.Hide
import Derived.Test.YtbgnigjfkbmceaaGreatDoorProg
import Derived.WalkKit
import Derived.WalkSpells
import Derived.WalkLawsBesides
import Derived.Deep.QuietTactic
import Derived.BigQuiet
import Derived.Outline
import Derived.RangeFuncNested
import Derived.RangeFuncBound
import Derived.RangeFuncCalls
import Derived.RangeFuncLeaves
import Derived.Shelf.Abstract
import Derived.Shelf.RegionOpen
import Derived.OwnWalkIn
import Derived.TacticsInMore
import Derived.LoopNIn
import Derived.LoopIn
import Derived.WalkMore
import Derived.Test.YtbgnigjfkbmceaaGreatDoorQh6
open Go.Proofs.Tryz (prog)
set_option maxRecDepth 10000
set_option maxHeartbeats 4000000
set_option linter.unusedVariables false
set_option linter.unusedSimpArgs false
namespace Go.Proofs.YtbgnigjfkbmceaaGreatDoor.Old
open Go.RowKit
def NW(w:World)(v:Value)(L:List G3)(dvv:Value)(S:Nat)(next:Int)(ns:List Nod)(k:Nat)(nvv:Value)(ys:List (Nod×Value))(wr:World):Prop:=
 ys.map (·.1)=ns.take k∧wr.heap[S]?=some (.cells #[.int .i64 next,nvv] 148 (0,0))∧NodsAt wr w.heap.size nvv ys∧DvcsAt wr w.heap.size dvv L∧(∀b∈fpN nvv ys,b∉fpD dvv L∧b≠S)∧
 wr.heap[w.heap.size]?=some (.cells #[v] 39 (0,0))∧wr.heap[w.heap.size+1]?=some (.cells #[.slice none 0 0] 39 (0,0))∧wr.heap[w.heap.size+1+1]?=some (.cells #[dvv] 39 (0,0))∧
 Below w.heap.size w wr
theorem NX{w:World}{b:Nat}{o:Obj}(h:w.heap[b]?=some o):b<w.heap.size:=by
 rcases Nat.lt_or_ge b w.heap.size with hlt|hge
 ·exact hlt
 rw[Array.getElem?_eq_none hge]at h;cases h
theorem RC{l r:List Nat}(h1:l.Nodup)(h2:r.Nodup)(h:∀b∈l,b∉r):(l++r).Nodup:=List.nodup_append.2 ⟨h1,h2,fun a ha _ hb e=>h a ha (e ▸ hb)⟩
theorem TK(v:Value):(blk v).Nodup:=by
 unfold blk;cases v.ownBlock<;>simp
theorem Wq(v:Value)(ys:List (Nod×Value))(y:Nod×Value):fpN v (ys++[y])=blk v++(ys.flatMap (fun y=>blk y.2)++blk y.2):=by simp[fpN]
theorem eK{n:Nat}(h:n≤few):n≤1000000:=by unfold few at h;omega
theorem eL{w:World}{v:Value}{L:List G3}{dvv:Value}{S:Nat}{next:Int}{ns:List Nod}{k:Nat}{nvv:Value}{ys:List (Nod×Value)}{wr W4 W5:World}{n:Nod}{ev nvv':Value}
    (h:NW w v L dvv S next ns k nvv ys wr) (hS:S∉fpD dvv L) (hSB:w.heap.size+1+1<S) (hn:ns[k]?=some n) (hfew:n.entries.length≤few) (h4:Below wr.heap.size wr W4) (hev:OwnL 2 entCell 234 W4 (wr.heap.size+1) ev n.entries)
    (h5:W4.grownBy W5 nvv.ownBlock) (hown:OwnL 8 nodCell 151 W5 w.heap.size nvv' (ys++[(n,ev)])) (hat:nvv'.ownBlock=nvv.ownBlock∨nvv'.ownBlock=some W4.heap.size):
    NW w v L dvv S next ns (k+1) nvv' (ys++[(n,ev)]) (W5.setCell ⟨S,1,none⟩ nvv'):=by
 obtain⟨e1,e2,e3,e4,e5,e6,e7,e8,e9⟩:=h;have z:=e9.size;have z4:=h4.size;have hSl:=NX e2;have n4:=e3.below h4;have d4:=e4.below h4;have hold:∀b∈fpN nvv ys,w.heap.size≤b∧b<wr.heap.size:=e3.fp_lt;have hbn:∀b∈blk nvv,b<wr.heap.size:=fun b hb=>(hold b (List.mem_append_left _ hb)).2;have hnd:=e3.2.2;have hnd':=List.nodup_append.1 hnd;have row:∀b,b∉blk nvv→some b≠nvv.ownBlock:=fun b hb e=>hb (mem_blk.2 e.symm);have hevb:∀b∈blk ev,wr.heap.size+1≤b∧b<W4.heap.size:=hev.blk_lt
 have hnew:∀b∈blk nvv',b∈blk nvv∨b=W4.heap.size:=by
  intro b hb;rw[mem_blk]at hb;rcases hat with e|e
  ·left;rw[mem_blk,←e];exact hb
  right;rw[e]at hb;exact(Option.some.inj hb).symm
 have hent5:∀y∈ys,OwnL 2 entCell 234 W5 w.heap.size y.2 y.1.entries∧y.1.entries.length≤few:=fun y hy=>
  ⟨(n4.2.1 y hy).1.frame h5 fun b hb=>row b fun hb'=>hnd'.2.2 b hb' b (List.mem_flatMap.2 ⟨y,hy,hb⟩) rfl,(n4.2.1 y hy).2⟩
 have hev5:OwnL 2 entCell 234 W5 w.heap.size ev n.entries:=(hev.frame h5 fun b hb=>row b fun hb'=>by have:=hbn b hb';have:=(hevb b hb).1;omega).mono (by omega)
 have hfp:∀b∈fpN nvv' (ys++[(n,ev)]),b∈fpN nvv ys∨wr.heap.size≤b:=by
  intro b hb;rw[Wq]at hb;rcases List.mem_append.1 hb with hb|hb
  ·rcases hnew b hb with hb|hb
   ·exact .inl (List.mem_append_left _ hb)
   right;omega
  rcases List.mem_append.1 hb with hb|hb
  ·exact .inl (List.mem_append_right _ hb)
  right;have:=(hevb b hb).1;omega
 have n5:NodsAt W5 w.heap.size nvv' (ys++[(n,ev)]):=by
  refine⟨hown,?_,?_⟩
  ·intro y hy;rcases List.mem_append.1 hy with hy|hy
   ·exact hent5 y hy
   obtain rfl:y=(n,ev):=by simpa using hy
   exact⟨hev5,hfew⟩
  rw[Wq];refine RC (TK _) (RC hnd'.2.1 (TK _) ?_) ?_
  ·intro b hb hb';have:=(hold b (List.mem_append_right _ hb)).2;have:=(hevb b hb').1;omega
  intro b hb hb';rcases hnew b hb with hb1|hb1
  ·rcases List.mem_append.1 hb' with hb'|hb'
   ·exact hnd'.2.2 b hb1 b hb' rfl
   have:=hbn b hb1;have:=(hevb b hb').1;omega
  rcases List.mem_append.1 hb' with hb'|hb'
  ·have:=(hold b (List.mem_append_right _ hb')).2;omega
  have:=(hevb b hb').2;omega
 have d5:DvcsAt W5 w.heap.size dvv L:=d4.frame h5 fun b hb=>row b fun hb'=>(e5 b (List.mem_append_left _ hb')).1 hb;have o4:OwnL 8 nodCell 151 W4 w.heap.size nvv ys:=n4.1
 have box:∀(b:Nat) (cs:Array Value),wr.heap[b]?=some (.cells cs 39 (0,0))→b≠S→(W5.setCell ⟨S,1,none⟩ nvv').heap[b]?=some (.cells cs 39 (0,0)):=fun b cs hb hbS=>by
  have hb4:=Fb hb h4 (NX hb);exact NT (P9 hb4 h5 (row b (o4.not_mem hb4 (by decide)))) hbS _
 have hfpS:S∉fpN nvv' (ys++[(n,ev)]):=fun hb=>by
  rcases hfp S hb with hb|hb
  ·exact(e5 S hb).2 rfl
  omega
 refine⟨?_,?_,n5.set_ hfpS _,d5.set_ hS _,?_,box _ _ e6 (by omega),box _ _ e7 (by omega),box _ _ e8 (by omega),?_⟩
 ·rw[List.map_append,e1,List.take_add_one,hn];rfl
 ·have hS4:=Fb e2 h4 hSl;exact O8 (P9 hS4 h5 (row S fun hb=>(e5 S (List.mem_append_left _ hb)).2 rfl)) 1 _
 ·intro b hb;rcases hfp b hb with hb|hb
  ·exact e5 b hb
  refine⟨fun hd=>?_,by omega⟩;have:=(e4.fp_lt b hd).2;omega
 exact((e9.trans (h4.mono e9.size)).grown h5 (by omega) fun b hb=>(hold b (List.mem_append_left _ (mem_blk.2 hb))).1).setCell (by show w.heap.size≤S;omega) _
def TL(w:World)(v:Value)(f:AU)(m:Nat)(dvv:Value)(L:List G3)(wr:World):Prop:=
 flsOf L=f.take m∧DvcsAt wr w.heap.size dvv L∧
 wr.heap[w.heap.size]?=some (.cells #[v] 39 (0,0))∧wr.heap[w.heap.size+1]?=some (.cells #[.slice none 0 0] 39 (0,0))∧wr.heap[w.heap.size+1+1]?=some (.cells #[dvv] 39 (0,0))∧
 Below w.heap.size w wr
theorem eM(v:Value)(L:List G3)(x:G3):fpD v (L++[x])=blk v++(L.flatMap (fun x=>fpN x.2.1 x.2.2)++fpN x.2.1 x.2.2):=by simp[fpD]
theorem eN{w:World}{v:Value}{f:AU}{m:Nat}{dvv:Value}{L:List G3}{wr:World}(h:TL w v f m dvv L wr)(next:Int)(ns:List Nod):
    NW w v L dvv wr.heap.size next ns 0 (.slice none 0 0) [] (wr.alloc (.cells #[.int .i64 next, .slice none 0 0] 148))∧wr.heap.size∉fpD dvv L∧w.heap.size+1+1<wr.heap.size:=by
 obtain⟨e1,e4,e6,e7,e8,e9⟩:=h;refine⟨⟨by simp,heap_alloc_new _ _,NodsAt.nil_ _ _,e4.below (LW _ _),by simp[fpN,blk,Value.ownBlock],Ha e6 _,Ha e7 _,Ha e8 _,e9.alloc e9.size _⟩,fun hb=>?_,NX e8⟩;have:=(e4.fp_lt _ hb).2;omega
theorem eO{w:World}{v:Value}{f:AU}{m:Nat}{dvv:Value}{L:List G3}{S:Nat}{next:Int}{ns:List Nod}{nvv:Value}{ys:List (Nod×Value)}{wr W2:World}{o:Obj}{dvv':Value}{d:Dvc}
    (h:NW w v L dvv S next ns ns.length nvv ys wr) (hf:f[m]?=some d) (hL:flsOf L=f.take m) (hnx:d.next=next) (hns:d.nodes=ns) (hfew:ns.length≤few) (hfl:f.length≤few)
    (h5:(wr.alloc o).grownBy W2 dvv.ownBlock) (hown:OwnL 2 NV 148 W2 w.heap.size dvv' (L++[(next,nvv,ys)])) (hat:dvv'.ownBlock=dvv.ownBlock∨dvv'.ownBlock=some (wr.heap.size+1)):
    TL w v f (m+1) dvv' (L++[(next,nvv,ys)]) (W2.setCell ⟨w.heap.size+1+1,0,none⟩ dvv'):=by
 obtain⟨e1,e2,e3,e4,e5,e6,e7,e8,e9⟩:=h;have hml:=(Af.1 hf).1;have z:=e9.size;have h4:=LW wr o;have n4:=e3.below h4;have d4:=e4.below h4
 have hyl:ys.length=ns.length:=by
  have:=congrArg List.length e1
  simpa using this
 have hnd':=List.nodup_append.1 e4.2.2.1;have row:∀b,b∉blk dvv→some b≠dvv.ownBlock:=fun b hb e=>hb (mem_blk.2 e.symm)
 have hnew:∀b∈blk dvv',b∈blk dvv∨b=wr.heap.size+1:=by
  intro b hb;rw[mem_blk]at hb;rcases hat with e|e
  ·left;rw[mem_blk,←e];exact hb
  right;rw[e]at hb;exact(Option.some.inj hb).symm
 have n5:NodsAt W2 w.heap.size nvv ys:=n4.frame h5 fun b hb=>row b fun hb'=>(e5 b hb).1 (List.mem_append_left _ hb')
 have l5:∀x∈L,NodsAt W2 w.heap.size x.2.1 x.2.2∧x.2.2.length≤few:=fun x hx=>
  ⟨(d4.2.1 x hx).1.frame h5 fun b hb=>row b fun hb'=>hnd'.2.2 b hb' b (List.mem_flatMap.2 ⟨x,hx,hb⟩) rfl,(d4.2.1 x hx).2⟩
 have d5:DvcsAt W2 w.heap.size dvv' (L++[(next,nvv,ys)]):=by
  refine⟨hown,?_,?_,?_⟩
  ·intro x hx;rcases List.mem_append.1 hx with hx|hx
   ·exact l5 x hx
   obtain rfl:x=(next,nvv,ys):=by simpa using hx
   exact⟨n5,by show ys.length≤few;omega⟩
  ·rw[eM];refine RC (TK _) (RC hnd'.2.1 e3.2.2 ?_) ?_
   ·exact fun b hb hb'=>(e5 b hb').1 (List.mem_append_right _ hb)
   intro b hb hb';rcases hnew b hb with hb1|hb1
   ·rcases List.mem_append.1 hb' with hb'|hb'
    ·exact hnd'.2.2 b hb1 b hb' rfl
    exact(e5 b hb').1 (List.mem_append_left _ hb1)
   rcases List.mem_append.1 hb' with hb'|hb'
   ·have:=(e4.fp_lt b (List.mem_append_right _ hb')).2;omega
   have:=(e3.fp_lt b hb').2;omega
  have hll:L.length=m:=by
   have:=congrArg List.length hL;simp[flsOf]at this;omega
  rw[List.length_append,hll];show m+1≤few;omega
 have o4:OwnL 2 NV 148 (wr.alloc o) w.heap.size dvv L:=d4.1
 have box2:∀(b:Nat) (cs:Array Value),wr.heap[b]?=some (.cells cs 39 (0,0))→W2.heap[b]?=some (.cells cs 39 (0,0)):=fun b cs hb=>
  P9 (Ha hb o) h5 (row b (o4.not_mem (Ha hb o) (by decide)))
 have hne:w.heap.size+1+1∉fpD dvv' (L++[(next,nvv,ys)]):=by
  intro hb;have hb8:=box2 _ _ e8;rcases List.mem_append.1 hb with hb|hb
  ·exact d5.1.not_mem hb8 (by decide) hb
  obtain⟨x,hx,hb⟩:=List.mem_flatMap.1 hb;have hx5:=(d5.2.1 x hx).1;rcases List.mem_append.1 hb with hb|hb
  ·exact hx5.1.not_mem hb8 (by decide) hb
  obtain⟨y,hy,hb⟩:=List.mem_flatMap.1 hb;exact(hx5.2.1 y hy).1.not_mem hb8 (by decide) hb
 refine⟨?_,d5.set_ hne _,NT (box2 _ _ e6) (by show _≠w.heap.size+1+1;omega) _,NT (box2 _ _ e7) (by show _≠w.heap.size+1+1;omega) _,O8 (box2 _ _ e8) 0 _,?_⟩
 ·have hd:dvcOf (next,nvv,ys)=d:=by
     unfold dvcOf;rw[e1,List.take_length,←hnx,←hns]
  unfold flsOf at hL ⊢;rw[List.map_append,hL,List.take_add_one,hf];simp[hd]
 exact((e9.trans (h4.mono e9.size)).grown h5 (by rw[World.size_alloc];omega) fun b hb=>(e4.fp_lt b (List.mem_append_left _ (mem_blk.2 hb))).1).setCell (by show w.heap.size≤w.heap.size+1+1;omega) _
end Go.Proofs.YtbgnigjfkbmceaaGreatDoor.Old
namespace Go.Proofs.YtbgnigjfkbmceaaGreatDoor.Old
open Go.RowKit
theorem eQ{y:Nod×Value}(h:y.2.oneCell'=true)(j:Nat):(nodCell y j).oneCell'=true:=by
 unfold nodCell;split<;>first|rfl|exact h
theorem eR(n:Nod)(e:Value):∀j,j<8→(#[.int .i64 n.ino, .int .i64 n.kind, .int .i64 n.mode, .int .i64 n.uid, .int .i64 n.gid, .int .i64 n.parent, .string n.target,e]:Array Value)[j]?=some (nodCell (n,e) j):=by
 intro j hj
 match j,hj with
 |0,_=>rfl
 |1,_=>rfl
 |2,_=>rfl
 |3,_=>rfl
 |4,_=>rfl
 |5,_=>rfl
 |6,_=>rfl
 |7,_=>rfl
theorem eS{w:World}{v:Value}{L:List G3}{dvv:Value}{S:Nat}{next:Int}{ns:List Nod}{k:Nat}{nvv:Value}{ys:List (Nod×Value)}{wr W4 W5:World}(h:NW w v L dvv S next ns k nvv ys wr)(h4:Below wr.heap.size wr W4)
    (h5:W4.grownBy W5 nvv.ownBlock):W5.heap[S]?=some (.cells #[.int .i64 next,nvv] 148 (0,0)):=
 P9 (Fb h.2.1 h4 (NX h.2.1)) h5 (fun e=>(h.2.2.2.2.1 S (List.mem_append_left _ (mem_blk.2 e.symm))).2 rfl)
theorem Wr{α:Type}{sz:Nat}{cell:α→Nat→Value}{E:TypeId}{w:World}{base:Nat}{v:Value}{xs:List α}(h:OwnL sz cell E w base v xs){n:Nat}(hn:xs.length=n):∃A c,v= .slice A n c:=by
 subst hn;exact h.form
theorem Ws{w:World}{base:Nat}{v:Value}{L:List G3}(h:DvcsAt w base v L){b:Nat}{cs:Array Value}(hb:w.heap[b]?=some (.cells cs 39 (0,0))):b∉fpD v L:=by
 intro hm;rcases List.mem_append.1 hm with hm|hm
 ·exact h.1.not_mem hb (by decide) hm
 obtain⟨x,hx,hm⟩:=List.mem_flatMap.1 hm;have hx5:=(h.2.1 x hx).1;rcases List.mem_append.1 hm with hm|hm
 ·exact hx5.1.not_mem hb (by decide) hm
 obtain⟨y,hy,hm⟩:=List.mem_flatMap.1 hm;exact(hx5.2.1 y hy).1.not_mem hb (by decide) hm
theorem eT{w:World}{v:Value}{L:List G3}{dvv:Value}{S:Nat}{next:Int}{ns:List Nod}{k:Nat}{nvv:Value}{ys:List (Nod×Value)}{wr W5:World}{o:Obj}(h:NW w v L dvv S next ns k nvv ys wr)
    (h5:(wr.alloc o).grownBy W5 dvv.ownBlock):W5.heap[w.heap.size+1+1]?=some (.cells #[dvv] 39 (0,0)):=
 P9 (Ha h.2.2.2.2.2.2.2.1 o) h5 (fun e=>Ws h.2.2.2.1 h.2.2.2.2.2.2.2.1 (List.mem_append_left _ (mem_blk.2 e.symm)))
theorem eU(nx:Int)(v:Value)(ys:List (Nod×Value)):∀j,j<2→(#[.int .i64 nx,v]:Array Value)[j]?=some (NV (nx,v,ys) j):=by
 intro j hj
 match j,hj with
 |0,_=>rfl
 |1,_=>rfl
theorem eV(nx:Int)(A:Option Addr)(n c:Nat)(ys:List (Nod×Value))(j:Nat):(NV (nx, .slice A n c,ys) j).oneCell'=true:=by
 unfold NV;split<;>rfl
set_option maxRecDepth 100000 in
set_option maxHeartbeats 2000000 in
theorem Copy_any(v:Value)(f:AU)(w:World)(hf:FlsR w (Old w) v f):
    Calls prog 182 #[v] w fun e w'=>∃dv L,e= .returned (.agg #[dv])∧DvcsAt w' w.heap.size dv L∧flsOf L=f∧Below w.heap.size w w':=by
 obtain⟨d,rfl,xs,hxf,⟨A,c,rfl,hc,hl,hr⟩,hn⟩:=hf;have hfl:f.length=xs.length:=(dW hxf).symm;have hlf:=hl;unfold few at hl
 go_enter Tryz.func182,Tryz.ntmps182
 go_wp2_with fail
 have HX:=Lib.hid hxf;have HFL:=Lib.hid hfl;have HN:=Lib.hid hn;clear hxf hfl hn
 go_loopw [4] (fun i wr=>∃(m:Nat) (dvv:Value) (L:List G3),m≤xs.length∧i= .int .i64 m∧TL w (.slice A xs.length c) f m dvv L wr) (fun i _=>xs.length - (intOf i).toNat)
 case atStart=>
  refine⟨0, .slice none 0 0,[],by omega,rfl,by simp[flsOf],DvcsAt.nil_ _ _,TF _ _ _ _,PB _ _ _ _,TG _ _ _ _,PA _ _ _ _⟩
 case round=>
  obtain⟨m,dvv,L,hm,rfl,hout⟩:=hrel;have hbw:Below w.heap.size w wr:=hout.2.2.2.2.2;have c0:wr.cell? ⟨w.heap.size,0,none⟩=some (.slice A xs.length c):=by rw[Mm hout.2.2.1];rfl
  by_cases hlt:m<xs.length
  ·have hx:xs[m]?=some xs[m]:=B6 hlt;obtain⟨b,off,rfl,hb,hcell⟩:=(hr.keep (RB hbw)) (by omega);have h0:=hcell m _ 0 hx (by omega);have h1:=hcell m _ 1 hx (by omega);obtain⟨ys0,hy0,⟨A1,c1,hv1,hc1,hl1,hr1⟩,hn1⟩:=HN.out _ (Am hx);simp only[dvcCell,hv1,Nat.add_zero]at h0 h1;have hdm:f[m]?=some xs[m].1:=by rw[←HX.out];simp[hlt]
   have HD:=Lib.hid hdm;have HY:=Lib.hid hy0;have HV:=Lib.hid hv1;have HX':=Lib.hid hx;have HN1:=Lib.hid hn1;have hl1f:=hl1;unfold few at hl1;unfold Old at hb;obtain⟨hin,hSn,hSB⟩:=eN hout xs[m].1.next (ys0.map (·.1));have HS:=Lib.hid hSn;have HIN:=Lib.hid hin;have HOUT:=Lib.hid hout;clear hcell hdm hy0 hv1 hx hn1 hSn hin hout;generalize hnx:xs[m].1.next=nx at *;have HNX:=Lib.hid hnx;clear hnx
   go_wp2_with fail
   obtain⟨wo,hwo⟩:∃wo:World,wo=wr:=⟨_,rfl⟩;subst hwo
   go_loopw [6] (fun i wr=>∃(k:Nat) (nvv:Value) (ys:List (Nod×Value)),k≤ys0.length∧i= .int .i64 k∧NW w (.slice (some ⟨b,off,none⟩) xs.length c) L dvv wo.heap.size nx (ys0.map (·.1)) k nvv ys wr) (fun i _=>ys0.length - (intOf i).toNat)
   case atStart=>exact⟨0,_,_,by omega,rfl,HIN.out⟩
   case round=>
    obtain⟨k,nvv,ys,hk,rfl,hin⟩:=hrel;have hb2:Below w.heap.size w wr:=hin.2.2.2.2.2.2.2.2;have c0':wr.cell? ⟨w.heap.size,0,none⟩=some (.slice (some ⟨b,off,none⟩) xs.length c):=by rw[Mm hin.2.2.2.2.2.1];rfl
    have hcell':=hr.keep (RB hb2);obtain⟨b',off',hbo,_,hcell'⟩:=hcell' (by omega);simp only[Option.some.injEq,Addr.mk.injEq,and_true]at hbo;obtain⟨rfl,rfl⟩:=hbo;have h1':=hcell' m _ 1 HX'.out (by omega);simp only[dvcCell,HV.out]at h1';clear hcell' h0 h1 c0;by_cases hkl:k<ys0.length
    ·have hy:ys0[k]?=some ys0[k]:=B6 hkl;obtain⟨b1,off1,rfl,hb1,hcell1⟩:=(hr1.keep (RB hb2)) (by omega);obtain⟨n0,n1,n2,n3,n4,n5,n6,n7⟩:=eH (fun j hj=>hcell1 k _ j hy hj);have hev:=HN1.out _ (Am hy);have hnk:(ys0.map (·.1))[k]?=some ys0[k].1:=by simp[hkl]
     have HNK:=Lib.hid hnk;generalize ys0[k]=y at *;obtain⟨n,ev⟩:=y;simp only at hev n0 n1 n2 n3 n4 n5 n6 n7;have hlen:=hev;obtain⟨Ae,ce,rfl,hce,hle,hre⟩:=hev;have HE:=Lib.hid hlen;have HIN2:=Lib.hid hin;have HB2:=Lib.hid hb2;have hS1:wo.heap.size<wr.heap.size:=NX hin.2.1;have hSc:wr.cell? ⟨wo.heap.size,1,none⟩=some nvv:=by rw[Mm hin.2.1];rfl
     obtain⟨An,cn,hnv⟩:=hin.2.2.1.1.form;subst hnv;have hbs:=hb2.size;clear hcell1 hnk hy hlen hre hin hb2
     go_wp2_with (first
      |(at_builtin;refine eD (cell:=entCell) (D:=Old w) rfl (.const (.slice none 0 0)) (.tmp 43) _ rfl eE (by omega) (by omega) (.slice Ae n.entries.length ce) n.entries rfl rfl (HE.out.keep (RB (HB2.out.alloc (by omega) _))) (fun y _ j _=>eJ y j) ?_;intro A2 c2 w2 hown hb2;obtain⟨hbw2,hz2,k2⟩:=dX hb2;obtain⟨k2c,k2f⟩:=GQ k2;have hSc2:=(hbw2.cell (p:=⟨wo.heap.size,1,none⟩) hS1).trans hSc;clear hb2)
      |(at_builtin;refine TJ (cell:=nodCell) (xs:=ys) (ys:=[(n, .slice A2 n.entries.length c2)]) (base:=w.heap.size) (D:=fun _=>True) (v:= .slice An ys.length cn) (sv:= .slice (some ⟨w2.heap.size,0,none⟩) 1 1) rfl (.tmp 47) (.tmp 49) _ rfl eF (by omega) (by omega) rfl rfl (HIN2.out.2.2.1.1.below ((hbw2.setCell (p:=⟨wr.heap.size,7,none⟩) (B7 _) _).alloc (by simp[World.setCell];omega) _)) (Wp (by simp[World.setCell]) (eR n _) trivial) (fun y hy j _=>by obtain rfl:=List.mem_singleton.1 hy;exact eQ rfl j) (by have:=congrArg List.length HIN2.out.1;simp at this;omega) (by simp[World.setCell];omega) ?_;intro v5 w5 hown5 hg5 hat5;obtain⟨A5,c5,rfl⟩:=Wr hown5 (n:=ys.length+1) (by simp);obtain⟨k5c,k5f⟩:=GQ (eS HIN2.out (by exact(hbw2.setCell (p:=⟨wr.heap.size,7,none⟩) (B7 _) _).alloc (by simp[World.setCell];omega) _) hg5);clear k2c k2f hSc hSc2))
     go_roundw
     case rel=>exact⟨k+1,_,_,by omega,by go_num,eL HIN2.out HS.out hSB HNK.out hle (by exact(hbw2.setCell (p:=⟨wr.heap.size,7,none⟩) (B7 _) _).alloc (by simp[World.setCell];omega) _) (by exact((hown.setb (p:=⟨wr.heap.size,7,none⟩) (by show wr.heap.size<(wr.alloc _).heap.size;simp) _).alloc _).mono (by simp)) hg5 hown5 (by simpa[World.setCell]using hat5)⟩
     case measure=>simp[intOf];omega
    have hke:k=ys0.length:=by omega
    have HK:=Lib.hid hke;have HIN2:=Lib.hid hin;have HB2:=Lib.hid hb2;obtain⟨hSc,hSf⟩:=GQ hin.2.1;have hS1:wo.heap.size<wr.heap.size:=NX hin.2.1;have hoc:wr.cell? ⟨w.heap.size+1+1,0,none⟩=some dvv:=by rw[Mm hin.2.2.2.2.2.2.2.1];rfl
    obtain⟨An,cn,hnv⟩:=hin.2.2.1.1.form;subst hnv;obtain⟨Ad,cd,hdv⟩:=hin.2.2.2.1.1.form;subst hdv;have hbs:=hb2.size;have hml:L.length≤1000000:=eK hin.2.2.2.1.2.2.2;have hz3:w.heap.size+1+1<wr.heap.size:=NX hin.2.2.2.2.2.2.2.1;clear hke hin hb2
    go_wp2_with (at_builtin;refine TJ (cell:=NV) (xs:=L) (ys:=[(nx, .slice An ys.length cn,ys)]) (base:=w.heap.size) (D:=fun _=>True) (v:= .slice Ad L.length cd) (sv:= .slice (some ⟨wr.heap.size,0,none⟩) 1 1) rfl (.tmp 53) (.tmp 55) _ rfl eG (by omega) (by omega) rfl rfl (HIN2.out.2.2.2.1.1.below (LW _ _)) (Wp rfl (eU _ _ _) trivial) (fun y hy j _=>by obtain rfl:=List.mem_singleton.1 hy;exact eV _ _ _ _ _ j) hml (by simp;omega) ?_;intro v5 w5 hown5 hg5 hat5;obtain⟨A5,c5,rfl⟩:=Wr hown5 (n:=L.length+1) (by simp);obtain⟨k5c,k5f⟩:=GQ (eT HIN2.out hg5);clear hSc hSf hoc)
    go_roundw
    case rel=>exact⟨m+1,_,_,by omega,by go_num,eO (ns:=ys0.map (·.1)) (S:=wo.heap.size) (by have h:=HIN2.out;rw[HK.out]at h;simpa using h) HD.out HOUT.out.1 HNX.out (by simpa using HY.out.symm) (by simpa using hl1f) (by rw[HFL.out];exact hlf) hg5 hown5 (by simpa using hat5)⟩
    case measure=>simp[intOf];omega
  have hme:m=xs.length:=by omega
  have HF:Hid (flsOf L=f):=by
   have h:=hout.1;rw[hme,←HFL.out,List.take_length]at h;exact h
  have hrc1:wr.cell? ⟨w.heap.size+1+1,0,none⟩=some dvv:=by rw[Mm hout.2.2.2.2.1];rfl
  obtain⟨hrc,hrf⟩:=GQ hout.2.2.2.1;obtain⟨Ad,cd,hdv⟩:=hout.2.1.1.form;subst hdv;have HOUT:=Lib.hid hout;clear hout hme
  go_wp2_with fail
  refine bodyPost_ret (v:= .agg #[.slice Ad L.length cd]) (by simp[results,Tryz.results182,go_sem,hrc]) rfl ?_;refine⟨_,L,rfl,HOUT.out.2.1.set_ ?_ _,HF.out,hbw.setCell (by show w.heap.size≤w.heap.size+1;omega) _⟩;exact Ws HOUT.out.2.1 HOUT.out.2.2.2.1
end Go.Proofs.YtbgnigjfkbmceaaGreatDoor.Old
namespace Go.Proofs.YtbgnigjfkbmceaaGreatDoor
open Go.RowKit
section
variable {St:Nat→Nat→Prop}{w:World}(hst:∀b o,St b o→b<w.heap.size)
include hst
theorem TM{α:Type}{sz:Nat}{enc:α→List AV}{cell:α×Value→Nat→Value}{Sub:α→Value→Prop}{xs:List α}{v:Value}(hsz:0<sz)(hfew:xs.length≤1000)(h:At St w (.sl sz (xs.map enc) none) v)
    (hrow:∀x∈xs,(enc x).length=sz→∀c:Nat→Option Value,(∀j av,(enc x)[j]?=some av→∃u,c j=some u∧At St w av u)→∃u,Sub x u∧∀j,j<sz→c j=some (cell (x,u) j)):
    ∃ys:List (α×Value),ys.map (·.1)=xs∧Old.ListR sz cell w (Old.Old w) v ys∧∀y∈ys,Sub y.1 y.2:=by
 simp only[At]at h;obtain⟨_,A,cap,rfl,h2,h3,h4⟩:=h;rw[List.length_map]at h2;rcases Nat.eq_zero_or_pos xs.length with h0|h0
 ·obtain rfl:=Ff h0;exact⟨[],rfl,⟨A,cap,by simp,by simp,by simp,fun h=>absurd h (by simp)⟩,by simp⟩
 obtain⟨b,off,rfl,h6⟩:=h4.resolve_left (fun e=>by simp at e;subst e;simp at h0)
 have each:∀i (hi:i<xs.length),∃u,Sub xs[i] u∧∀j,j<sz→w.cell? ⟨b,off+i * sz+j,none⟩=some (cell (xs[i],u) j):=by
  intro i hi;have hr:(xs.map enc)[i]?=some (enc xs[i]):=by simp[hi]
  obtain⟨k1,k2⟩:=N4 h6 hr
  exact hrow _ (List.getElem_mem hi) k1 _ fun j av hj=>by
   obtain⟨_,u,q1,_,q2⟩:=Oj k2 hj;exact⟨u,q1,q2⟩
 let g:Fin xs.length→α×Value:=fun i=>(xs[i.1],(each i.1 i.2).choose);have hg:∀i (hi:i<xs.length),(List.ofFn g)[i]?=some (xs[i],(each i hi).choose):=fun i hi=>by simp[g,hi]
 have hlen:(List.ofFn g).length=xs.length:=by simp
 have hbs:b<w.heap.size:=by
  obtain⟨k1,k2⟩:=N4 h6 (i:=0) (r:=enc xs[0]) (by simp[h0]);have:(enc xs[0])[0]?=some (enc xs[0])[0]:=B6 (by omega);exact hst _ _ (Oj k2 this).1
 refine⟨List.ofFn g,?_,⟨_,cap,by rw[List.length_map,hlen],by rw[hlen];exact h2,by rw[hlen];unfold Old.few;omega,fun _=>⟨b,off,rfl,hbs,fun i y j hi hj=>?_⟩⟩,fun y hy=>?_⟩
 ·apply List.ext_getElem?;intro i;rcases Nat.lt_or_ge i xs.length with hi|hi
  ·rw[List.getElem?_map,hg i hi];simp[hi]
  rw[List.getElem?_eq_none (by simpa using hi),List.getElem?_eq_none hi]
 ·have hil:i<xs.length:=by rw[←hlen];exact(Af.1 hi).1
  rw[hg i hil]at hi;injection hi with hi;subst hi;exact(each i hil).choose_spec.2 j hj
 obtain⟨i,hi⟩:=List.getElem?_of_mem hy;have hil:i<xs.length:=by rw[←hlen];exact(Af.1 hi).1
 rw[hg i hil]at hi;injection hi with hi;subst hi;exact(each i hil).choose_spec.1
theorem eW{es:List BS}{v:Value}(hfew:es.length≤1000)(h:At St w (.sl 2 (es.map Dx) none) v):Old.EntsR w (Old.Old w) v es:=by
 obtain⟨ys,h1,⟨A,c,h2,h3,h4,h5⟩,_⟩:=TM hst (cell:=fun y:BS×Value=>Old.entCell y.1) (Sub:=fun _ _=>True) (by omega) hfew h (fun x _ _ c hc=>⟨.bool true,trivial,fun j hj=>by
  match j,hj with
  |0,_=>obtain⟨u,q1,q2⟩:=hc 0 _ rfl;simp only[At]at q2;rw[q1,q2];rfl
  |1,_=>obtain⟨u,q1,q2⟩:=hc 1 _ rfl;simp only[At]at q2;rw[q1,q2];rfl⟩)
 subst h1;refine⟨A,c,by rw[h2,List.length_map],by simpa using h3,by simpa using h4,fun hn=>?_⟩;obtain⟨b,off,e1,e2,e3⟩:=h5 (by simpa using hn);refine⟨b,off,e1,e2,fun i x j hi hj=>?_⟩;rw[List.getElem?_map]at hi
 cases hy:ys[i]? with
 |none=>rw[hy]at hi;cases hi
 |some y=>
   rw[hy]at hi;injection hi with hi;subst hi;exact e3 i y j hy hj
theorem eX{ns:List Nod}{v:Value}(hfew:ns.length≤1000)(he:∀n∈ns,n.entries.length≤1000)(h:At St w (.sl 8 (ns.map AZ) none) v):Old.NodsR w (Old.Old w) v ns:=
 TM hst (cell:=Old.nodCell) (Sub:=fun n u=>Old.EntsR w (Old.Old w) u n.entries) (by omega) hfew h (fun x hx _ c hc=>by
  obtain⟨u0,p0,q0⟩:=hc 0 _ rfl;obtain⟨u1,p1,q1⟩:=hc 1 _ rfl;obtain⟨u2,p2,q2⟩:=hc 2 _ rfl;obtain⟨u3,p3,q3⟩:=hc 3 _ rfl;obtain⟨u4,p4,q4⟩:=hc 4 _ rfl;obtain⟨u5,p5,q5⟩:=hc 5 _ rfl;obtain⟨u6,p6,q6⟩:=hc 6 _ rfl;obtain⟨u7,p7,q7⟩:=hc 7 _ rfl;have q7':=eW hst (he x hx) q7;simp only[At]at q0 q1 q2 q3 q4 q5 q6;subst q0 q1 q2 q3 q4 q5 q6;refine⟨u7,q7',fun j hj=>?_⟩
  match j,hj with
  |0,_=>exact p0
  |1,_=>exact p1
  |2,_=>exact p2
  |3,_=>exact p3
  |4,_=>exact p4
  |5,_=>exact p5
  |6,_=>exact p6
  |7,_=>exact p7)
theorem Wt{f:AU}(hf:FlsB f){v:Value}(h:At St w (.agg (Au f)) v):Old.FlsR w (Old.Old w) v f:=by
 simp only[At,Au,Ba]at h;obtain⟨ys,rfl,z,zs,rfl,h,rfl⟩:=h;have h':At St w (.sl 2 (f.map Cg) none) z:=by simp only[At];exact h
 refine⟨z,rfl,TM hst (cell:=Old.dvcCell) (Sub:=fun d u=>Old.NodsR w (Old.Old w) u d.nodes) (by omega) hf.few h' (fun x hx _ c hc=>?_)⟩;obtain⟨u0,p0,q0⟩:=hc 0 _ rfl;obtain⟨u1,p1,q1⟩:=hc 1 _ rfl;have q1':=eX hst (hf.nodes x hx) (hf.ents x hx) q1;simp only[At]at q0;subst q0;refine⟨u1,q1',fun j hj=>?_⟩
 match j,hj with
 |0,_=>exact p0
 |1,_=>exact p1
end
theorem PC{α:Type}{sz:Nat}{cell:α→Nat→Value}{E:TypeId}{w:World}{base:Nat}{v:Value}{xs:List α}(h:Old.OwnL sz cell E w base v xs){St:Nat→Nat→Prop}(hst:∀b,v.ownBlock=some b→∀o,St b o){enc:α→List AV}(hlen:∀x∈xs,(enc x).length=sz)
    (hx:∀x∈xs,∀j av,(enc x)[j]?=some av→At St w av (cell x j)):At St w (.sl sz (xs.map enc) none) v:=by
 simp only[At,true_and];obtain⟨⟨h0,h1⟩,h2⟩:=h;rcases h1 with⟨rfl,hn⟩|⟨g,cap,cur,rfl,hb,hg,hnc,hcm,hcs,htk⟩
 ·exact⟨none,0,by rw[List.length_map,hn],by rw[List.length_map,hn];exact B7 _,BE _, .inl (by rw[Ff hn];rfl)⟩
 refine⟨_,cap,by rw[List.length_map],by rw[List.length_map];exact hnc,hcm, .inr ⟨g,0,rfl,Px fun i r hi=>?_⟩⟩;rw[List.getElem?_map]at hi
 cases hy:xs[i]? with
 |none=>rw[hy]at hi;cases hi
 |some x=>
   rw[hy]at hi;injection hi with hi;subst hi;have hm:=Am hy;refine⟨hlen x hm,Ok fun j av hj=>?_⟩;have hjl:j<sz:=by rw[←hlen x hm];exact(Af.1 hj).1
   have hil:=(Af.1 hy).1
   have hlt:i * sz+j<xs.length * sz:=by
    have h2:(i+1) * sz≤xs.length * sz:=Nat.mul_le_mul_right sz hil;rw[Nat.add_mul]at h2;omega
   have hc:cur.toList[i * sz+j]?=some (cell x j):=by
    rw[←Old.flat_get xs i j x hy hjl,←htk,List.getElem?_take,if_pos hlt]
   refine⟨hst g rfl _,cell x j,?_,h2 g cur E rfl hg _ (Am hc),hx x hm j av hj⟩;rw[Nat.zero_add];simp only[World.cell?,hg]
   simpa using hc
theorem Wu{α:Type}{sz:Nat}{cell:α→Nat→Value}{E:TypeId}{w:World}{base:Nat}{v:Value}{xs:List α}(h:Old.OwnL sz cell E w base v xs)(h0:0<xs.length){G:Gh}{rows:List (List AV)}(hp:0<sz)(hl:rows.length=xs.length)(hlen:∀r∈rows,r.length=sz)
    (hx:∀(i:Nat) (x:α) (r:List AV),xs[i]?=some x→rows[i]?=some r→∀j av,r[j]?=some av→rep G w av (cell x j)):
    ∃g cap,v= .slice (some ⟨g,0,none⟩) xs.length cap∧base≤g∧g<w.heap.size∧xs.length≤cap∧cap≤maxLen∧Py G w g (Cc sz cap rows):=by
 obtain⟨⟨h3,h1⟩,h2⟩:=h;rcases h1 with⟨rfl,hn⟩|⟨g,cap,cur,rfl,hb,hg,hnc,hcm,hcs,htk⟩
 ·omega
 refine⟨g,cap,rfl,hb,(Array.getElem?_eq_some_iff.1 hg).1,hnc,hcm,cur.toList,E,by simpa using hg,?_,h2 g cur E rfl hg⟩;have e:cur.toList=cur.toList.take (xs.length * sz)++cur.toList.drop (xs.length * sz):=(List.take_append_drop _ _).symm;rw[e];unfold Cc;refine Oz ?_ ?_
 ·rw[htk];refine Sd (by rw[NE hlen,hl,Old.flat_length]) fun i x hi=>?_;have hii:i=i / sz * sz+i % sz:=by rw[Nat.mul_comm];exact(Nat.div_add_mod i sz).symm
  have hk:i % sz<sz:=Nat.mod_lt _ hp;rw[hii,Qq hlen hk]at hi
  cases hq:rows[i / sz]? with
  |none=>rw[hq]at hi;simp at hi
  |some r=>
    rw[hq]at hi;have hqx:i / sz<xs.length:=by rw[←hl];exact(Af.1 hq).1
    have hxx:xs[i / sz]?=some xs[i / sz]:=B6 hqx;refine⟨cell xs[i / sz] (i % sz),?_,hx _ _ r hxx hq _ _ hi⟩;have:=Old.flat_get (cell:=cell) xs (i / sz) (i % sz) _ hxx hk
    rwa [←hii]at this
 have:(cur.toList.drop (xs.length * sz)).length=(cap - rows.length) * sz:=by
  rw[List.length_drop,hl,Nat.sub_mul,←hcs];simp
 rw[←this];exact Qr _
theorem eY{α β:Type}{f:α→List β}{l:List α}{i:Nat}{x:α}(hx:l[i]?=some x):l.flatMap f=(l.take i).flatMap f++(f x++(l.drop (i+1)).flatMap f):=by
 obtain⟨hi,rfl⟩:=Af.1 hx;rw[←List.flatMap_cons,←List.flatMap_append,←List.drop_eq_getElem_cons hi,List.take_append_drop]
def Hv(f:AU)(K:Nat)(d:Dvc)(j cap1:Nat):List (List AV):=(f.map Cg).set K (Kg d j cap1)
theorem RD(f:AU)(K:Nat)(d:Dvc)(j cap1:Nat):∀r∈Hv f K d j cap1,r.length=2:=by
 intro r hr;rcases List.mem_or_eq_of_mem_set hr with h|h
 ·exact Wi _ r h
 rw[h];rfl
theorem eZ(f:AU)(K:Nat)(d:Dvc)(j cap1:Nat):(Hv f K d j cap1).length=f.length:=by simp[Hv]
theorem OC(f:AU)(K:Nat)(dK:Dvc)(hf:FlsB f)(hK:f[K]?=some dK)(hne:0<dK.nodes.length):
    ACall prog 182 [.agg (Au f)] [] (fun r b t=>t=[]∧∃cap cap1,f.length≤cap∧dK.nodes.length≤cap1∧b=[Cc 2 cap (Hv f K dK 1 cap1),Cc 8 cap1 (dK.nodes.map AZ)]∧r= .agg [.bs 0 0 2 f.length cap]):=by
 intro w St bl vs hr hv;have hbl:bl=[]:=by have:=hr.bxlen;simpa using this
 subst hbl;simp only[AN]at hv;obtain⟨z,zs,rfl,hz,rfl⟩:=hv;have hz':At St w (.agg (Au f)) z:=by have:=Jw _ _ hz;simpa[Dc,F6,Au]using this
 have hF:=Wt hr.stlt hf hz';refine Calls.mono (Old.Copy_any z f w hF) ?_;rintro e w' ⟨dv,L,rfl,hD,hL,hB⟩;have hsz:=hB.size;have hLl:L.length=f.length:=by rw[←hL];simp[Old.flsOf]
 have hKl:=(Af.1 hK).1
 obtain⟨x,hx,hxd⟩:∃x,L[K]?=some x∧Old.dvcOf x=dK:=by
  have h1:L[K]?=some L[K]:=B6 (by omega);refine⟨_,h1,?_⟩;have:=hK;rw[←hL,Old.flsOf,List.getElem?_map,h1]at this;injection this
 have hxm:=Am hx;obtain⟨d1,d2,d3,d4⟩:=hD;obtain⟨e1,e2,e3⟩:=d2 x hxm |>.1;have hyl:0<x.2.2.length:=by rw[←hxd]at hne;simpa[Old.dvcOf]using hne
 have form:∀{α:Type} {sz:Nat} {cell:α→Nat→Value} {E:TypeId} {base:Nat} {v:Value} {xs:List α},Old.OwnL sz cell E w' base v xs→0<xs.length→∃g cap,v= .slice (some ⟨g,0,none⟩) xs.length cap:=by
  intro α sz cell E base v xs h h0;rcases h.1.2 with⟨_,hn⟩|⟨g,cap,cur,rfl,_⟩
  ·omega
  exact⟨g,cap,rfl⟩
 obtain⟨g0,cap,hdv⟩:=form d1 (by omega);obtain⟨g1,cap1,hnv⟩:=form e1 hyl;have hb0:g0∈Old.blk dv:=Old.mem_blk.2 (by rw[hdv];rfl);have hb1:g1∈Old.blk x.2.1:=Old.mem_blk.2 (by rw[hnv];rfl);have nd:=List.nodup_append.1 d3;have hin:∀y∈L,∀b∈Old.fpN y.2.1 y.2.2,b∈L.flatMap fun x=>Old.fpN x.2.1 x.2.2:=fun y hy b hb=>List.mem_flatMap.2 ⟨y,hy,hb⟩;have h01:g0≠g1:=fun e=>nd.2.2 g0 hb0 g1 (hin x hxm g1 (List.mem_append_left _ hb1)) e;let St':Nat→Nat→Prop:=fun b o=>St b o∨(w.heap.size≤b∧b<w'.heap.size∧b≠g0∧b≠g1);let G':Gh:=⟨St',[g0,g1],[]⟩
 have hfresh:∀b∈Old.fpD dv L,b≠g0→b≠g1→∀o,St' b o:=fun b hb n0 n1 o=>by
  have:=Old.DvcsAt.fp_lt (w:=w') ⟨d1,d2,d3,d4⟩ b hb;exact .inr ⟨this.1,this.2,n0,n1⟩
 -- a list of entries that lies in blocks that stay
 have hents:∀(y:Nod×Value),Old.OwnL 2 Old.entCell 234 w' w.heap.size y.2 y.1.entries→(∀b∈Old.blk y.2,∀o,St' b o)→At St' w' (.sl 2 (y.1.entries.map Dx) none) y.2:=by
  intro y hy hb;refine PC hy (fun b h=>hb b (Old.mem_blk.2 h)) (fun _ _=>rfl) fun e _ j av hj=>?_
  match j,hj with
  |0,hj=>injection hj with hj;subst hj;simp only[At];rfl
  |1,hj=>injection hj with hj;subst hj;simp only[At];rfl
 have hnod:∀(y:Nod×Value),Old.OwnL 2 Old.entCell 234 w' w.heap.size y.2 y.1.entries→(∀b∈Old.blk y.2,∀o,St' b o)→∀j av,(AZ y.1)[j]?=some av→At St' w' av (Old.nodCell y j):=by
  intro y hy hb j av hj
  match j,hj with
  |0,hj=>injection hj with hj;subst hj;simp only[At];rfl
  |1,hj=>injection hj with hj;subst hj;simp only[At];rfl
  |2,hj=>injection hj with hj;subst hj;simp only[At];rfl
  |3,hj=>injection hj with hj;subst hj;simp only[At];rfl
  |4,hj=>injection hj with hj;subst hj;simp only[At];rfl
  |5,hj=>injection hj with hj;subst hj;simp only[At];rfl
  |6,hj=>injection hj with hj;subst hj;simp only[At];rfl
  |7,hj=>injection hj with hj;subst hj;exact hents y hy hb
  |j+8,hj=>exact absurd hj (by simp[AZ])
 have hne0:∀y∈L,∀b∈Old.fpN y.2.1 y.2.2,b≠g0:=fun y hy b hb e=>nd.2.2 g0 hb0 b (hin y hy b hb) e.symm
 have hfp:∀y∈L,∀b∈Old.fpN y.2.1 y.2.2,b∈Old.fpD dv L:=fun y hy b hb=>List.mem_append_right _ (hin y hy b hb)
 -- the boxes
 obtain⟨g1',cap1',q1,q2,q3,q4,q5,q6⟩:=Wu (G:=G') e1 hyl (rows:=dK.nodes.map AZ) (by omega) (by rw[←hxd];simp[Old.dvcOf]) (Ml _) (by
  intro i y r hi hri j av hj;have hnm:dK.nodes[i]?=some y.1:=by rw[←hxd,Old.dvcOf];simp[hi]
  rw[List.getElem?_map,hnm]at hri;injection hri with hri;subst hri;have hym:=Am hi;refine Kv _ _ (hnod y (e2 y hym).1 (fun b hb=>hfresh b (hfp x hxm b (List.mem_append_right _ (List.mem_flatMap.2 ⟨y,hym,hb⟩))) (hne0 x hxm b (List.mem_append_right _ (List.mem_flatMap.2 ⟨y,hym,hb⟩))) fun e=>?_) j av hj)
  exact(List.nodup_append.1 e3).2.2 g1 hb1 b (List.mem_flatMap.2 ⟨y,hym,hb⟩) e.symm)
 rw[hnv]at q1;simp only[Value.slice.injEq,Option.some.injEq,Addr.mk.injEq,and_true,true_and]at q1;obtain⟨rfl,rfl⟩:=q1
 obtain⟨g0',cap',p1,p2,p3,p4,p5,p6⟩:=Wu (G:=G') d1 (by omega) (rows:=Hv f K dK 1 cap1) (by omega) (by rw[eZ,hLl]) (RD _ _ _ _ _) (by
  intro i y r hi hri j av hj;have hfi:f[i]?=some (Old.dvcOf y):=by rw[←hL,Old.flsOf,List.getElem?_map,hi];rfl
  have hym:=Am hi;unfold Hv at hri;by_cases hiK:K=i
  ·subst hiK;rw[hx]at hi;injection hi with hi;subst hi;rw[List.getElem?_set_self (by simp;omega)]at hri;injection hri with hri;subst hri
   match j,hj with
   |0,hj=>injection hj with hj;subst hj;simp only[rep];rw[←hxd];rfl
   |1,hj=>
     injection hj with hj;subst hj;simp only[rep];refine⟨g1,rfl,?_,?_,q5⟩
     ·show x.2.1=_;rw[hnv,←hxd];simp[Old.dvcOf]
     rw[←hxd];simpa[Old.dvcOf]using q4
   |j+2,hj=>exact absurd hj (by simp[Kg])
  rw[List.getElem?_set_ne hiK,List.getElem?_map,hfi]at hri;injection hri with hri;subst hri
  have hn1:∀b∈Old.fpN y.2.1 y.2.2,b≠g1:=by
   intro b hb e;subst e;have hd2:=nd.2.1;have hil:=(Af.1 hi).1;rw[eY hx]at hd2;obtain⟨c1,c2,c3⟩:=List.nodup_append.1 hd2;obtain⟨c4,c5,c6⟩:=List.nodup_append.1 c2;rcases Nat.lt_or_ge i K with hlt|hge
   ·exact c3 b (List.mem_flatMap.2 ⟨y,List.mem_iff_getElem?.2 ⟨i,by rw[List.getElem?_take,if_pos hlt];exact hi⟩,hb⟩) b (List.mem_append_left _ (List.mem_append_left _ hb1)) rfl
   exact c6 b (List.mem_append_left _ hb1) b (List.mem_flatMap.2 ⟨y,List.mem_iff_getElem?.2 ⟨i - (K+1),by rw[List.getElem?_drop,show K+1+(i - (K+1))=i by omega];exact hi⟩,hb⟩) rfl
  obtain⟨f1,f2,f3⟩:=(d2 y hym).1
  match j,hj with
  |0,hj=>injection hj with hj;subst hj;simp only[rep];rfl
  |1,hj=>
    injection hj with hj;subst hj
    have key:=PC f1 (St:=St') (fun b h=>hfresh b (hfp y hym b (List.mem_append_left _ (Old.mem_blk.2 h))) (hne0 y hym b (List.mem_append_left _ (Old.mem_blk.2 h))) (hn1 b (List.mem_append_left _ (Old.mem_blk.2 h)))) (enc:=fun y=>AZ y.1) (fun _ _=>rfl) fun z hz j av hj=>
     hnod z (f2 z hz).1 (fun b hb=>hfresh b (hfp y hym b (List.mem_append_right _ (List.mem_flatMap.2 ⟨z,hz,hb⟩))) (hne0 y hym b (List.mem_append_right _ (List.mem_flatMap.2 ⟨z,hz,hb⟩))) (hn1 b (List.mem_append_right _ (List.mem_flatMap.2 ⟨z,hz,hb⟩)))) j av hj
    have e:((Old.dvcOf y).nodes.map AZ)=y.2.2.map fun y=>AZ y.1:=by simp[Old.dvcOf]
    rw[e];exact Kv _ _ key
  |j+2,hj=>exact absurd hj (by simp[Cg]))
 rw[hdv]at p1;simp only[Value.slice.injEq,Option.some.injEq,Addr.mk.injEq,and_true,true_and]at p1;obtain⟨rfl,rfl⟩:=p1;have hst:∀b o,St b o→b<w.heap.size:=hr.stlt;refine⟨.agg [.bs 0 0 2 f.length cap],_,_,G',⟨rfl,cap,cap1,by omega,by rw[←hxd];simpa[Old.dvcOf]using q4,rfl,rfl⟩,⟨?_,?_,?_,?_,rfl,?_,?_,?_,?_,rfl,?_,?_,?_⟩,⟨?_,?_,?_⟩,?_⟩
 ·intro i b hi;simp at hi
 ·exact⟨hB.os,hB.tape,hB.output,hB.size,fun k hk _=>hB.block k hk⟩
 ·rintro b o (h|h)
  ·have:=hst b o h;omega
  exact h.2.1
 ·rintro b o (h|h)
  ·exact .inl h
  exact .inr h.1
 ·show[g0,g1].Nodup
  simpa using h01
 ·rintro b hb o (h|h)
  ·have:=hst b o h;simp[G']at hb;rcases hb with rfl|rfl<;>omega
  simp[G']at hb;rcases hb with rfl|rfl
  ·exact h.2.2.1 rfl
  exact h.2.2.2 rfl
 ·intro b hb;simp[G']at hb;rcases hb with rfl|rfl
  ·exact .inl p2
  exact .inl q2
 ·intro i b row hi hrow
  match i,hi,hrow with
  |0,hi,hrow=>simp[G']at hi;simp at hrow;subst hi;subst hrow;exact p6
  |1,hi,hrow=>simp[G']at hi;simp at hrow;subst hi;subst hrow;exact q6
  |i+2,hi,_=>simp[G']at hi
 ·intro g n u T sz rows hg;simp[G']at hg
 ·intro g n u hg;simp[G']at hg
 ·intro g g' n n' u u' hg;simp[G']at hg
 ·exact fun b o h=>⟨.inl h,hB.cell (p:=⟨b,o,none⟩) (hst b o h)⟩
 ·intro i b hi;simp at hi
 ·intro g n u hg;simp at hg
 simp only[rep,AN];exact⟨[dv],rfl,dv,[],rfl,⟨g0,rfl,by rw[hdv,hLl],by omega,p5⟩,rfl⟩
theorem PD(f:Nat→Option Nat):∀xs:List AV,E9 f xs=xs.map (H3 f)
 |[]=>rfl
 |x::xs=>by simp[E9,PD f xs]
theorem RE(f:Nat→Option Nat):∀xs:List AV,JZ f xs=xs.map (JD f)
 |[]=>rfl
 |x::xs=>by simp[JZ,RE f xs]
theorem PF(g:Nat→Option (List AV)):∀xs:List AV,KY g xs=xs.map (FA g)
 |[]=>rfl
 |x::xs=>by simp[KY,PF g xs]
theorem PG(F:AV→AV)(h:F .any= .any)(sz cap:Nat)(rows:List (List AV)):(Cc sz cap rows).map F=Cc sz cap (rows.map (·.map F)):=by
 simp[Cc,h,List.map_flatten]
theorem TN{n m:Nat}{xs:List AV}:AT n m xs=true↔∀x∈xs,AQ n m x=true:=by
 induction xs with
 |nil=>simp[AT]
 |cons x xs ih=>simp[AT,ih]
theorem TO{n m sz cap:Nat}{rows:List (List AV)}(h:∀r∈rows,AT n m r=true):AT n m (Cc sz cap rows)=true:=by
 rw[TN];intro x hx;unfold Cc at hx;rcases List.mem_append.1 hx with hx|hx
 ·obtain⟨r,hr,hx⟩:=List.mem_flatten.1 hx;exact TN.1 (h r hr) x hx
 rw[(List.mem_replicate.1 hx).2];rfl
def DB(f:AU)(K:Nat)(d:Dvc)(j cap cap1:Nat):List AV:=Cc 2 cap (Hv f K d j cap1)
def NB(ns:List Nod)(cap1:Nat):List AV:=Cc 8 cap1 (ns.map AZ)
theorem Cn{n m:Nat}{f:AU}{K:Nat}{d:Dvc}{j cap cap1:Nat}(hj:j<n):AT n m (DB f K d j cap cap1)=true:=by
 refine TO fun r hr=>?_;rcases List.mem_or_eq_of_mem_set hr with h|h
 ·obtain⟨d',_,rfl⟩:=List.mem_map.1 h;rfl
 rw[h];simp[Kg,AT,AQ,hj]
theorem Co{n m:Nat}{ns:List Nod}{cap1:Nat}:AT n m (NB ns cap1)=true:=by
 refine TO fun r hr=>?_;obtain⟨d',_,rfl⟩:=List.mem_map.1 hr;rfl
section
variable {F:AV→AV}(hany:F .any= .any)(hv:∀x,F (.v x)= .v x)(hs:∀sz rows,F (.sl sz rows none)= .sl sz rows none)
include hany hv hs
theorem TP(ns:List Nod)(cap1:Nat):(NB ns cap1).map F=NB ns cap1:=by
 unfold NB;rw[PG F hany,List.map_map]
 congr 1
 apply List.map_congr_left;intro n _;simp[AZ,hv,hs]
theorem Wv(f:AU):(f.map Cg).map (·.map F)=f.map Cg:=by
 have _:=hany;rw[List.map_map];apply List.map_congr_left;intro n _;simp[Cg,hv,hs]
theorem Ww(f:AU)(K:Nat)(d:Dvc){j j':Nat}(cap cap1:Nat)(hb:F (.bs j 0 8 d.nodes.length cap1)= .bs j' 0 8 d.nodes.length cap1):(DB f K d j cap cap1).map F=DB f K d j' cap cap1:=by
 unfold DB Hv;rw[PG F hany,List.map_set,Wv hany hv hs];simp[Kg,hv,hb]
theorem f6{f:AU}{K:Nat}{d:Dvc}{j cap cap1:Nat}(hK:f[K]?=some d)(hb:F (.bs j 0 8 d.nodes.length cap1)= .sl 8 (d.nodes.map AZ) none):(DB f K d j cap cap1).map F=Cc 2 cap (f.map Cg):=by
 unfold DB Hv;rw[PG F hany,List.map_set,Wv hany hv hs];have e:(Kg d j cap1).map F=Cg d:=by simp[Kg,hv,hb,Cg]
 rw[e]
 congr 1
 apply List.ext_getElem?;intro i;rw[List.getElem?_set];split
 ·rename_i e1;subst e1;obtain⟨h1,h2⟩:=Af.1 hK;simp[h1,h2]
 rfl
end
theorem K9{g:Nat→Option Nat}{j j':Nat}(h:g j=some j')(f:AU)(K:Nat)(d:Dvc)(cap cap1:Nat):E9 g (DB f K d j cap cap1)=DB f K d j' cap cap1:=by
 rw[PD];exact Ww rfl (fun _=>rfl) (fun _ _=>rfl) f K d cap cap1 (by simp[H3,h])
theorem Ji(g:Nat→Option Nat)(ns:List Nod)(cap1:Nat):E9 g (NB ns cap1)=NB ns cap1:=by
 rw[PD];exact TP rfl (fun _=>rfl) (fun _ _=>rfl) ns cap1
theorem NY{g:Nat→Option Nat}{j j':Nat}(h:g j=some j')(f:AU)(K:Nat)(d:Dvc)(cap cap1:Nat):JZ g (DB f K d j cap cap1)=DB f K d j' cap cap1:=by
 rw[RE];exact Ww rfl (fun _=>rfl) (fun _ _=>rfl) f K d cap cap1 (by simp[JD,h])
theorem M6(g:Nat→Option Nat)(ns:List Nod)(cap1:Nat):JZ g (NB ns cap1)=NB ns cap1:=by
 rw[RE];exact TP rfl (fun _=>rfl) (fun _ _=>rfl) ns cap1
theorem f8(g:Nat→Option (List AV))(ns:List Nod)(cap1:Nat):KY g (NB ns cap1)=NB ns cap1:=by
 rw[PF];exact TP rfl (fun _=>rfl) (fun _ _=>rfl) ns cap1
theorem PH{ns:List Nod}{cap1:Nat}(h:ns.length≤cap1):(NB ns cap1).length=cap1 * 8:=T8 (Ml _) (by simpa using h)
theorem TQ{g:Nat→Option (List AV)}{j sz n cap0 cap:Nat}{rows:List (List AV)}(hg:g j=some (Cc sz cap rows))(hr:∀r∈rows,r.length=sz)(hn:n=rows.length)(hc:rows.length≤cap):FA g (.bs j 0 sz n cap0)= .sl sz rows none:=by
 subst hn;have hl:=T8 hr hc
 have hb:Nat.ble (0+rows.length * sz) (Cc sz cap rows).length=true:=by
  rw[hl,Nat.ble_eq];have:=Nat.mul_le_mul_right sz hc;omega
 simp only[FA,hg,hb,List.drop_zero];unfold Cc;rw[Ve hr]
theorem f9{n:Nat}{bx:List (List AV)}{k j:Nat}{ns:List Nod}{cap1:Nat}(hn:n≤j)(hj:bx[j]?=some (NB ns cap1)):Eb n bx (k+1) j=some (NB ns cap1):=by
 have:Nat.blt j n=false:=by rw[←Bool.not_eq_true,Nat.blt_eq];omega
 simp only[Eb,this,hj,Option.map_some,f8]
theorem fA{n:Nat}{bx:List (List AV)}{k i j:Nat}{f:AU}{K:Nat}{d:Dvc}{cap cap1:Nat}(hK:f[K]?=some d)(hc1:d.nodes.length≤cap1)(hni:n≤i)(hnj:n≤j)(hi:bx[i]?=some (DB f K d j cap cap1))(hj:bx[j]?=some (NB d.nodes cap1)):
    Eb n bx (k+2) i=some (Cc 2 cap (f.map Cg)):=by
 have:Nat.blt i n=false:=by rw[←Bool.not_eq_true,Nat.blt_eq];omega
 rw[show k+2=(k+1)+1 from rfl,Eb];simp only[this,hi,Option.map_some,PF];rw[f6 rfl (fun _=>rfl) (fun _ _=>rfl) hK];exact TQ (f9 hnj hj) (Ml _) (by simp) (by simpa using hc1)
theorem Mn{n:Nat}{bx:List (List AV)}{k i j:Nat}{f:AU}{K:Nat}{d:Dvc}{cap cap0 cap1:Nat}(hK:f[K]?=some d)(hc:f.length≤cap)(hc1:d.nodes.length≤cap1)(hni:n≤i)(hnj:n≤j)(hi:bx[i]?=some (DB f K d j cap cap1))(hj:bx[j]?=some (NB d.nodes cap1)):
    FA (Eb n bx (k+2)) (.agg [.bs i 0 2 f.length cap0])= .agg (Au f):=by
 show AV.agg [FA _ _]=_;unfold Au;rw[TQ (fA hK hc1 hni hnj hi hj) (Wi _) (by simp) (by simpa using hc)]
theorem PJ{sz cap:Nat}{rows:List (List AV)}{q k:Nat}{r:List AV}{x:AV}(hr:∀r∈rows,r.length=sz)(hq:rows[q]?=some r)(hx:r[k]?=some x):(Cc sz cap rows)[0+q * sz+k]?=some x:=by
 have hk:k<sz:=by rw[←hr r (Am hq)];exact(Af.1 hx).1
 have e:=Qq hr hk (q:=q);rw[hq]at e;simp only[Option.bind_some]at e;rw[hx]at e;unfold Cc;rw[Nat.zero_add,DJ (Af.1 e).1];exact e
theorem fB{sz cap:Nat}{rows:List (List AV)}{q:Nat}{r:List AV}(hr:∀r∈rows,r.length=sz)(hq:rows[q]?=some r):((Cc sz cap rows).drop (0+q * sz)).take sz=r:=by
 have hrl:=hr r (Am hq);apply List.ext_getElem?;intro k;rw[List.getElem?_take];split
 ·rename_i hk;rw[List.getElem?_drop];have hx:r[k]?=some r[k]:=B6 (by omega);rw[PJ hr hq hx,hx]
 rw[List.getElem?_eq_none (by omega)]
theorem TR{sz cap:Nat}{rows:List (List AV)}{q k:Nat}{r r' cs:List AV}(hr:∀r∈rows,r.length=sz)(hq:rows[q]?=some r)(hs:SetAt r k cs r')(hne:cs≠[]):SetAt (Cc sz cap rows) (0+q * sz+k) cs (Cc sz cap (rows.set q r')):=by
 unfold Cc;rw[Nat.zero_add,List.length_set];exact(bX hr hq hs hne).left _
theorem TS{f:AU}{K:Nat}{d:Dvc}{j cap1:Nat}(hK:K<f.length):(Hv f K d j cap1)[K]?=some (Kg d j cap1):=by
 unfold Hv;rw[List.getElem?_set_self (by simpa using hK)]
theorem PK{f:AU}{K:Nat}{d:Dvc}{j cap cap1:Nat}(hK:K<f.length):(DB f K d j cap cap1)[0+K * 2+1]?=some (.bs j 0 8 d.nodes.length cap1):=PJ (RD _ _ _ _ _) (TS hK) rfl
theorem fC{f:AU}{K:Nat}{d:Dvc}{j cap cap1:Nat}(hK:K<f.length):(DB f K d j cap cap1)[0+K * 2+0]?=some (.v (.int .i64 d.next)):=PJ (RD _ _ _ _ _) (TS hK) rfl
theorem RF{ns:List Nod}{cap1 i:Nat}{n:Nod}(h:ns[i]?=some n):((NB ns cap1).drop (0+i * 8)).take 8=AZ n:=fB (Ml _) (by rw[List.getElem?_map,h];rfl)
theorem Wx{ns:List Nod}{cap1 i k:Nat}{n:Nod}{x:AV}(h:ns[i]?=some n)(hx:(AZ n)[k]?=some x):(NB ns cap1)[0+i * 8+k]?=some x:=PJ (Ml _) (by rw[List.getElem?_map,h];rfl) hx
theorem TT{ns:List Nod}{cap1 i k:Nat}{n n':Nod}{cs:List AV}(h:ns[i]?=some n)(hs:SetAt (AZ n) k cs (AZ n'))(hne:cs≠[]):SetAt (NB ns cap1) (0+i * 8+k) cs (NB (ns.set i n') cap1):=by
 have key:=TR (cap:=cap1) (Ml ns) (by rw[List.getElem?_map,h];rfl) hs hne;rw[←List.map_set]at key;exact key
theorem TU{f:AU}{K:Nat}{d d':Dvc}{j j' cap cap1 cap1' k:Nat}{cs:List AV}(hK:K<f.length)(hs:SetAt (Kg d j cap1) k cs (Kg d' j' cap1'))(hne:cs≠[]):SetAt (DB f K d j cap cap1) (0+K * 2+k) cs (DB f K d' j' cap cap1'):=by
 have key:=TR (cap:=cap) (RD f K d j cap1) (TS hK) hs hne;unfold Hv at key;rw[List.set_set]at key;exact key
theorem TV(f:AU)(K:Nat)(d d':Dvc)(j cap cap1:Nat):DB (f.set K d') K d j cap cap1=DB f K d j cap cap1:=by
 unfold DB Hv;rw[List.map_set,List.set_set]
theorem LeA.tok(sz:Nat)(rows:List (List AV))(g:Option Nat):LeA (.sl sz rows g) (.sl sz rows none):=fun G w v h=>by
 cases g with
 |none=>exact h
 |some g=>simp only[rep]at h ⊢;exact h.1
section
variable {P:Program}{ev:Operand→Option AV}{h:AH}{R:AV→AH→Prop}{d:Option Tmp}{ty:TypeId}{pos:String}{af:Array Edge}{gd:Option (Nat×Bool)}
theorem Mo{T:TypeId}{x:Operand}{sz i o:Nat}{row cs:List AV}[ht:Typ P T sz true](hx:ev x=some (.bp i o))(hb:h.bx[i]?=some row)(hr:o+sz≤row.length)(he:(row.drop o).take sz=cs)(hR:R (.agg cs) h):AStep P ⟨d, .load T x,ty,pos,af,gd⟩ ev h R:=by
 subst he;exact MT hx hb (by rw[Nat.ble_eq];exact hr) hR
end
end Go.Proofs.YtbgnigjfkbmceaaGreatDoor
namespace Go.Proofs.YtbgnigjfkbmceaaGreatDoor
abbrev Bs:=List UInt8
def Fn(l:Bs):Bool:=decide (l≠[]∧l.length≤12∧l≠[46]∧l≠[46,46]∧(0:UInt8)∉l∧(47:UInt8)∉l)
theorem RG{l:Bs}:Fn l=true↔l≠[]∧l.length≤12∧l≠[46]∧l≠[46,46]∧(0:UInt8)∉l∧(47:UInt8)∉l:=decide_eq_true_iff
def Cy:Bs→List Bs
 |[]=>[[]]
 |c::t=>if c=47 then[]::Cy t else match Cy t with
   |[]=>[[c]]
   |h::r=>(c::h)::r
def ne_(p:Bs):Bool:=decide (p≠[])
def DW(l:Bs):List Bs:=(Cy l).filter ne_
def EA(ps:List Bs):Bs:=ps.flatMap fun p=>47::p
theorem TW(l:Bs):Cy l≠[]:=by
 cases l with
 |nil=>simp[Cy]
 |cons c t=>
   unfold Cy;split
   ·simp
   split<;>simp
theorem Wy(c:UInt8)(t:Bs):Cy (c::t)=if c=47 then[]::Cy t else match Cy t with
    |[]=>[[c]]
    |h::r=>(c::h)::r:=rfl
theorem Wz(u t:Bs):Cy (u++47::t)=Cy u++Cy t:=by
 induction u with
 |nil=>simp[Cy]
 |cons c u ih=>
   rw[List.cons_append,Wy,Wy,ih];by_cases hc:c=47
   ·simp[hc]
   rw[if_neg hc,if_neg hc]
   cases h:Cy u with
   |nil=>exact absurd h (TW u)
   |cons a r=>simp
theorem RH{l:Bs}(h:(47:UInt8)∉l):Cy l=[l]:=by
 induction l with
 |nil=>rfl
 |cons c t ih=>
   simp only[List.mem_cons,not_or]at h;unfold Cy;rw[if_neg (fun e=>h.1 e.symm),ih h.2]
theorem X0{a:Bs}(h:(47:UInt8)∉a)(b:Bs):Cy (a++47::b)=a::Cy b:=by
 rw[Wz,RH h];rfl
theorem LX(p:Bs)(ps:List Bs):EA (p::ps)=47::(p++EA ps):=by simp[EA]
theorem TX(ps qs:List Bs):EA (ps++qs)=EA ps++EA qs:=by simp[EA]
theorem X3:∀(ps:List Bs) (p:Bs),(47:UInt8)∉p→(∀q∈ps,(47:UInt8)∉q)→Cy (p++EA ps)=p::ps:=by
 intro ps
 induction ps with
 |nil=>intro p hp _;simp[EA,RH hp]
 |cons q ps ih=>
   intro p hp hq;rw[LX,X0 hp,ih q (hq q (by simp)) fun x hx=>hq x (by simp[hx])]
theorem X4(l:Bs):EA (Cy l)=47::l:=by
 induction l with
 |nil=>simp[Cy,EA]
 |cons c t ih=>
   unfold Cy;by_cases hc:c=47
   ·rw[if_pos hc,LX,ih,hc];rfl
   rw[if_neg hc]
   cases h:Cy t with
   |nil=>exact absurd h (TW t)
   |cons a r=>
     rw[h]at ih;rw[LX]at ih ⊢;simp only[List.cons.injEq,true_and]at ih;simp[ih]
theorem OD:DW []=[]:=by simp[DW,Cy,ne_]
theorem RJ(u t:Bs):DW (u++47::t)=DW u++DW t:=by simp[DW,Wz]
def one_(p:Bs):List Bs:=if p=[]then[]else[p]
theorem X5{l:Bs}(h:(47:UInt8)∉l):DW l=one_ l:=by
 unfold DW one_;rw[RH h];by_cases e:l=[]<;>simp[e,ne_]
def TY(u:Bs):Prop:=u=[]∨∃u',u=u'++[47]
theorem X6{u p:Bs}(hu:TY u)(hp:(47:UInt8)∉p):DW (u++p)=DW u++one_ p:=by
 rcases hu with rfl|⟨u',rfl⟩
 ·simp[OD,X5 hp]
 have e:u'++[47]++p=u'++47::p:=by simp
 rw[e,RJ,RJ,OD,X5 hp];simp
theorem fD{u p:Bs}(hu:TY u)(hp:(47:UInt8)∉p):DW (u++p++[47])=DW u++one_ p:=by
 rw[RJ,X6 hu hp,OD,List.append_nil]
def Fo(l:Bs):Bool:=decide (l=[47])||(decide (l.head?=some 47)&&(Cy l.tail).all Fn)
def PL(l:Bs):Bool:=(DW l).all Fn&&(decide (l=[47])||(decide (DW l≠[])&&decide (l=EA (DW l))))
theorem RK{p:Bs}(h:Fn p=true):(47:UInt8)∉p:=(RG.1 h).2.2.2.2.2
theorem fE{p:Bs}(h:Fn p=true):p≠[]:=(RG.1 h).1
theorem fF(l:Bs):Fo l=true↔l=[47]∨∃ps,ps≠[]∧(∀p∈ps,Fn p=true)∧l=EA ps:=by
 unfold Fo;rw[Bool.or_eq_true,Bool.and_eq_true,decide_eq_true_iff,decide_eq_true_iff];constructor
 ·rintro(h|⟨h,ha⟩)
  ·exact .inl h
  cases l with
  |nil=>simp at h
  |cons c t=>
    simp at h;subst h;exact .inr ⟨Cy t,TW t,by simpa using ha,(X4 t).symm⟩
 rintro(h|⟨ps,hne,hn,rfl⟩)
 ·exact .inl h
 cases ps with
 |nil=>exact absurd rfl hne
 |cons p ps=>
   right;rw[LX];refine⟨rfl,?_⟩;show(Cy (p++EA ps)).all Fn=true;rw[X3 ps p (RK (hn p (by simp))) fun q hq=>RK (hn q (by simp[hq]))]
   simpa using hn
theorem fG{ps:List Bs}(hn:∀p∈ps,Fn p=true):DW (EA ps)=ps:=by
 cases ps with
 |nil=>simp[EA,OD]
 |cons p ps=>
   rw[LX];have:=RJ [] (p++EA ps);rw[List.nil_append]at this;rw[this,OD,List.nil_append];unfold DW;rw[X3 ps p (RK (hn p (by simp))) fun q hq=>RK (hn q (by simp[hq]))];rw[List.filter_eq_self];intro a ha
   simpa[ne_]using fE (hn a ha)
theorem fH:DW [47]=[]:=by simp[DW,Cy,ne_]
theorem TZ(l:Bs):PL l=Fo l:=by
 rw[Bool.eq_iff_iff,fF];unfold PL;rw[Bool.and_eq_true,Bool.or_eq_true,Bool.and_eq_true,decide_eq_true_iff,decide_eq_true_iff,decide_eq_true_iff,List.all_eq_true];constructor
 ·rintro⟨ha,h|⟨h1,h2⟩⟩
  ·exact .inl h
  exact .inr ⟨_,h1,ha,h2⟩
 rintro(rfl|⟨ps,h1,h2,rfl⟩)
 ·exact⟨by simp[fH], .inl rfl⟩
 rw[fG h2];exact⟨h2, .inr ⟨h1,rfl⟩⟩
end Go.Proofs.YtbgnigjfkbmceaaGreatDoor
namespace Go.Proofs.YtbgnigjfkbmceaaGreatDoor
def CY(xs:List AF):List Bs:=xs.map fun x=>x.data.toList
theorem Ta(x:UInt8):((x.toNat:Int)==47)=decide (x=47):=by
 rw[Bool.eq_iff_iff,beq_iff_eq,decide_eq_true_iff];constructor
 ·intro h;apply UInt8.toNat_inj.1;have:(47:UInt8).toNat=47:=rfl;omega
 rintro rfl;rfl
def Fp(l:Bs)(f k:Nat)(bs:List Bs):Prop:=(k≤l.length∧f≤k∧TY (l.take f)∧(47:UInt8)∉(l.drop f).take (k - f)∧bs=DW (l.take f))∨(k=l.length+1∧bs=DW l)
theorem fJ{l:Bs}{f k:Nat}{bs:List Bs}{x:UInt8}(h:Fp l f k bs)(hx:l[k]?=some x)(hne:x≠47):Fp l f (k+1) bs:=by
 have hk:=(Af.1 hx).1;rcases h with⟨h1,h2,h3,h4,h5⟩|⟨h1,h2⟩
 ·refine .inl ⟨hk,by omega,h3,?_,h5⟩;rw[show k+1 - f=(k - f)+1 by omega,List.take_add_one];have:(l.drop f)[k - f]?=some x:=by rw[List.getElem?_drop,show f+(k - f)=k by omega];exact hx
  rw[this];simp only[Option.toList_some,List.mem_append,List.mem_singleton,not_or];exact⟨h4,fun e=>hne e.symm⟩
 omega
theorem X7{l:Bs}{f k:Nat}(h:f≤k):l.take k=l.take f++(l.drop f).take (k - f):=by
 rw[show k=f+(k - f) by omega,List.take_add];simp
theorem fK{l:Bs}{f k:Nat}{bs:List Bs}(h:Fp l f k bs)(hx:l[k]?=some 47):Fp l (k+1) (k+1) (bs++one_ ((l.drop f).take (k - f))):=by
 have hk:=(Af.1 hx).1;rcases h with⟨h1,h2,h3,h4,h5⟩|⟨h1,h2⟩
 ·have e:l.take (k+1)=l.take f++(l.drop f).take (k - f)++[47]:=by rw[List.take_add_one,hx,X7 h2];rfl
  refine .inl ⟨hk,B7 _, .inr ⟨_,e⟩,by simp,?_⟩;rw[e,fD h3 h4,h5]
 omega
theorem fL{l:Bs}{f:Nat}{bs:List Bs}(h:Fp l f l.length bs):Fp l (l.length+1) (l.length+1) (bs++one_ ((l.drop f).take (l.length - f))):=by
 rcases h with⟨h1,h2,h3,h4,h5⟩|⟨h1,h2⟩
 ·refine .inr ⟨rfl,?_⟩;have e:=X7 (l:=l) h2;rw[List.take_length]at e;have h6:=X6 h3 h4;rw[←e]at h6;rw[h5];exact h6.symm
 omega
theorem fM(l:Bs):Fp l 0 0 []:= .inl ⟨BE _,B7 _, .inl rfl,by simp,by simp[OD]⟩
theorem RL{l:Bs}{f k:Nat}{bs:List Bs}(h:Fp l f k bs)(hk:l.length<k):bs=DW l:=by
 rcases h with⟨h1,_⟩|⟨_,h2⟩
 ·omega
 exact h2
theorem fN{p:Bs}(h:p≠[]):one_ p=[p]:=if_neg h
theorem fO(s:ByteArray){f k:Nat}(h:f<k)(hk:k≤s.size):(s.data.toList.drop f).take (k - f)≠[]:=by
 intro e;have:=congrArg List.length e;rw[Lib.size_eq]at hk;simp at this;simp at hk;omega
theorem fP(s:ByteArray)(h:0<s.size):decide (s.data.toList.head?=some 47)=(((s[0]'h).toNat:Int)==47):=by
 rw[Ta];have:s.data.toList.head?=some (s[0]'h):=by rw[List.head?_eq_getElem?];exact Lib.data_getElem? s 0 h
 rw[this];simp
theorem fQ(s:ByteArray)(h:0<s.size):decide (s.data.toList.getLast?=some 47)=(((s[s.size - 1]'(by omega)).toNat:Int)==47):=by
 rw[Ta];have:s.data.toList.getLast?=some (s[s.size - 1]'(by omega)):=by rw[List.getLast?_eq_getElem?,←Lib.size_eq];exact Lib.data_getElem? s _ (by omega)
 rw[this];simp
theorem fR{s:ByteArray}{a k a' k':Nat}{ss:List AF}(h:Fp s.data.toList a' k' (CY ss++one_ ((s.data.toList.drop a).take (k - a))))(ho:one_ ((s.data.toList.drop a).take (k - a))=[(s.data.toList.drop a).take (k - a)]):Fp s.data.toList a' k' (CY (ss++[s.extract a k])):=by
 rw[ho]at h
 have:CY (ss++[s.extract a k])=CY ss++[(s.data.toList.drop a).take (k - a)]:=by
  rw[←Lib.extract_data];simp[CY]
 rw[this];exact h
theorem fS{s:ByteArray}{a k a' k':Nat}{bs:List Bs}(h:Fp s.data.toList a' k' (bs++one_ ((s.data.toList.drop a).take (k - a))))(ho:k≤a):Fp s.data.toList a' k' bs:=by
 rw[show k - a=0 by omega]at h
 simpa[one_]using h
theorem X8(s:ByteArray):s.toList=s.data.toList:=Lib.toList_data s
theorem fT(s:ByteArray):(s.toList==[46])=decide (s.data.toList=[46]):=by rw[X8,Bool.eq_iff_iff];simp
theorem fU(s:ByteArray):(s.toList==[46,46])=decide (s.data.toList=[46,46]):=by rw[X8,Bool.eq_iff_iff];simp
theorem X9(s:AF):Hs s=Fn s.data.toList:=by
 have hs:=Lib.size_eq s;rw[Bool.eq_iff_iff,RG];unfold Hs;by_cases h1:s.size<1∨12<s.size
 ·rw[if_pos h1];constructor
  ·intro h;cases h
  rintro⟨h2,h3,_⟩;have:0<s.data.toList.length:=List.length_pos_iff.2 h2;omega
 rw[if_neg h1,fT,fU];have hne:s.data.toList≠[]:=by intro e;rw[e]at hs;change s.size=0 at hs;omega
 by_cases h2:s.data.toList=[46]
 ·rw[if_pos (decide_eq_true h2)];constructor
  ·intro h;cases h
  exact fun h=>absurd h2 h.2.2.1
 rw[if_neg (by simpa using h2)];by_cases h3:s.data.toList=[46,46]
 ·rw[if_pos (decide_eq_true h3)];constructor
  ·intro h;cases h
  exact fun h=>absurd h3 h.2.2.2.1
 rw[if_neg (by simpa using h3),List.all_eq_true]
 have hb:∀c:UInt8,Lz c=true↔c≠0∧c≠47:=by
  intro c;unfold Lz;rw[Bool.and_eq_true,Ta]
  have:((c.toNat:Int)==0)=decide (c=0):=by
   rw[Bool.eq_iff_iff,beq_iff_eq,decide_eq_true_iff];constructor
   ·intro h;apply UInt8.toNat_inj.1;have:(0:UInt8).toNat=0:=rfl;omega
   rintro rfl;rfl
  rw[this];simp
 constructor
 ·intro h;exact⟨hne,by omega,h2,h3,fun h0=>((hb _).1 (h _ h0)).1 rfl,fun h0=>((hb _).1 (h _ h0)).2 rfl⟩
 rintro⟨_,_,_,_,h0,h47⟩ c hc;exact(hb c).2 ⟨fun e=>h0 (e ▸ hc),fun e=>h47 (e ▸ hc)⟩
theorem fV(ps:List Bs)(p:Bs→Bool):(EA (ps.filter p)).length≤(EA ps).length:=by
 induction ps with
 |nil=>simp
 |cons q ps ih=>
   rw[List.filter_cons];split
   ·rw[LX,LX];simp;omega
   rw[LX];simp;omega
theorem fW(ps:List Bs)(k:Nat):(EA (ps.take k)).length≤(EA ps).length:=by
 conv=>rhs;rw[←List.take_append_drop k ps,TX]
 simp
theorem Tc(l:Bs):(EA (DW l)).length≤l.length+1:=by
 have:=fV (Cy l) ne_;rw[X4]at this
 simpa[DW]using this
theorem fX{l p:Bs}(h:p∈DW l):p.length≤l.length:=by
 have h1:=Tc l;obtain⟨a,b,e⟩:=List.append_of_mem h;rw[e,TX,LX]at h1;simp at h1;omega
end Go.Proofs.YtbgnigjfkbmceaaGreatDoor
namespace Go.Proofs.YtbgnigjfkbmceaaGreatDoor
open Go.RowKit
section
def Old(w:World):Nat→Prop:=fun b=>b<w.heap.size
theorem TB{B:Nat}{a w:World}(h:Below B a w)(n:Nat):Below B a (w.drewN n):=⟨h.os,h.tape,h.output,h.size,h.block⟩
def Hu(at_:AD):Value:= .agg #[.int .i64 at_.1, .int .i64 at_.2]
theorem NR{a b:Bool}(h:a=b):Ending.returned (.bool a)= .returned (.bool b):=by rw[h]
theorem Mm{w:World}{g:Nat}{cs:Array Value}{t:TypeId}{fz:Nat×Nat}(h:w.heap[g]?=some (.cells cs t fz))(i:Nat):w.cell? ⟨g,i,none⟩=cs[i]?:=by
 simp[World.cell?,h]
theorem TD{w:World}{g:Nat}{cs:Array Value}{t:TypeId}(h:w.heap[g]?=some (.cells cs t (0,0)))(i:Nat):w.frozen? ⟨g,i,none⟩=false:=by
 simp[World.frozen?,h]
theorem Ha{w:World}{b:Nat}{o:Obj}(h:w.heap[b]?=some o)(o':Obj):(w.alloc o').heap[b]?=some o:=by
 have hb:b<w.heap.size:=by
  rcases Nat.lt_or_ge b w.heap.size with hlt|hge
  ·exact hlt
  rw[Array.getElem?_eq_none hge]at h;cases h
 exact(Below.heap_alloc w o' b hb).trans h
theorem GQ{w:World}{g:Nat}{cs:Array Value}{t:TypeId}(h:w.heap[g]?=some (.cells cs t (0,0))):(∀i,w.cell? ⟨g,i,none⟩=cs[i]?)∧(∀i,w.frozen? ⟨g,i,none⟩=false):=
 ⟨fun i=>Mm h i,fun i=>TD h i⟩
theorem O8{w:World}{b:Nat}{cs:Array Value}{t:TypeId}{fz:Nat×Nat}(h:w.heap[b]?=some (.cells cs t fz))(i:Nat)(u:Value):(w.setCell ⟨b,i,none⟩ u).heap[b]?=some (.cells (cs.setIfInBounds i u) t fz):=by
 simp[World.setCell,Array.getElem?_modify,h]
theorem NT{w:World}{b:Nat}{o:Obj}(h:w.heap[b]?=some o){p:Addr}(hp:b≠p.block)(u:Value):(w.setCell p u).heap[b]?=some o:=(Below.heap_setCell w p u b hp).trans h
theorem Fb{w w':World}{b B:Nat}{o:Obj}(h:w.heap[b]?=some o)(hg:Below B w w')(hb:b<B):w'.heap[b]?=some o:=(hg.block b hb).trans h
theorem LW(w:World)(o1:Obj):Below w.heap.size w (w.alloc o1):=by
 exact(Below.refl _ w).alloc (B7 _) _
theorem TE(w:World)(o1:Obj):(w.alloc o1).heap.size=w.heap.size+1:=by simp
theorem O9(w:World)(o1:Obj):(w.alloc o1).heap[w.heap.size]?=some o1:=(by have:=heap_alloc_new w o1;simpa using this)
theorem NU(w:World)(o1 o2:Obj):Below w.heap.size w ((w.alloc o1).alloc o2):=by
 exact(LW w o1).alloc (by simp<;>omega) _
theorem OA(w:World)(o1 o2:Obj):((w.alloc o1).alloc o2).heap[w.heap.size]?=some o1:=Ha (O9 w o1) _
theorem OB(w:World)(o1 o2:Obj):((w.alloc o1).alloc o2).heap[w.heap.size+1]?=some o2:=(by have:=heap_alloc_new (w.alloc o1) o2;simpa using this)
theorem PA(w:World)(o1 o2 o3:Obj):Below w.heap.size w (((w.alloc o1).alloc o2).alloc o3):=by
 exact(NU w o1 o2).alloc (by simp<;>omega) _
theorem TF(w:World)(o1 o2 o3:Obj):(((w.alloc o1).alloc o2).alloc o3).heap[w.heap.size]?=some o1:=Ha (OA w o1 o2) _
theorem PB(w:World)(o1 o2 o3:Obj):(((w.alloc o1).alloc o2).alloc o3).heap[w.heap.size+1]?=some o2:=Ha (OB w o1 o2) _
theorem TG(w:World)(o1 o2 o3:Obj):(((w.alloc o1).alloc o2).alloc o3).heap[w.heap.size+1+1]?=some o3:=(by have:=heap_alloc_new ((w.alloc o1).alloc o2) o3;simpa using this)
theorem Wj(w:World)(o1 o2 o3 o4:Obj):Below w.heap.size w ((((w.alloc o1).alloc o2).alloc o3).alloc o4):=by
 exact(PA w o1 o2 o3).alloc (by simp<;>omega) _
theorem Wk(w:World)(o1 o2 o3 o4:Obj):((((w.alloc o1).alloc o2).alloc o3).alloc o4).heap[w.heap.size+1]?=some o2:=Ha (PB w o1 o2 o3) _
theorem Wl(w:World)(o1 o2 o3 o4:Obj):((((w.alloc o1).alloc o2).alloc o3).alloc o4).heap[w.heap.size+1+1+1]?=some o4:=(by have:=heap_alloc_new (((w.alloc o1).alloc o2).alloc o3) o4;simpa using this)
structure Moves(own:Nat→Prop)(B:Nat)(X Y:World):Prop where
 os:Y.os=X.os
 tape:Y.tape=X.tape
 output:Y.output=X.output
 size:X.heap.size≤Y.heap.size
 block:∀k,k<X.heap.size→¬own k→(k<B∨∃o:Obj,X.heap[k]?=some o∧o.isCells=true)→Y.heap[k]?=X.heap[k]?
section
variable {own:Nat→Prop}{B:Nat}{X Y Z:World}
theorem Moves.mono(h:Moves own B X Y){B':Nat}(hB:B'≤B):Moves own B' X Y:=
 ⟨h.os,h.tape,h.output,h.size,fun i hi ho hb=>h.block i hi ho (by
  rcases hb with hb|hb
  ·exact .inl (Nat.lt_of_lt_of_le hb hB)
  exact .inr hb)⟩
theorem Moves.below(h:Below X.heap.size X Y):Moves own B X Y:=⟨h.os,h.tape,h.output,h.size,fun i hi _ _=>h.block i hi⟩
theorem Moves.grown{g:Nat}(h:X.grownBy Y (some g))(hg:own g):Moves own B X Y:=
 ⟨h.os,h.tape,h.output,h.size,fun i hi ho _=>h.block i hi (fun e=>ho (by injection e with e;rw[e];exact hg))⟩
theorem Moves.set_(X:World){b:Nat}(hb:own b)(v:Value):Moves own B X (X.setCell ⟨b,0,none⟩ v):=Moves.grown (grownBy_setCell' X b v) hb
theorem Moves.put_{l:Nat}{o:Obj}(o':Obj)(hl:X.heap[l]?=some o)(ho:o.isCells=false)(hB:B≤l):Moves own B X (X.putObj l o'):=
 have h:=grownBy_putObj' X l o'
 ⟨h.os,h.tape,h.output,h.size,fun i hi _ hb=>h.block i hi (fun e=>by
  injection e with e;subst e;rcases hb with hb|⟨o2,h1,h2⟩
  ·omega
  rw[hl]at h1;injection h1 with h1;subst h1;rw[ho]at h2;cases h2)⟩
theorem Moves.boxed(h:Moves own B X Y){b:Nat}{t:TypeId}{v:Value}(hb:Boxed X b t v)(hn:¬own b):Boxed Y b t v:=
 (h.block b hb.lt hn (.inr ⟨_,hb,rfl⟩)).trans hb
theorem Moves.under(h:Moves own B X Y){n₀:Nat}{w:World}(hb:Below n₀ w X)(hn:n₀≤w.heap.size)(ho:∀b,own b→n₀≤b)(hB:n₀≤B):Below n₀ w Y:=
 ⟨h.os.trans hb.os,h.tape.trans hb.tape,h.output.trans hb.output,Nat.le_trans hb.size h.size,fun i hi=>by
  refine(h.block i (by have:=hb.size;omega) (fun e=>?_) (.inl (by omega))).trans (hb.block i hi);have:=ho i e
  omega⟩
end
theorem RM{B:Nat}{X Y:World}(h:Below X.heap.size X Y):KeepsFrom B X Y:=⟨h.size,fun k _ _ hk _=>(h.block k (Array.getElem?_eq_some_iff.1 hk).1).trans hk⟩
theorem XA{B:Nat}{X Y:World}(h:KeepsFrom B X Y){b:Nat}(hb:b<B)(v:Value):KeepsFrom B X (Y.setCell ⟨b,0,none⟩ v):=
 h.trans (KeepsFrom.of_grownBy (grownBy_setCell' Y b v) (fun j e=>by cases e;exact hb))
theorem RN{W:World}{b D:Nat}{t:TypeId}{v:Value}(h:Boxed W b t v)(hne:b≠D)(o:Obj):Boxed (W.putObj D o) b t v:=h.kept (grownBy_putObj' W D o) (fun e=>hne (by injection e))
theorem RO{B:Nat}{w W:World}(h:Below B w W){D:Nat}(hD:B≤D)(o:Obj):Below B w (W.putObj D o):=
 have g:=grownBy_putObj' W D o
 ⟨g.os.trans h.os,g.tape.trans h.tape,g.output.trans h.output,Nat.le_trans h.size g.size,fun k hk=>(World.putObj_heap_other (by omega)).trans (h.block k hk)⟩
theorem NZ{P:Program}{n m f:Nat}{args:Array Value}{w:World}{R:Ending→World→Prop}(h:CallsIn Fence.wide m P f args w R):
    Fence.wide.fn f∧(Fence.wide.depth.isSome=true→1≤n)∧CallsIn Fence.wide m P f args w R:=⟨trivial,(fun h=>by cases h),h⟩
def RP{α:Type}(F:Fence)(n:Nat)(P:Program)(g:Nat)(lb:Array Value)(encs:α→Array Value)(own:Nat→Prop)(Kp:World→World→Prop)(Pf:List α→Prop)(S Sp:List α→Prop)(w:World):Prop:=
 ∀(l:Nat) (J Jx:List α→World→Prop) (W:World),Below w.heap.size w W→
  (∀s X Y,J s X→Moves own W.heap.size X Y→J s Y)→(∀s X Y,Jx s X→Moves own W.heap.size X Y→Jx s Y)→
  (∀pre x W1,J pre W1→Pf (pre++[x])→YieldAt F (n - 1) P l (encs x) W1 fun e W'=>
    (e= .returned (.bool true)∧J (pre++[x]) W'∧Kp W1 W')∨(e= .returned (.bool false)∧Jx (pre++[x]) W'))→
  J [] W→
  CallsIn F n P g (#[.func (.yield l) #[] #[]]++lb) W fun e W'=>(∃v,e= .returned v)∧((∃xs,S xs∧J xs W')∨(∃pre,Sp pre∧Jx pre W'))
variable {F:Fence}{n:Nat}{P:Program}
theorem fY{α:Type}{g:Operand}{ps:Array Tmp}{assign body:Code}{Q:Exit→Act→World→Prop}{a:Act}{w:World}
    (hro:F.round=none) (h1:1≤n) {gf:Nat} {lb:Array Value} (hg:a.eval g= .func (.func gf) #[] lb) (hFg:F.fn gf) (eg:∀args w,(callFunc gf args).run P w= .ok (.enter gf args) w)
    {encs:α→Array Value} {own:Nat→Prop} {Kp:World→World→Prop} {Pf:List α→Prop} {S Sp:List α→Prop} {w0:World} (hseq:RP F (n - 1) P gf lb encs own Kp Pf S Sp w0)
    (hown:∀b,own b→b<w.heap.size) (hKt:∀{A B C:World},Kp A B→Kp B C→Kp A C) (hKb:∀(W:World) (l:Nat) (o o':Obj),w.heap.size≤l→W.heap[l]?=some o→o.isCells=false→Kp W (W.putObj l o'))
    (hb0:Below w0.heap.size w0 w) (hps:∀x,(encs x).size=ps.size)
    (I:List α→World→Prop) (Ix:Code→List α→World→Prop) (hI:∀s X Y,I s X→Moves own w.heap.size X Y→I s Y) (hIx:∀c s X Y,Ix c s X→Moves own w.heap.size X Y→Ix c s Y) (h0:I [] w) (a₁:α→Act)
    (hassign:∀(l:Nat) (x:α) (W:World) (K:Act→World→Prop),K (a₁ x) W→
      assign.wpIn (F.inRound l) (n - 1 - 1) P (Exit.then K (fun _ _ _=>False)) {tmps:=(ps.zip (encs x)).foldl (fun t (p,v)=>t.setIfInBounds p v) a.tmps,defers:=[]} W)
    (hbody:∀(l:Nat) (pre:List α) (x:α) (W:World),I pre W→Pf (pre++[x])→w.heap.size+2≤W.heap.size→body.wpIn (F.inRound l) (n - 1 - 1) P (ownPostG w.heap.size Kp I Ix (pre++[x]) W) (a₁ x) W)
    (hdone:∀(D:Nat) (xs:List α) (W:World),w.heap.size≤D→S xs→I xs W→W.heap[D]?=some (.deferred (some []))→Q .normal {a with defers:={target:= .collected D,args:=#[]}::a.defers} W)
    (hstop:∀(D:Nat) (c:Code) (pre:List α) (W:World),w.heap.size≤D→Sp pre→Ix c pre W→W.heap[D]?=some (.deferred (some []))→c.wpIn F n P Q {a with defers:={target:= .collected D,args:=#[]}::a.defers} W):
    (Code.rangeFunc g ps assign body).wpIn F n P Q a w:=by
 refine wpIn_rangeFunc ?_;intro fn hfn;rw[hro];obtain⟨rec,hrec⟩:∃rec:LoopState→Option Code→Loop,rec=fun st pe=>{state:=st,pending:=pe,fn,tmps:=a.tmps,params:=ps,assign,body,defers:=w.heap.size}:=⟨_,rfl⟩;obtain⟨W1,hW1⟩:∃W1,(w.alloc (.deferred (some []))).alloc (.loop (rec .ready none))=W1:=⟨_,rfl⟩;have hbw:Below w.heap.size w W1:=by rw[←hW1];exact NU w _ _
 have hsz:W1.heap.size=w.heap.size+2:=by rw[←hW1];simp
 have hL1:W1.heap[w.heap.size+1]?=some (.loop (rec .ready none)):=by rw[←hW1];exact OB _ _ _
 have hK1:W1.heap[w.heap.size]?=some (.deferred (some [])):=by rw[←hW1];exact OA _ _ _
 have hn0:¬own w.heap.size:=fun h=>by have:=hown _ h;omega
 have hn1:¬own (w.heap.size+1):=fun h=>by have:=hown _ h;omega
 refine⟨w.heap.size+1,[{target:= .collected w.heap.size,args:=#[]}],W1,{target:= .fn (.func gf) lb,args:=#[.func (.yield (w.heap.size+1)) #[] #[]]},W1,gf,
  #[.func (.yield (w.heap.size+1)) #[] #[]]++lb,W1,?_,?_,?_,?_,fun _=>h1,?_⟩
 ·rw[←hW1,hrec];exact run_enterLoop_outer _ _ _ _ _
 ·simp only[resolve,hg];simp[go_sem]
 ·intro f' hf';simp[Target.leads]at hf';subst hf';exact hFg
 ·simp[invoke,go_sem,eg]
 have lt_of:∀{W:World} {k:Nat} {o:Obj},W.heap[k]?=some o→k<W.heap.size:=fun h=>(Array.getElem?_eq_some_iff.1 h).1;have keep:∀{X Y:World} {k:Nat} {o:Obj},Moves own W1.heap.size X Y→X.heap[k]?=some o→k<W1.heap.size→¬own k→Y.heap[k]?=some o:=fun hm hx hk hn=>(hm.block _ (lt_of hx) hn (.inl hk)).trans hx
 refine(hseq (w.heap.size+1)
  (fun pre W=>I pre W∧W.heap[w.heap.size+1]?=some (.loop (rec .ready none))∧W.heap[w.heap.size]?=some (.deferred (some [])))
  (fun pre W=>∃c,Ix c pre W∧W.heap[w.heap.size+1]?=some (.loop (rec .done (some c)))∧W.heap[w.heap.size]?=some (.deferred (some [])))
  W1 (hb0.trans (hbw.mono hb0.size))
  (fun s X Y hs hm=>⟨hI s X Y hs.1 (hm.mono (by omega)),keep hm hs.2.1 (by omega) hn1,keep hm hs.2.2 (by omega) hn0⟩)
  (fun s X Y hs hm=>by
    obtain⟨c,hc,hl,hk⟩:=hs
    exact⟨c,hIx c s X Y hc (hm.mono (by omega)),keep hm hl (by omega) hn1,keep hm hk (by omega) hn0⟩)
  ?_ ⟨hI _ _ _ h0 (.below hbw),hL1,hK1⟩).mono ?_
 ·rintro pre x W ⟨hi,hl,hk⟩ hpf;have hlt:w.heap.size+1<W.heap.size:=lt_of hl;have hy:=run_yield (P:=P) (args:=encs x) hl (by rw[hrec];exact hps x);rw[hrec]at hy;refine⟨fn,_,assign,body,hy,roundIn_of_wpIn hfn (hassign _ x W _ ⟨_,run_beginRound hl (by rw[hrec]),?_⟩)⟩;have hl2:(W.putObj (w.heap.size+1) (.loop {rec .ready none with state:= .busy})).heap[w.heap.size+1]?=some (.loop {rec .ready none with state:= .busy}):=World.putObj_heap_same hlt;have hk2:(W.putObj (w.heap.size+1) (.loop {rec .ready none with state:= .busy})).heap[w.heap.size]?=some (.deferred (some [])):=(World.putObj_heap_other (by omega)).trans hk;have hw2:Kp W (W.putObj (w.heap.size+1) (.loop {rec .ready none with state:= .busy})):=hKb _ _ _ _ (by omega) hl rfl;refine wpIn_mono (hbody _ pre x _ (hI _ _ _ hi (.put_ _ hl rfl (by omega))) hpf (lt_of hl2)) ?_
  have fin:∀(jump:Option Code) (W3:World),KeepsFrom w.heap.size (W.putObj (w.heap.size+1) (.loop {rec .ready none with state:= .busy})) W3→
      (Instr.endRound (w.heap.size+1) jump).run P W3= .ok (.bool jump.isNone) (W3.putObj (w.heap.size+1) (.loop (rec (if jump.isNone then .ready else .done) jump)))∧
      W3.heap[w.heap.size+1]?=some (.loop {rec .ready none with state:= .busy})∧
      (W3.putObj (w.heap.size+1) (.loop (rec (if jump.isNone then .ready else .done) jump))).heap[w.heap.size+1]?=some (.loop (rec (if jump.isNone then .ready else .done) jump))∧
      (W3.putObj (w.heap.size+1) (.loop (rec (if jump.isNone then .ready else .done) jump))).heap[w.heap.size]?=some (.deferred (some [])):=fun jump W3 hk3=>by
   have hl3:=hk3.same _ _ (by omega) hl2 rfl;have:=run_endRound (P:=P) jump hl3;rw[hrec]at this ⊢;exact⟨this,by rw[hrec]at hl3;exact hl3,World.putObj_heap_same (lt_of hl3),(World.putObj_heap_other (by omega)).trans (hk3.same _ _ (B7 _) hk2 rfl)⟩
  rintro e a3 W3 hp
  cases e with
  |normal=>
    obtain⟨hk3,hkp3,hi3⟩:=hp;obtain⟨hr,hl3,hl4,hk4⟩:=fin none W3 hk3;exact⟨_,_,hr, .inl ⟨rfl,⟨hI _ _ _ hi3 (.put_ _ hl3 rfl (by omega)),hl4,hk4⟩,hKt (hKt hw2 hkp3) (hKb _ _ _ _ (by omega) hl3 rfl)⟩⟩
  |ret=>
    obtain⟨hk3,hi3⟩:=hp;obtain⟨hr,hl3,hl4,hk4⟩:=fin (some .ret) W3 hk3;exact⟨_,_,hr, .inr ⟨rfl, .ret,hIx _ _ _ _ hi3 (.put_ _ hl3 rfl (by omega)),hl4,hk4⟩⟩
  |exit id=>
    obtain⟨hk3,hi3⟩:=hp;obtain⟨hr,hl3,hl4,hk4⟩:=fin (some (.exit id)) W3 hk3;exact⟨_,_,hr, .inr ⟨rfl, .exit id,hIx _ _ _ _ hi3 (.put_ _ hl3 rfl (by omega)),hl4,hk4⟩⟩
  |goto t=>
    obtain⟨hk3,hi3⟩:=hp;obtain⟨hr,hl3,hl4,hk4⟩:=fin (some (.goto t)) W3 hk3;exact⟨_,_,hr, .inr ⟨rfl, .goto t,hIx _ _ _ _ hi3 (.put_ _ hl3 rfl (by omega)),hl4,hk4⟩⟩
  |panic ch=>exact hp.elim
  |outgrown=>exact hp.elim
 rintro e W2 ⟨⟨v,rfl⟩,(⟨xs,hS,hi,hl,hk⟩|⟨pre,hSp,c,hi,hl,hk⟩)⟩
 ·exact⟨none,_,by have:=run_endLoop (P:=P) hl (by rw[hrec];simp);rw[hrec]at this;exact this,hdone _ xs _ (B7 _) hS (hI _ _ _ hi (.put_ _ hl rfl (by omega))) ((World.putObj_heap_other (by omega)).trans hk)⟩
 exact⟨some c,_,by have:=run_endLoop (P:=P) hl (by rw[hrec];simp);rw[hrec]at this;exact this,hstop _ c pre _ (B7 _) hSp (hIx _ _ _ _ hi (.put_ _ hl rfl (by omega))) ((World.putObj_heap_other (by omega)).trans hk)⟩
end
theorem XB{P:Program}{f:FuncId}{xs:List AV}{R:AV}(h:AFn P f xs fun r=>r=R){w:World}{N:Nat}{vs:List Value}(hN:N≤w.heap.size)(hv:Ba (fun b _=>b<N) w xs vs):
    Calls P f vs.toArray w fun e w'=>∃(v:Value) (G':Gh),e= .returned v∧rep G' w' R v∧Below w.heap.size w w':=by
 refine Calls.mono (h w (fun b _=>b<N) [] vs (VZ (fun b o hb=>Nat.lt_of_lt_of_le hb hN)) (MP _ _ hv)) ?_;intro e w' h3
 cases e with
 |returned v=>
   obtain⟨r,b,t,G',⟨_,_,rfl⟩,k2,_,k4⟩:=h3;have k:=k2.kept;exact⟨v,G',rfl,k4,⟨k.os,k.tape,k.output,k.size,fun i hi=>k.block i hi (by simp)⟩⟩
 |panicked c=>exact h3.elim
 |outgrown=>exact h3.elim
def SpcIn(s:Spc)(N:Nat)(w:World)(ds ms:Value):Prop:=N≤w.heap.size∧Ba (fun b _=>b<N) w (AW s) [ds,ms]
theorem SpcIn.keep{s:Spc}{N:Nat}{w w':World}{ds ms:Value}(h:SpcIn s N w ds ms)(hs:w.heap.size≤w'.heap.size)(hb:∀b,b<N→w'.heap[b]?=w.heap[b]?):SpcIn s N w' ds ms:=
 ⟨Nat.le_trans h.1 hs,N2 (fun b o hN=>⟨hN,World.cell?_of_block (w:=w) (a:=⟨b,o,none⟩) (hb b hN)⟩) _ _ h.2⟩
theorem SpcIn.below{s:Spc}{N B:Nat}{w w':World}{ds ms:Value}(h:SpcIn s N w ds ms)(hb:Below B w w')(hN:N≤B):SpcIn s N w' ds ms:=
 h.keep hb.size fun b hbN=>hb.block b (Nat.lt_of_lt_of_le hbN hN)
section
variable {s:Spc}{N:Nat}{w:World}{ds ms:Value}(h:SpcIn s N w ds ms)(hs:SpcB s)
include h hs
theorem fZ(a:AD):Calls prog 169 #[.agg #[ds],Hu a] w fun e w'=>
    (∃(A:Option Addr) (m c:Nat),e= .returned (.tuple #[.agg #[.int .i64 (Ag s.files a).ino, .int .i64 (Ag s.files a).kind, .int .i64 (Ag s.files a).mode, .int .i64 (Ag s.files a).uid, .int .i64 (Ag s.files a).gid, .int .i64 (Ag s.files a).parent, .string (Ag s.files a).target, .slice A m c], .bool (Dy s.files a)]))∧Below w.heap.size w w':=by
 have h2:=h.2;simp only[AW,Ba]at h2;obtain⟨z,zs,e1,h3,_⟩:=h2;obtain⟨rfl,rfl⟩:=List.cons.inj e1;refine(XB (Wd s.files a hs.files) (vs:=[.agg #[ds],Hu a]) h.1 ?_).mono ?_
 ·simp only[Ba,At,Au,AB,Hu];exact⟨_,_,rfl,⟨[ds],rfl,ds,[],rfl,by simpa only[At]using h3,rfl⟩,_,_,rfl,⟨[.int .i64 a.1, .int .i64 a.2],rfl,_,_,rfl,rfl,_,_,rfl,rfl,rfl⟩,rfl⟩
 rintro e w' ⟨v,G',rfl,hr,hb⟩;refine⟨?_,hb⟩;simp only[rep,AN,AZ,At]at hr;obtain⟨ys,rfl,z1,zs1,rfl,⟨ys2,rfl,_,_,rfl,rfl,_,_,rfl,rfl,_,_,rfl,rfl,_,_,rfl,rfl,_,_,rfl,rfl,_,_,rfl,rfl,_,_,rfl,rfl,_,_,rfl,⟨_,A,c,rfl,_⟩,rfl⟩,_,_,rfl,rfl,rfl⟩:=hr;exact⟨A,_,c,rfl⟩
theorem g7(xs:List AV)(vs:List Value)(hx:Ba (fun b _=>b<N) w xs vs):Ba (fun b _=>b<N) w (.agg (AW s)::xs) (.agg #[ds,ms]::vs):=by
 have _:=hs;simp only[Ba];refine⟨_,_,rfl,?_,hx⟩;simp only[At];exact⟨[ds,ms],rfl,h.2⟩
theorem g8(d:Int):Ba (fun b _=>b<N) w [.agg (AW s), .v (.int .i64 d)] [.agg #[ds,ms], .int .i64 d]:=by
 refine g7 h hs _ _ ?_;simp only[Ba,At];exact⟨_,_,rfl,rfl,rfl⟩
theorem g9(d:Int):Calls prog 229 #[.agg #[ds,ms], .int .i64 d] w fun e w'=>
    e= .returned (.tuple #[Hu ((C1 s d).getD (0,0)), .bool (C1 s d).isSome])∧Below w.heap.size w w':=by
 refine(XB (d8 s d hs) (vs:=[.agg #[ds,ms], .int .i64 d]) h.1 (g8 h hs d)).mono ?_;rintro e w' ⟨v,G',rfl,hr,hb⟩;refine⟨?_,hb⟩;simp only[rep,AN,AB]at hr;obtain⟨ys,rfl,z1,zs1,rfl,⟨ys2,rfl,_,_,rfl,rfl,_,_,rfl,rfl,rfl⟩,_,_,rfl,rfl,rfl⟩:=hr;rfl
end
theorem SpcIn.devs{s:Spc}{N:Nat}{w:World}{ds ms:Value}(h:SpcIn s N w ds ms):∃A cap,ds= .slice A s.files.length cap∧s.files.length≤cap∧cap≤maxLen∧
    (0<s.files.length→∃b off,A=some ⟨b,off,none⟩∧b<N∧∀i d,s.files[i]?=some d→w.cell? ⟨b,off+i * 2,none⟩=some (.int .i64 d.next)∧∃A2 cap2,w.cell? ⟨b,off+i * 2+1,none⟩=some (.slice A2 d.nodes.length cap2)):=by
 have h2:=h.2;simp only[AW,Ba]at h2;obtain⟨z,zs,e1,h3,_⟩:=h2;obtain⟨rfl,rfl⟩:=List.cons.inj e1;simp only[At,List.length_map]at h3;obtain⟨_,A,cap,rfl,h4,h5,h6⟩:=h3;refine⟨A,cap,rfl,h4,h5,fun hpos=>?_⟩;rcases h6 with h6|⟨b,off,rfl,h6⟩
 ·simp at h6;rw[h6]at hpos;simp at hpos
 refine⟨b,off,rfl,?_,?_⟩
 ·obtain⟨_,h8⟩:=N4 h6 (i:=0) (r:=Cg (s.files[0]'hpos)) (by simp[hpos]);simp only[Cg,DP]at h8;exact h8.1.1
 intro i d hd;obtain⟨_,h8⟩:=N4 h6 (i:=i) (r:=Cg d) (by simp[hd]);simp only[Cg,DP,At,List.length_map]at h8;obtain⟨⟨_,u,h9,_,rfl⟩,⟨_,u2,h10,_,_,A2,cap2,rfl,_⟩,_⟩:=h8;exact⟨h9,A2,cap2,h10⟩
theorem gA(ds ms:Value)(a:AD)(w:World):
    Calls prog 170 #[.agg #[ds,ms],Hu a] w fun e w'=>
     e= .returned (.func (.func 228) #[] #[.pointer (some ⟨w.heap.size,0,none⟩), .pointer (some ⟨w.heap.size+1,0,none⟩)])∧
     w'=(w.alloc (.cells #[ds,ms] 42)).alloc (.cells #[.int .i64 a.1, .int .i64 a.2] 26):=by
 unfold Hu
 go_enter Tryz.func170,Tryz.ntmps170
 go_wp2
 go_ret
 exact⟨by simp,rfl⟩
end Go.Proofs.YtbgnigjfkbmceaaGreatDoor
namespace Go.Proofs.YtbgnigjfkbmceaaGreatDoor
open Go.RowKit Go.Shelf
attribute [local go_sem] Oper.semAt_some
theorem gB{n:Nat}{P:Program}{c:Code}{Q:Exit→Act→World→Prop}{a:Act}{w:World}(h:c.wpIn Fence.wide n P (Exit.noGoto Q) a w):(Code.scope c).wpIn Fence.wide n P Q a w:=
 wpIn_wide.2 (wp_scope_straight (wpIn_wide.1 h))
theorem Moves.setc{own:Nat→Prop}{B:Nat}(X:World){p:Addr}(hb:own p.block)(v:Value):Moves own B X (X.setCell p v):=
 have h:Below 0 X (X.setCell p v):=(Below.refl 0 X).setCell (BE _) v
 ⟨h.os,h.tape,h.output,h.size,fun k _ hk _=>Below.heap_setCell X p v k fun e=>hk (by rw[e];exact hb)⟩
def Gi(s:Spc)(a:AD):Option AD:=
 if(Ag s.files a).ino≠1 then some (a.1,(Ag s.files a).parent)
 else if a.1=0 then none else C1 s a.1
def C8(s:Spc):Nat→AD→List AD
 |0,_=>[]
 |k+1,a=>if Ac s.files a then a::(match Gi s a with
   |none=>[]
   |some b=>C8 s k b)else[]
def CR(f:AU):Nat:=(f.map fun d=>d.nodes.length).sum
def KeepC(N sb db:Nat)(X Y:World):Prop:=X.heap.size≤Y.heap.size∧Y.heap[sb]?=X.heap[sb]?∧Y.heap[db]?=X.heap[db]?∧(∀b,b<N→Y.heap[b]?=X.heap[b]?)∧
 ∀(b:Nat) (cs:Array Value),X.heap[b]?=some (.cells cs 151)→Y.heap[b]?=some (.cells cs 151)
theorem KeepC.trans{N sb db:Nat}{X Y Z:World}(h:KeepC N sb db X Y)(k:KeepC N sb db Y Z):KeepC N sb db X Z:=
 ⟨Nat.le_trans h.1 k.1,k.2.1.trans h.2.1,k.2.2.1.trans h.2.2.1,fun b hb=>(k.2.2.2.1 b hb).trans (h.2.2.2.1 b hb),fun b cs hb=>k.2.2.2.2 b cs (h.2.2.2.2 b cs hb)⟩
theorem gC{N sb db B:Nat}(hN:N≤B)(hs:sb<B)(hd:db<B)(W:World)(l:Nat)(o o':Obj)(hl:B≤l)(ho:W.heap[l]?=some o)(hc:o.isCells=false):KeepC N sb db W (W.putObj l o'):=
 ⟨(grownBy_putObj' W l o').size,World.putObj_heap_other (by omega),World.putObj_heap_other (by omega),fun b hb=>World.putObj_heap_other (by omega),fun b cs hb=>by
  refine(World.putObj_heap_other fun e=>?_).trans hb;subst e;rw[ho]at hb;injection hb with hb;subst hb
  cases hc⟩
theorem XC{N sb db:Nat}{X Y:World}(h:Below X.heap.size X Y)(hN:N≤X.heap.size)(hs:sb<X.heap.size)(hd:db<X.heap.size):KeepC N sb db X Y:=
 ⟨h.size,h.block _ hs,h.block _ hd,fun b hb=>h.block _ (by omega),fun b cs hb=>(h.block _ (Array.getElem?_eq_some_iff.1 hb).1).trans hb⟩
theorem XD{f:AU}(hf:FlsB f)(j:Nat):CR (f.take j)≤1000000:=by
 have:∀(l:AU),(∀d∈l,d.nodes.length≤1000)→CR l≤l.length * 1000:=by
  intro l
  induction l with
  |nil=>intro _;simp[CR]
  |cons d l ih=>
    intro h;have h1:=ih fun d hd=>h d (List.mem_cons_of_mem _ hd);have h2:=h d (List.mem_cons_self ..);simp only[CR,List.map_cons,List.sum_cons,List.length_cons]at h1 ⊢;omega
 have h1:=this (f.take j) fun d hd=>hf.nodes d (List.mem_of_mem_take hd);have h2:=hf.few;have h3:(f.take j).length≤f.length:=by simp;omega
 have:(f.take j).length * 1000≤1000 * 1000:=Nat.mul_le_mul_right _ (by omega);omega
theorem gD{f:AU}{j:Nat}{d:Dvc}(h:f[j]?=some d):CR (f.take (j+1))=CR (f.take j)+d.nodes.length:=by
 rw[List.take_add_one,h];simp[CR]
set_option maxRecDepth 100000 in
set_option maxHeartbeats 2000000 in
theorem gE(n:Nat)(s:Spc)(hs:SpcB s)(a0:AD)(N sb db:Nat)(ds ms:Value)(w:World)(h0:w.heap[sb]?=some (.cells #[ds,ms] 42))(h1:w.heap[db]?=some (.cells #[.int .i64 a0.1, .int .i64 a0.2] 26))
    (hS:SpcIn s N w ds ms) (hNs:N≤sb) (hNd:N≤db) (hne:sb≠db):
    RP Fence.wide n prog 228 #[.pointer (some ⟨sb,0,none⟩), .pointer (some ⟨db,0,none⟩)] (fun x:AD=>#[Hu x]) (fun b=>b=db) (KeepC N sb db) (fun xs=>xs<+:C8 s (CR s.files) a0)
     (fun xs=>xs=C8 s (CR s.files) a0) (fun pre=>pre<+:C8 s (CR s.files) a0) w:=fun l J Jx W hW hJ hJx hY hst=>by
 have lt_of:∀{W:World} {k:Nat} {o:Obj},W.heap[k]?=some o→k<W.heap.size:=fun h=>(Array.getElem?_eq_some_iff.1 h).1;have k0:W.heap[sb]?=some (.cells #[ds,ms] 42):=Fb h0 hW (lt_of h0);have k1:W.heap[db]?=some (.cells #[.int .i64 a0.1, .int .i64 a0.2] 26):=Fb h1 hW (lt_of h1);have kS:SpcIn s N W ds ms:=hS.below hW hS.1;obtain⟨A,cap,rfl,hcap,hcm,hdev⟩:=kS.devs;obtain⟨c0,f0⟩:=GQ k0;obtain⟨c1,f1⟩:=GQ k1;have hfew:=hs.files.few;have HD:=Lib.hid hdev;have HW:=Lib.hid hW;have HJ:=Lib.hid hJ;have HJx:=Lib.hid hJx;have HY:=Lib.hid hY;clear hdev hS hW hJ hJx hY h0 h1;refine callsIn_of_wp Tryz.func228 rfl trivial ?_ rfl;simp only[Tryz.ntmps228,List.size_toArray,List.length_cons,List.length_nil,Nat.reduceAdd,Nat.reduceSub,Array.replicate_succ,Array.replicate_zero,List.push_toArray,List.append_toArray,List.nil_append,List.cons_append]
 gi_wp2
 refine gB ?_
 gi_wp2
 gi_loopw [4,14] (fun t i wr=>∃j:Nat,j≤s.files.length∧i= .int .i64 j∧t= .int .i64 (CR (s.files.take j))∧Below W.heap.size W wr) (fun _ i _=>s.files.length - (intOf i).toNat)
 case atStart=>exact⟨0,BE _,rfl,rfl,Below.refl _ _⟩
 case round=>
  obtain⟨j,hj,rfl,rfl,hb⟩:=hrel;have hNW:=kS.1;by_cases hlt:j<s.files.length
  ·obtain⟨b,off,rfl,hbN,hrow⟩:=HD.out (by omega);obtain⟨r1,A2,cap2,r2⟩:=hrow j _ (B6 hlt);have r1':=(World.cell?_of_block (w:=W) (w':=wr) (a:=⟨b,off+j * 2,none⟩) (hb.block b (by omega))).trans r1;have r2':=(World.cell?_of_block (w:=W) (w':=wr) (a:=⟨b,off+j * 2+1,none⟩) (hb.block b (by omega))).trans r2;have hM:=XD hs.files j;have hL:=hs.files.nodes _ (List.getElem_mem hlt);have HE:=Lib.hid (gD (B6 hlt));generalize (s.files[j]).nodes.length=L at *;generalize (s.files[j]).next=nx at *;generalize CR (s.files.take j)=M at *;clear hrow r1 r2 hs
   gi_wp2
   go_roundw
   case rel=>exact⟨j+1,by omega,by go_num,by rw[HE.out];go_num,hb.alloc hb.size _⟩
   case measure=>simp[intOf];omega
  have ej:j=s.files.length:=by omega
  subst ej;have hM:=XD hs.files s.files.length;rw[List.take_length]at hM;rw[List.take_length];have k0':=Fb k0 hb (lt_of k0);have k1':=Fb k1 hb (lt_of k1);have kS':=kS.below hb hNW;have hJ0:J [] wr:=HJ.out _ _ _ hst (Moves.below hb)
  gi_wp2
  refine wpIn_label ?_
  gi_wp2
  clear c0 f0 c1 f1 k0 k1 kS hst;obtain⟨M,hM0⟩:∃M,CR s.files=M:=⟨_,rfl⟩;rw[hM0]at hM ⊢;have HM:=Lib.hid hM0;clear hM0
  gi_loopw [25] (fun i wr=>∃(j:Nat) (pre:List AD) (cur:AD),j≤M∧i= .int .i64 j∧J pre wr∧wr.heap[sb]?=some (.cells #[.slice A s.files.length cap,ms] 42)∧
   wr.heap[db]?=some (.cells #[.int .i64 cur.1, .int .i64 cur.2] 26)∧SpcIn s N wr (.slice A s.files.length cap) ms∧Hid (pre++C8 s (M - j) cur=C8 s M a0)) (fun i _=>M - (intOf i).toNat)
  case atStart=>exact⟨0,[],a0,BE _,rfl,hJ0,k0',k1',kS',rfl⟩
  case round=>
   obtain⟨j,pre,cur,hj,rfl,hJp,m0,m1,mS,hch⟩:=hrel;clear k0' k1' kS' hJ0;obtain⟨c0,f0⟩:=GQ m0;obtain⟨c1,f1⟩:=GQ m1;by_cases hlt:j<M
   ·have HC:Hid (C8 s (M - j) cur=if Ac s.files cur then cur::(match Gi s cur with
       |none=>[]
       |some b=>C8 s (M - (j+1)) b)else[]):=by
       rw[show M - j=(M - (j+1))+1 by omega];exact Lib.hid rfl
    gi_wp2_with fail
    refine NZ ((callsIn_wide.2 (fZ mS hs cur)).mono ?_);rintro e w1 ⟨⟨eA,em,ec,rfl⟩,hb1⟩;have HB1:=Lib.hid hb1;have HD1:=Lib.hid (M1 s.files cur);obtain⟨nd,hnd⟩:∃nd,Ag s.files cur=nd:=⟨_,rfl⟩;have HN:=Lib.hid hnd;obtain⟨hg,hhg⟩:∃hg,Dy s.files cur=hg:=⟨_,rfl⟩;have HH:=Lib.hid hhg;have n0:=Fb m0 hb1 (lt_of m0);have n1:=Fb m1 hb1 (lt_of m1);have nS:=mS.below hb1 mS.1;have hz:=hb1.size;clear c0 f0 c1 f1;obtain⟨c0,f0⟩:=GQ n0;obtain⟨c1,f1⟩:=GQ n1;rw[hnd,hhg];clear hb1 hnd hhg
    cases hg with
    |false=>
      have HE:Hid (C8 s (M - j) cur=[]):=Lib.hid (by rw[HC.out,HD1.out,HH.out];simp)
      gi_wp2
      refine⟨fun _ h=>(by cases h),?_⟩
      gi_wp2
      rw[Exit.noGoto_ret];refine bodyPost_ret (results_none rfl _ _ _) rfl ?_;exact⟨⟨_,rfl⟩, .inl ⟨pre,by rw[HM.out,←hch.out,HE.out];simp,HJ.out _ _ _ hJp (Moves.below (HB1.out.alloc hz _))⟩⟩
    |true=>
      by_cases hk:nd.kind=2
      ·have HE:Hid (C8 s (M - j) cur=cur::(match Gi s cur with
          |none=>[]
          |some b=>C8 s (M - (j+1)) b)):=Lib.hid (by rw[HC.out,HD1.out,HH.out,HN.out];simp[hk])
       obtain⟨W2,hW2⟩:∃W2,w1.alloc (.cells #[.int .i64 nd.ino, .int .i64 2, .int .i64 nd.mode, .int .i64 nd.uid, .int .i64 nd.gid, .int .i64 nd.parent, .string nd.target, .slice eA em ec] 151)=W2:=⟨_,rfl⟩;have hB2:Below wr.heap.size wr W2:=by rw[←hW2];exact HB1.out.alloc hz _
       have hJ2:J pre W2:=HJ.out _ _ _ hJp (Moves.below hB2);have q7:W2.heap[w1.heap.size]?=some (.cells #[.int .i64 nd.ino, .int .i64 2, .int .i64 nd.mode, .int .i64 nd.uid, .int .i64 nd.gid, .int .i64 nd.parent, .string nd.target, .slice eA em ec] 151):=by rw[←hW2];exact O9 _ _
       have q0:=Fb m0 hB2 (lt_of m0);have q1:=Fb m1 hB2 (lt_of m1);have qS:=mS.below hB2 mS.1;obtain⟨fn,tmps,assign,body,hy,hR⟩:=HY.out pre cur W2 hJ2 (by rw[HM.out,←hch.out,HE.out];exact⟨_,by rw[List.append_assoc];rfl⟩);rw[←hW2]at hy;unfold Hu at hy;have HH2:=Lib.hid hW2;clear hW2
       gi_wp2
       refine⟨(fun h=>by cases h),?_⟩;rw[HH2.out];refine hR.mono ?_;rintro e W3 (⟨rfl,hJ3,hk3⟩|⟨rfl,hJx3⟩)
       ·obtain⟨z0,z1,z2,z3,z4⟩:=hk3;have r0:=z1.trans q0;have r1:=z2.trans q1;have r7:=z4 _ _ q7;have rS:=qS.keep z0 z3;clear hy hR c0 f0 c1 f1 q0 q1 q7 qS;obtain⟨c0,f0⟩:=GQ r0;obtain⟨c1,f1⟩:=GQ r1;obtain⟨c7,f7⟩:=GQ r7;by_cases hi:nd.ino=1
        ·gi_wp2_with fail
         refine NZ ((callsIn_wide.2 (g9 rS hs cur.1)).mono ?_);rintro e w4 ⟨rfl,hb4⟩;have HP:=Lib.hid (show Gi s cur=if cur.1=0 then none else C1 s cur.1 by unfold Gi;rw[HN.out,if_neg (by simp[hi])]);obtain⟨pl,hpl⟩:∃pl,C1 s cur.1=pl:=⟨_,rfl⟩;rw[hpl];have HPL:=Lib.hid hpl;have s0:=Fb r0 hb4 (lt_of r0);have s1:=Fb r1 hb4 (lt_of r1);have sS:=rS.below hb4 rS.1;have sz:=hb4.size;have sJ:=HJ.out _ _ _ hJ3 (Moves.below hb4);clear c0 f0 c1 f1 c7 f7 hb4 hpl r0 r1 r7 rS;obtain⟨c0,f0⟩:=GQ s0;obtain⟨c1,f1⟩:=GQ s1;unfold Hu
         cases pl with
         |none=>
           have HS:Hid (Gi s cur=none):=Lib.hid (by rw[HP.out,HPL.out];split<;>rfl)
           gi_wp2
           rw[Exit.noGoto_ret];refine bodyPost_ret (results_none rfl _ _ _) rfl ?_;exact⟨⟨_,rfl⟩, .inl ⟨pre++[cur],by rw[HM.out,←hch.out,HE.out,HS.out],HJ.out _ _ _ sJ (Moves.below ((Below.refl _ _).alloc (B7 _) _))⟩⟩
         |some on=>
           by_cases hd:cur.1=0
           ·have HS:Hid (Gi s cur=none):=Lib.hid (by rw[HP.out,if_pos hd])
            gi_wp2
            rw[Exit.noGoto_ret];refine bodyPost_ret (results_none rfl _ _ _) rfl ?_;exact⟨⟨_,rfl⟩, .inl ⟨pre++[cur],by rw[HM.out,←hch.out,HE.out,HS.out],HJ.out _ _ _ sJ (Moves.below ((Below.refl _ _).alloc (B7 _) _))⟩⟩
           have HS:Hid (Gi s cur=some on):=Lib.hid (by rw[HP.out,if_neg hd,HPL.out])
           gi_wp2
           have t1:=Ha (O8 (O8 s1 0 (.int .i64 on.1)) 1 (.int .i64 on.2)) (.cells #[.int .i64 on.1, .int .i64 on.2] 26);have t0:=Ha (NT (NT s0 (p:=⟨db,0,none⟩) hne (.int .i64 on.1)) (p:=⟨db,1,none⟩) hne (.int .i64 on.2)) (.cells #[.int .i64 on.1, .int .i64 on.2] 26)
           have hb5:Below N w4 (((w4.setCell ⟨db,0,none⟩ (.int .i64 on.1)).setCell ⟨db,1,none⟩ (.int .i64 on.2)).alloc (.cells #[.int .i64 on.1, .int .i64 on.2] 26)):=
            (((Below.refl _ _).setCell hNd _).setCell hNd _).alloc (by simpa using sS.1) _
           refine⟨⟨j+1,pre++[cur],on,by omega,by go_num,?_,t0,by simpa using t1,sS.below hb5 (B7 _),Lib.hid ?_⟩,by simp[intOf];omega⟩
           ·exact HJ.out _ _ _ (HJ.out _ _ _ (HJ.out _ _ _ sJ (Moves.setc (own:=fun b=>b=db) (p:=⟨db,0,none⟩) _ rfl _)) (Moves.setc (own:=fun b=>b=db) (p:=⟨db,1,none⟩) _ rfl _)) (Moves.below ((Below.refl _ _).alloc (B7 _) _))
           rw[←hch.out,HE.out,HS.out];simp
        have HS:Hid (Gi s cur=some (cur.1,nd.parent)):=Lib.hid (by unfold Gi;rw[HN.out,if_pos hi])
        gi_wp2
        have m1':=O8 r1 1 (.int .i64 nd.parent);have m0':=NT r0 (p:=⟨db,1,none⟩) hne (.int .i64 nd.parent);have hb4:Below N W3 (W3.setCell ⟨db,1,none⟩ (.int .i64 nd.parent)):=(Below.refl _ _).setCell hNd _;refine⟨⟨j+1,pre++[cur],(cur.1,nd.parent),by omega,by go_num,HJ.out _ _ _ hJ3 (Moves.setc (own:=fun b=>b=db) (p:=⟨db,1,none⟩) _ rfl _),m0',by simpa using m1',rS.below hb4 (B7 _),Lib.hid ?_⟩,by simp[intOf];omega⟩;rw[←hch.out,HE.out,HS.out];simp
       clear hy hR
       gi_wp2
       rw[Exit.noGoto_ret];refine bodyPost_ret (results_none rfl _ _ _) rfl ?_;exact⟨⟨_,rfl⟩, .inr ⟨pre++[cur],by rw[HM.out,←hch.out,HE.out];exact⟨_,by rw[List.append_assoc];rfl⟩,hJx3⟩⟩
      have HE:Hid (C8 s (M - j) cur=[]):=Lib.hid (by rw[HC.out,HD1.out,HH.out,HN.out];simp[hk])
      gi_wp2
      refine⟨fun _ h=>(by cases h),?_⟩
      gi_wp2
      rw[Exit.noGoto_ret];refine bodyPost_ret (results_none rfl _ _ _) rfl ?_;exact⟨⟨_,rfl⟩, .inl ⟨pre,by rw[HM.out,←hch.out,HE.out];simp,HJ.out _ _ _ hJp (Moves.below (HB1.out.alloc hz _))⟩⟩
   have HC:Hid (C8 s (M - j) cur=[]):=by rw[show M - j=0 by omega];exact Lib.hid rfl
   gi_wp2
   rw[Exit.noGoto_normal]
   go_end0
   exact⟨⟨_,rfl⟩, .inl ⟨pre,by rw[HM.out,←hch.out,HC.out];simp,hJp⟩⟩
end Go.Proofs.YtbgnigjfkbmceaaGreatDoor
