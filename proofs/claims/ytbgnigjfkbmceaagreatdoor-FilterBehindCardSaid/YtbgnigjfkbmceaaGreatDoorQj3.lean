/- Part 3 of the proof of FilterBehindP. -/
import Derived.Maps.AppendAt
import Derived.OwnWalk
import Derived.Lib.Strings
import Derived.Lib.IndexLaws
import Derived.Lib.LastIndexByte
import Derived.Lib.IndexAny
import Derived.Lib.Hide
import Derived.Test.YtbgnigjfkbmceaaGreatDoorProg
import Derived.WalkKit
import Derived.WalkSpells
import Derived.WalkLawsBesides
import Derived.Deep.QuietTactic
import Derived.BigQuiet
import Derived.Outline
import Derived.RangeFuncNested
import Derived.RangeFuncBound
import Derived.RangeFuncCalls
import Derived.RangeFuncLeaves
import Derived.Shelf.Abstract
import Derived.Shelf.RegionOpen
import Derived.OwnWalkIn
import Derived.TacticsInMore
import Derived.LoopNIn
import Derived.LoopIn
import Derived.WalkMore
import Derived.Test.YtbgnigjfkbmceaaGreatDoorQj2
open Go.Proofs.Tryz (prog)
set_option maxRecDepth 10000
set_option maxHeartbeats 4000000
set_option linter.unusedVariables false
set_option linter.unusedSimpArgs false
namespace Go.Proofs.YtbgnigjfkbmceaaGreatDoor.Old
open Go.RowKit
def flat{α:Type}(sz:Nat)(cell:α->Nat->Value)(xs:List α):List Value:=xs.flatMap fun x=>(List.range sz).map (cell x)
section
variable {α:Type}{sz:Nat}{cell:α->Nat->Value}
theorem flat_length(xs:List α):(flat sz cell xs).length=xs.length * sz:=by
 induction xs with
 |nil=>simp[flat]
 |cons x xs ih=>
   unfold flat at ih ⊢;rw[List.flatMap_cons,List.length_append,ih];simp[Nat.add_mul,Nat.add_comm]
theorem iV(xs ys:List α):flat sz cell (xs++ys)=flat sz cell xs++flat sz cell ys:=by simp[flat]
theorem flat_get(xs:List α):∀(i j:Nat) (x:α),xs[i]?=some x->j<sz->(flat sz cell xs)[i * sz+j]?=some (cell x j):=by
 induction xs with
 |nil=>intro i j x h;simp at h
 |cons y ys ih=>
   intro i j x h hj;have e:flat sz cell (y::ys)=(List.range sz).map (cell y)++flat sz cell ys:=by simp[flat]
   rw[e]
   cases i with
   |zero=>
     simp at h;subst h;rw[DD (by simpa using hj)];simp[hj]
   |succ i=>
     rw[Er (by simp[Nat.add_mul];omega)];simp only[List.getElem?_cons_succ]at h;have:=ih i j x h hj;rw[<-this]
     congr 1
     simp[Nat.add_mul];omega
theorem Xw(xs:List α)(hsz:0<sz){k:Nat}{u:Value}(h:(flat sz cell xs)[k]?=some u):∃x,xs[k / sz]?=some x/\u=cell x (k % sz):=by
 have hk:k<xs.length * sz:=by
  have:=(AZ.1 h).1
  rwa [flat_length]at this
 have hq:k / sz<xs.length:=(Nat.div_lt_iff_lt_mul hsz).2 hk;have hx:xs[k / sz]?=some xs[k / sz]:=B7 hq;have:=flat_get (cell:=cell) xs (k / sz) (k % sz) _ hx (Nat.mod_lt _ hsz);rw[Nat.mul_comm,Nat.div_add_mod,h]at this;injection this with this;exact⟨_,hx,this⟩
def Ones(w:World)(v:Value):Prop:=∀(g:Nat) (cs:Array Value) (t:TypeId),v.ownBlock=some g->w.heap[g]?=some (.cells cs t (0,0))->∀u∈cs.toList,u.oneCell'=true
theorem Ones.of_block{w w':World}{v:Value}(h:Ones w v)(hb:∀g,v.ownBlock=some g->w'.heap[g]?=w.heap[g]?):Ones w' v:=fun g cs t hg hc=>h g cs t hg ((hb g hg).symm.trans hc)
theorem Ones.nil_(w:World):Ones w (.slice none 0 0):=fun g cs t hg=>by simp[Value.ownBlock]at hg
def OwnL(sz:Nat)(cell:α->Nat->Value)(E:TypeId)(w:World)(base:Nat)(v:Value)(xs:List α):Prop:=
 w.ownsRow base E sz v xs.length (flat sz cell xs)/\Ones w v
theorem OwnL.nil_(E:TypeId)(w:World)(base:Nat):OwnL sz cell E w base (.slice none 0 0) []:=⟨World.ownsRow_nil w base E sz,Ones.nil_ w⟩
theorem OwnL.kept{E:TypeId}{w w':World}{base:Nat}{v:Value}{xs:List α}(h:OwnL sz cell E w base v xs){row:Option Nat}(hg:w.grownBy w' row)(hne:v.ownBlock=none\/v.ownBlock≠row):OwnL sz cell E w' base v xs:=by
 refine⟨World.ownsRow.kept h.1 hg hne,h.2.of_block fun g hb=>hg.block g (World.ownsRow.lt h.1 g hb).2 ?_⟩;rcases hne with e|e
 ·rw[e]at hb;cases hb
 rw[<-hb];exact e
theorem OwnL.alloc{E:TypeId}{w:World}{base:Nat}{v:Value}{xs:List α}(h:OwnL sz cell E w base v xs)(o:Obj):OwnL sz cell E (w.alloc o) base v xs:=
 ⟨World.ownsRow.alloc h.1 o,h.2.of_block fun g hb=>heap_alloc_old w o (World.ownsRow.lt h.1 g hb).2⟩
theorem OwnL.below{E:TypeId}{w w':World}{base:Nat}{v:Value}{xs:List α}(h:OwnL sz cell E w base v xs)(hb:Below w.heap.size w w'):OwnL sz cell E w' base v xs:=
 h.kept (Pk hb none) (by cases v.ownBlock<;>simp)
theorem OwnL.set_{E:TypeId}{w:World}{base:Nat}{v:Value}{xs:List α}(h:OwnL sz cell E w base v xs){p:Addr}(hp:v.ownBlock≠some p.block)(u:Value):OwnL sz cell E (w.setCell p u) base v xs:=
 h.kept (row:=some p.block) ⟨rfl,rfl,rfl,by simp[World.setCell],fun k _ hne=>Below.heap_setCell w p u k (fun e=>hne (by rw[e]))⟩ (.inr hp)
theorem OwnL.setb{E:TypeId}{w:World}{base:Nat}{v:Value}{xs:List α}(h:OwnL sz cell E w base v xs){p:Addr}(hp:p.block<base)(u:Value):OwnL sz cell E (w.setCell p u) base v xs:=
 h.set_ (fun e=>by have:=(World.ownsRow.lt h.1 _ e).1;omega) u
theorem OwnL.lt{E:TypeId}{w:World}{base:Nat}{v:Value}{xs:List α}(h:OwnL sz cell E w base v xs):∀k,v.ownBlock=some k->base<=k/\k<w.heap.size:=World.ownsRow.lt h.1
theorem OwnL.ne_{E:TypeId}{w:World}{base:Nat}{v:Value}{xs:List α}(h:OwnL sz cell E w base v xs){g:Nat}{t:TypeId}{cs:Array Value}(hg:w.heap[g]?=some (.cells cs t (0,0)))(hne:E≠t):v.ownBlock≠some g:=by
 rcases h.1.2 with⟨rfl,_⟩|⟨g',cap,cur,rfl,_,hh,_⟩
 ·simp[Value.ownBlock]
 intro he;have:g'=g:=by simpa[Value.ownBlock]using he
 subst this;rw[hg]at hh;injection hh with hh;injection hh with _ ht;exact hne ht.symm
theorem OwnL.form{E:TypeId}{w:World}{base:Nat}{v:Value}{xs:List α}(h:OwnL sz cell E w base v xs):∃A c,v= .slice A xs.length c:=by
 rcases h.1.2 with⟨rfl,hn⟩|⟨g,cap,cur,rfl,_⟩
 ·exact⟨none,0,by rw[hn]⟩
 exact⟨_,_,rfl⟩
theorem OwnL.list{E:TypeId}{w:World}{base:Nat}{v:Value}{xs:List α}(h:OwnL sz cell E w base v xs)(hf:xs.length<=few){D:Nat->Prop}(hD:∀b,base<=b->b<w.heap.size->D b):ListR sz cell w D v xs:=by
 rcases h.1.2 with⟨rfl,hn⟩|⟨g,cap,cur,rfl,hb,hg,hnc,_,hcs,htake⟩
 ·obtain rfl:xs=[]:=ER hn;exact ListR.nil_
 refine⟨_,_,rfl,hnc,hf,fun _=>⟨g,0,rfl,hD g hb (Array.getElem?_eq_some_iff.1 hg).1,fun i x j hi hj=>?_⟩⟩
 have hlt:i * sz+j<xs.length * sz:=by
  have h1:=(AZ.1 hi).1;have h2:(i+1) * sz<=xs.length * sz:=Nat.mul_le_mul_right sz h1;rw[Nat.add_mul]at h2;omega
 rw[Nat.zero_add,cell_of_row w g _ cur E (0,0) hg,<-flat_get xs i j x hi hj,<-htake,List.getElem?_take,if_pos hlt];simp
end
def MY(T E sz bytes:Nat):Prop:=prog.underlying T=some (.slice E)/\∃i z,prog.info? E=some i/\i.zero=some z/\i.size=sz/\i.bytes=bytes/\z.cells.size=sz/\(z.cells.toList.all (·.oneCell'))=true
theorem UE{T E sz bytes:Nat}{z:Value}(hT:prog.underlying T=some (.slice E))(h:(prog.info? E).map (fun i=>(i.zero,i.size,i.bytes))=some (some z,sz,bytes))(hz:z.cells.size=sz)(h1:(z.cells.toList.all (·.oneCell'))=true):MY T E sz bytes:=by
 refine⟨hT,?_⟩
 cases hi:prog.info? E with
 |none=>rw[hi]at h;cases h
 |some i=>
   rw[hi]at h;simp only[Option.map_some,Option.some.injEq,Prod.mk.injEq]at h;exact⟨i,z,rfl,h.1,h.2.1,h.2.2,hz,h1⟩
theorem iW{P:Program}{w:World}{base:Nat}{t ty e:TypeId}{i:TypeInfo}{size:Nat}(ht:P.underlying t=some (.slice e))(hi:P.info? e=some i)
    {v:Value} {n:Nat} {xs:List Value} (hown:w.ownsRow base e size v n xs) (c:Nat):(Builtin.append_ #[t,t] ty #[v, .slice none 0 c]).run P w= .ok v w:=by
 rcases hown.2 with⟨rfl,rfl⟩|⟨g,cap,cur,rfl,_,_,hnc,_⟩
 ·simp[Builtin.append_,run_underlying ht,sizeOf,typeInfo,hi,Builtin.lenOf,Builtin.firstCells]
 simp[Builtin.append_,run_underlying ht,sizeOf,typeInfo,hi,Builtin.lenOf,Builtin.firstCells,hnc,storeCells]
section
variable {α:Type}{sz:Nat}{cell:α->Nat->Value}
theorem Xx{z:Array Value}(h:(z.toList.all (·.oneCell'))=true){k:Nat}{u:Value}(hu:u∈Builtin.zeroCells z k):u.oneCell'=true:=by
 simp only[Builtin.zeroCells,Array.mem_map,Array.mem_range]at hu;obtain⟨i,hi2,rfl⟩:=hu
 have hpos:0<z.size:=by
  rcases Nat.eq_zero_or_pos z.size with e|e
  ·rw[e]at hi2;simp at hi2
  exact e
 have hlt:i % z.size<z.size:=Nat.mod_lt _ hpos;rw[getElem!_pos z _ hlt];exact List.all_eq_true.1 h _ (by simp)
set_option maxRecDepth 10000 in
theorem Xy{w:World}{T E bytes ty:Nat}(hE:MY T E sz bytes)(hsz:0<sz)(hby:bytes<=100000){base:Nat}{v:Value}{n:Nat}{xs:List Value}(hown:w.ownsRow base E sz v n xs)(h1:Ones w v)
    (ad:Addr) (m c:Nat) (news:List Value) (hl:news.length=m * sz) (hnews:∀j u,news[j]?=some u->w.cell? (ad.add j)=some u) (hone:∀u∈news,u.oneCell'=true) (hf:n<=1000000) (hm:m<=1000000) {v':Value} {w':World}
    (hrun:(Builtin.append_ #[T,T] ty #[v, .slice (some ad) m c]).run prog w= .ok v' w') (hnil:v'= .slice none 0 0↔v= .slice none 0 0/\m=0):Ones w' v':=by
 obtain⟨ht,i,z,hi,hz,hs,hb,hzs,hz1⟩:=hE;subst hs;have hbb:(n+m) * bytes<=2000000 * 100000:=Nat.mul_le_mul (by omega) hby;rcases hown.2 with⟨rfl,rfl⟩|⟨g,cap,cur,rfl,hbg,hg,hnc,hcm,hcs,htk⟩
 ·rcases Nat.eq_zero_or_pos m with h0|h0
  ·rw[hnil.2 ⟨rfl,h0⟩];exact Ones.nil_ _
  have hr:=run_append_nil (P:=prog) w T ty E i z ht hi hz ad m c news hl hnews h0 (by omega) (by rw[hb];rw[Nat.zero_add]at hbb;omega);have hq:=hrun.symm.trans hr;simp only[Result.ok.injEq]at hq;obtain⟨rfl,rfl⟩:=hq;intro g cs t hgg hc u hu;have:g=w.heap.size:=by simpa[Value.ownBlock]using hgg.symm
  subst this;have hn:=heap_alloc_new w.drew (.cells (news.toArray++Builtin.zeroCells z.cells (grownCap w m 0 E - m)) E);have hn':(w.drew.alloc (.cells (news.toArray++Builtin.zeroCells z.cells (grownCap w m 0 E - m)) E)).heap[w.heap.size]?=some (.cells (news.toArray++Builtin.zeroCells z.cells (grownCap w m 0 E - m)) E):=hn;rw[hn']at hc;injection hc with hc;injection hc with hc _;subst hc;rcases Array.mem_append.1 (Array.mem_toList_iff.1 hu)with h|h
  ·exact hone u (by simpa using h)
  exact Xx hz1 h
 have hgc:w.heap[g]?=some (.cells cur.toList.toArray E (0,0)):=by simpa using hg
 by_cases hroom:n+m<=cap
 ·have hfit:n * i.size+news.length<=cur.size:=by
     rw[hcs,hl,<-Nat.add_mul];exact Nat.mul_le_mul_right _ hroom
  have hr:=run_append_room_cells (P:=prog) w T ty E i ht hi g 0 n cap ad m c news hl hnews hone hroom (fun j hj=>by
   have:0+n * i.size+j<cur.size:=by omega
   simp only[World.cell?,hg];simp;omega) (fun j hj=>by simp[World.frozen?,hg])
  have hq:=hrun.symm.trans hr;simp only[Result.ok.injEq]at hq;obtain⟨rfl,rfl⟩:=hq;obtain⟨r1,_⟩:=Qy g E news (0+n * i.size) cur.toList w hgc;intro g' cs t hgg hc u hu;have:g'=g:=by simpa[Value.ownBlock]using hgg.symm
  subst this;rw[r1]at hc;injection hc with hc;injection hc with hc _;subst hc;rcases PR news _ _ u (by simpa using hu)with h|h
  ·exact h1 g' cur E rfl hg u h
  exact hone u h
 have hr:=run_append_grow (P:=prog) w T ty E i z ht hi hz ⟨g,0,none⟩ n cap xs hown.1 (fun j u hj=>by
  rw[Addr.add_mid];simp only[World.cell?,hg];rw[<-htk,List.getElem?_take]at hj;split at hj
  ·simpa using hj
  cases hj) ad m c news hl hnews (by omega) (by omega) (growslice_fits (by omega) (by rw[hb];omega))
 have hq:=hrun.symm.trans hr;simp only[Result.ok.injEq]at hq;obtain⟨rfl,rfl⟩:=hq;intro g' cs t hgg hc u hu;have:g'=w.heap.size:=by simpa[Value.ownBlock]using hgg.symm
 subst this;have hn':(w.drew.alloc (.cells (xs.toArray++news.toArray++Builtin.zeroCells z.cells (grownCap w (n+m) cap E - (n+m))) E)).heap[w.heap.size]?=some (.cells (xs.toArray++news.toArray++Builtin.zeroCells z.cells (grownCap w (n+m) cap E - (n+m))) E):=heap_alloc_new w.drew _;rw[hn']at hc;injection hc with hc;injection hc with hc _;subst hc;rcases Array.mem_append.1 (Array.mem_toList_iff.1 hu)with h|h
 ·rcases Array.mem_append.1 h with h|h
  ·have hx:u∈xs:=by simpa using h
   rw[<-htk]at hx;exact h1 g cur E rfl hg u (List.mem_of_mem_take hx)
  exact hone u (by simpa using h)
 exact Xx hz1 h
theorem iX{w:World}{T E bytes ty:Nat}(hE:MY T E sz bytes)(hsz:0<sz)(hby:bytes<=100000){base:Nat}{v sv:Value}{xs ys:List α}{D:Nat->Prop}(hown:OwnL sz cell E w base v xs)(hr:ListR sz cell w D sv ys)
    (h1:∀y∈ys,∀j,j<sz->(cell y j).oneCell'=true) (hf:xs.length<=1000000) (hbase:base<=w.heap.size):
    ∃v' w',(Builtin.append_ #[T,T] ty #[v,sv]).run prog w= .ok v' w'/\OwnL sz cell E w' base v' (xs++ys)/\w.grownBy w' v.ownBlock/\(v'.ownBlock=v.ownBlock\/v'.ownBlock=some w.heap.size):=by
 have hE0:=hE;obtain⟨ht,i,z,hi,hz,hs,hb,hzs,hz1⟩:=hE;obtain⟨A,c,rfl,hlc,hfew,hrow⟩:=hr;unfold few at hfew;rcases Nat.eq_zero_or_pos ys.length with h0|h0
 ·have hy:ys=[]:=ER h0;subst hy;rcases A with _|ad
  ·exact⟨v,w,iW ht hi hown.1 c,by simpa using hown,World.grownBy.refl w _, .inl rfl⟩
  obtain⟨v',w',hrun,h2,h3,h4,h5⟩:=run_append_own_at (P:=prog) w base T ty E i z sz bytes ht hi hz hs hb hzs hsz v xs.length _ hown.1 ad 0 c [] (by simp) (by simp) (by simp) (by unfold maxLen;omega) (by
   have:(xs.length+0) * bytes<=1000000 * 100000:=Nat.mul_le_mul (by omega) hby
   omega) hbase
  exact⟨v',w',hrun,⟨by simpa using h2,Xy hE0 hsz hby hown.1 hown.2 ad 0 c [] (by simp) (by simp) (by simp) hf (by omega) hrun h4⟩,h3,h5⟩
 obtain⟨b,off,rfl,_,hcell⟩:=hrow h0
 have hcl:∀j u,(flat sz cell ys)[j]?=some u->w.cell? ((⟨b,off,none⟩:Addr).add j)=some u:=by
  intro j u hu;obtain⟨x,hx,rfl⟩:=Xw ys hsz hu;have hcl:=hcell _ x (j % sz) hx (Nat.mod_lt _ hsz)
  have hm:off+j / sz * sz+j % sz=off+j:=by
   have:=Nat.div_add_mod j sz;rw[Nat.mul_comm]at this;omega
  rw[hm]at hcl;rw[Addr.add_lit];exact hcl
 have hon:∀u∈flat sz cell ys,u.oneCell'=true:=by
  intro u hu;obtain⟨k,hk⟩:=List.mem_iff_getElem?.1 hu;obtain⟨x,hx,rfl⟩:=Xw ys hsz hk;exact h1 x (Aj hx) _ (Nat.mod_lt _ hsz)
 obtain⟨v',w',hrun,h2,h3,h4,h5⟩:=run_append_own_at (P:=prog) w base T ty E i z sz bytes ht hi hz hs hb hzs hsz v xs.length _ hown.1 ⟨b,off,none⟩ ys.length c (flat sz cell ys) (flat_length ys) hcl hon (by unfold maxLen;omega) (by
     have:(xs.length+ys.length) * bytes<=1100000 * 100000:=Nat.mul_le_mul (by omega) hby
     omega) hbase
 exact⟨v',w',hrun,⟨by rw[iV,List.length_append];exact h2,Xy hE0 hsz hby hown.1 hown.2 _ _ c _ (flat_length ys) hcl hon hf (by omega) hrun h4⟩,h3,h5⟩
theorem iY{w:World}{o:Oper}{a:Act}{K:Act->World->Prop}{Q:Exit->Act->World->Prop}(s x:Operand)(T:TypeId)
    (ho:o.op= .call {callee:= .builtin .append,args:=#[s,x],argTypes:=#[T,T]}) {E bytes:Nat} (hE:MY T E sz bytes) (hsz:0<sz) (hby:bytes<=100000)
    {base:Nat} {v sv:Value} {xs ys:List α} {D:Nat->Prop} (hs:a.eval s=v) (hx:a.eval x=sv) (hown:OwnL sz cell E w base v xs) (hr:ListR sz cell w D sv ys)
    (h1:∀y∈ys,∀j,j<sz->(cell y j).oneCell'=true) (hf:xs.length<=1000000) (hbase:base<=w.heap.size)
    (h:∀v' w',OwnL sz cell E w' base v' (xs++ys)->w.grownBy w' v.ownBlock->(v'.ownBlock=v.ownBlock\/v'.ownBlock=some w.heap.size)->K (a.put o.dst v') w'):o.wp prog a w K Q:=by
 obtain⟨v',w',hrun,h2,h3,h4⟩:=iX (ty:=o.type) hE hsz hby hown hr h1 hf hbase;unfold Oper.wp execOp;simp only[ho,resolve,invoke,builtin,Sem.run_bind,Sem.run_pure,Result.andThen_ok,List.map_toArray,List.map_cons,List.map_nil,hs,hx,hrun];exact h v' w' h2 h3 h4
theorem UF{w:World}{ops:Array Oper}{rest:List Oper}{o:Oper}{a:Act}{Q:Exit->Act->World->Prop}(hgd:o.guard=none)(s x:Operand)(T:TypeId)
    (ho:o.op= .call {callee:= .builtin .append,args:=#[s,x],argTypes:=#[T,T]}) {E bytes:Nat} (hE:MY T E sz bytes) (hsz:0<sz) (hby:bytes<=100000)
    {base:Nat} {v sv:Value} {xs ys:List α} {D:Nat->Prop} (hs:a.eval s=v) (hx:a.eval x=sv) (hown:OwnL sz cell E w base v xs) (hr:ListR sz cell w D sv ys)
    (h1:∀y∈ys,∀j,j<sz->(cell y j).oneCell'=true) (hf:xs.length<=1000000) (hbase:base<=w.heap.size)
    (h:∀v' w',OwnL sz cell E w' base v' (xs++ys)->w.grownBy w' v.ownBlock->(v'.ownBlock=v.ownBlock\/v'.ownBlock=some w.heap.size)->wpList prog ops Q rest (a.put o.dst v') w'):wpList prog ops Q (o::rest) a w:=
 wpList_plain hgd fun _ hK=>iY s x T ho hE hsz hby hs hx hown hr h1 hf hbase fun v' w' h2 h3 h4=>hK _ _ (h v' w' h2 h3 h4)
theorem OwnL.mono{E:TypeId}{w:World}{base base':Nat}{v:Value}{xs:List α}(h:OwnL sz cell E w base v xs)(hb:base'<=base):OwnL sz cell E w base' v xs:=by
 refine⟨⟨h.1.1,?_⟩,h.2⟩;rcases h.1.2 with h'|⟨g,cap,cur,hv,hg,r⟩
 ·exact .inl h'
 exact .inr ⟨g,cap,cur,hv,Nat.le_trans hb hg,r⟩
theorem iZ{w:World}{ops:Array Oper}{rest:List Oper}{o:Oper}{a:Act}{Q:Exit->Act->World->Prop}(hgd:o.guard=none)(s x:Operand)(T:TypeId)
    (ho:o.op= .call {callee:= .builtin .append,args:=#[s,x],argTypes:=#[T,T]}) {E bytes:Nat} (hE:MY T E sz bytes) (hsz:0<sz) (hby:bytes<=100000)
    (sv:Value) (ys:List α) {D:Nat->Prop} (hs:a.eval s= .slice none 0 0) (hx:a.eval x=sv) (hr:ListR sz cell w D sv ys)
    (h1:∀y∈ys,∀j,j<sz->(cell y j).oneCell'=true)
    (h:∀A c w',OwnL sz cell E w' w.heap.size (.slice A ys.length c) ys->Below w.heap.size w w'->wpList prog ops Q rest (a.put o.dst (.slice A ys.length c)) w'):wpList prog ops Q (o::rest) a w:=
 UF hgd s x T ho hE hsz hby hs hx (OwnL.nil_ E w w.heap.size) hr h1 (by simp) (As _) fun v' w' h2 h3 _=>by
  rw[List.nil_append]at h2;obtain⟨A,c,rfl⟩:=h2.form;exact h A c w' h2 ⟨h3.os,h3.tape,h3.output,h3.size,fun k hk=>h3.block k hk (by simp[Value.ownBlock])⟩
theorem Xz{w:World}{cs:Array Value}{t:TypeId}{x:α}{B:Nat}(hB:B=w.heap.size)(hcs:∀j,j<sz->cs[j]?=some (cell x j)){D:Nat->Prop}(hD:D w.heap.size):ListR sz cell (w.alloc (.cells cs t)) D (.slice (some ⟨B,0,none⟩) 1 1) [x]:=by
 subst hB;refine⟨_,1,rfl,As _,by unfold few;simp,fun _=>⟨_,_,rfl,hD,fun i y j hi hj=>?_⟩⟩
 cases i with
 |succ i=>simp at hi
 |zero=>
   simp at hi;subst hi;rw[cell_of_row (w.alloc (.cells cs t)) w.heap.size _ cs t (0,0) (heap_alloc_new w _)];simp[hcs j hj]
end
theorem j0:MY 149 234 2 24:=UE (z:= .agg #[.string ⟨#[]⟩, .int .i64 0]) (by kernel_rfl) (by kernel_rfl) rfl rfl
theorem j1:MY 146 151 8 88:=UE (z:= .agg #[.int .i64 0, .int .i64 0, .int .i64 0, .int .i64 0, .int .i64 0, .int .i64 0, .string ⟨#[]⟩, .slice none 0 0]) (by kernel_rfl) (by kernel_rfl) rfl rfl
theorem j2:MY 37 148 2 32:=UE (z:= .agg #[.int .i64 0, .slice none 0 0]) (by kernel_rfl) (by kernel_rfl) rfl rfl
end Go.Proofs.YtbgnigjfkbmceaaGreatDoor.Old
namespace Go.Proofs.YtbgnigjfkbmceaaGreatDoor.Old
open Go.RowKit
def blk(v:Value):List Nat:=v.ownBlock.toList
theorem mem_blk{v:Value}{b:Nat}:b∈blk v↔v.ownBlock=some b:=by
 unfold blk;cases v.ownBlock<;>simp[eq_comm]
section
variable {α:Type}{sz:Nat}{cell:α->Nat->Value}{E:TypeId}{w w':World}{base:Nat}{v:Value}{xs:List α}
theorem OwnL.frame(h:OwnL sz cell E w base v xs){row:Option Nat}(hg:w.grownBy w' row)(hne:∀b∈blk v,some b≠row):OwnL sz cell E w' base v xs:=by
 refine h.kept hg ?_
 cases hb:v.ownBlock with
 |none=>exact .inl rfl
 |some b=>exact .inr (hne b (mem_blk.2 hb))
theorem OwnL.blk_lt(h:OwnL sz cell E w base v xs):∀b∈blk v,base<=b/\b<w.heap.size:=fun b hb=>h.lt b (mem_blk.1 hb)
theorem OwnL.not_mem(h:OwnL sz cell E w base v xs){g:Nat}{t:TypeId}{cs:Array Value}(hg:w.heap[g]?=some (.cells cs t (0,0)))(hne:E≠t):g∉blk v:=fun hm=>h.ne_ hg hne (mem_blk.1 hm)
end
def fpN(v:Value)(ys:List (Nod×Value)):List Nat:=blk v++ys.flatMap fun y=>blk y.2
def NodsAt(w:World)(base:Nat)(v:Value)(ys:List (Nod×Value)):Prop:=
 OwnL 8 nodCell 151 w base v ys/\(∀y∈ys,OwnL 2 entCell 234 w base y.2 y.1.entries/\y.1.entries.length<=few)/\(fpN v ys).Nodup
abbrev GY:=Int×Value×List (Nod×Value)
def Nx(d:GY):Nat->Value
 |0=> .int .i64 d.1
 |_=>d.2.1
def fpD(v:Value)(L:List GY):List Nat:=blk v++L.flatMap fun x=>fpN x.2.1 x.2.2
def DvcsAt(w:World)(base:Nat)(v:Value)(L:List GY):Prop:=
 OwnL 2 Nx 148 w base v L/\(∀x∈L,NodsAt w base x.2.1 x.2.2/\x.2.2.length<=few)/\(fpD v L).Nodup/\L.length<=few
def dvcOf(x:GY):Dvc:=⟨x.1,x.2.2.map (·.1)⟩
def flsOf(L:List GY):AR:=L.map dvcOf
section
variable {w w':World}{base:Nat}{v:Value}
theorem NodsAt.frame{ys:List (Nod×Value)}(h:NodsAt w base v ys){row:Option Nat}(hg:w.grownBy w' row)(hne:∀b∈fpN v ys,some b≠row):NodsAt w' base v ys:=by
 obtain⟨h1,h2,h3⟩:=h;refine⟨h1.frame hg fun b hb=>hne b (List.mem_append_left _ hb),fun y hy=>⟨(h2 y hy).1.frame hg fun b hb=>hne b (List.mem_append_right _ (List.mem_flatMap.2 ⟨y,hy,hb⟩)),(h2 y hy).2⟩,h3⟩
theorem NodsAt.fp_lt{ys:List (Nod×Value)}(h:NodsAt w base v ys):∀b∈fpN v ys,base<=b/\b<w.heap.size:=by
 intro b hb;rcases List.mem_append.1 hb with hb|hb
 ·exact h.1.blk_lt b hb
 obtain⟨y,hy,hb⟩:=List.mem_flatMap.1 hb;exact(h.2.1 y hy).1.blk_lt b hb
theorem DvcsAt.frame{L:List GY}(h:DvcsAt w base v L){row:Option Nat}(hg:w.grownBy w' row)(hne:∀b∈fpD v L,some b≠row):DvcsAt w' base v L:=by
 obtain⟨h1,h2,h3,h4⟩:=h;refine⟨h1.frame hg fun b hb=>hne b (List.mem_append_left _ hb),fun y hy=>⟨(h2 y hy).1.frame hg fun b hb=>hne b (List.mem_append_right _ (List.mem_flatMap.2 ⟨y,hy,hb⟩)),(h2 y hy).2⟩,h3,h4⟩
theorem DvcsAt.fp_lt{L:List GY}(h:DvcsAt w base v L):∀b∈fpD v L,base<=b/\b<w.heap.size:=by
 intro b hb;rcases List.mem_append.1 hb with hb|hb
 ·exact h.1.blk_lt b hb
 obtain⟨y,hy,hb⟩:=List.mem_flatMap.1 hb;exact(h.2.1 y hy).1.fp_lt b hb
theorem NodsAt.below{ys:List (Nod×Value)}(h:NodsAt w base v ys)(hb:Below w.heap.size w w'):NodsAt w' base v ys:=h.frame (Pk hb none) (by simp)
theorem DvcsAt.below{L:List GY}(h:DvcsAt w base v L)(hb:Below w.heap.size w w'):DvcsAt w' base v L:=h.frame (Pk hb none) (by simp)
theorem DvcsAt.set_{L:List GY}(h:DvcsAt w base v L){p:Addr}(hp:p.block∉fpD v L)(u:Value):DvcsAt (w.setCell p u) base v L:=
 h.frame (row:=some p.block) ⟨rfl,rfl,rfl,by simp[World.setCell],fun k _ hne=>Below.heap_setCell w p u k (fun e=>hne (by rw[e]))⟩ (fun b hb e=>hp (by injection e with e;rwa [<-e]))
theorem NodsAt.set_{L:List (Nod×Value)}(h:NodsAt w base v L){p:Addr}(hp:p.block∉fpN v L)(u:Value):NodsAt (w.setCell p u) base v L:=
 h.frame (row:=some p.block) ⟨rfl,rfl,rfl,by simp[World.setCell],fun k _ hne=>Below.heap_setCell w p u k (fun e=>hne (by rw[e]))⟩ (fun b hb e=>hp (by injection e with e;rwa [<-e]))
theorem DvcsAt.nil_(w:World)(base:Nat):DvcsAt w base (.slice none 0 0) []:=⟨OwnL.nil_ _ _ _,by simp,by simp[fpD,blk,Value.ownBlock],by simp⟩
theorem NodsAt.nil_(w:World)(base:Nat):NodsAt w base (.slice none 0 0) []:=⟨OwnL.nil_ _ _ _,by simp,by simp[fpN,blk,Value.ownBlock]⟩
end
end Go.Proofs.YtbgnigjfkbmceaaGreatDoor.Old
namespace Go.Proofs.YtbgnigjfkbmceaaGreatDoor.Old
open Go.RowKit
theorem j4{w:World}{b o:Nat}{x:Nod×Value}(h:∀j,j<8->w.cell? ⟨b,o+j,none⟩=some (nodCell x j)):
    w.cell? ⟨b,o,none⟩=some (.int .i64 x.1.ino)/\w.cell? ⟨b,o+1,none⟩=some (.int .i64 x.1.kind)/\w.cell? ⟨b,o+2,none⟩=some (.int .i64 x.1.mode)/\w.cell? ⟨b,o+3,none⟩=some (.int .i64 x.1.uid)/\
    w.cell? ⟨b,o+4,none⟩=some (.int .i64 x.1.gid)/\w.cell? ⟨b,o+5,none⟩=some (.int .i64 x.1.parent)/\w.cell? ⟨b,o+6,none⟩=some (.string x.1.target)/\w.cell? ⟨b,o+7,none⟩=some x.2:=
 ⟨h 0 (by omega),h 1 (by omega),h 2 (by omega),h 3 (by omega),h 4 (by omega),h 5 (by omega),h 6 (by omega),h 7 (by omega)⟩
theorem j5(y:BQ)(j:Nat):(entCell y j).oneCell'=true:=by
 unfold entCell;split<;>rfl
end Go.Proofs.YtbgnigjfkbmceaaGreatDoor.Old
namespace Go.Proofs.YtbgnigjfkbmceaaGreatDoor.Old
open Go.RowKit
def Ny(w:World)(v:Value)(L:List GY)(dvv:Value)(S:Nat)(next:Int)(ns:List Nod)(k:Nat)(nvv:Value)(ys:List (Nod×Value))(wr:World):Prop:=
 ys.map (·.1)=ns.take k/\wr.heap[S]?=some (.cells #[.int .i64 next,nvv] 148 (0,0))/\NodsAt wr w.heap.size nvv ys/\DvcsAt wr w.heap.size dvv L/\(∀b∈fpN nvv ys,b∉fpD dvv L/\b≠S)/\
 wr.heap[w.heap.size]?=some (.cells #[v] 39 (0,0))/\wr.heap[w.heap.size+1]?=some (.cells #[.slice none 0 0] 39 (0,0))/\wr.heap[w.heap.size+1+1]?=some (.cells #[dvv] 39 (0,0))/\
 Below w.heap.size w wr
theorem Nz{w:World}{b:Nat}{o:Obj}(h:w.heap[b]?=some o):b<w.heap.size:=by
 rcases Nat.lt_or_ge b w.heap.size with hlt|hge
 ·exact hlt
 rw[Array.getElem?_eq_none hge]at h;cases h
theorem Rv{l r:List Nat}(h1:l.Nodup)(h2:r.Nodup)(h:∀b∈l,b∉r):(l++r).Nodup:=List.nodup_append.2 ⟨h1,h2,fun a ha _ hb e=>h a ha (e ▸ hb)⟩
theorem UG(v:Value):(blk v).Nodup:=by
 unfold blk;cases v.ownBlock<;>simp
theorem Y0(v:Value)(ys:List (Nod×Value))(y:Nod×Value):fpN v (ys++[y])=blk v++(ys.flatMap (fun y=>blk y.2)++blk y.2):=by simp[fpN]
theorem j6{n:Nat}(h:n<=few):n<=1000000:=by unfold few at h;omega
theorem j7{w:World}{v:Value}{L:List GY}{dvv:Value}{S:Nat}{next:Int}{ns:List Nod}{k:Nat}{nvv:Value}{ys:List (Nod×Value)}{wr W4 W5:World}{n:Nod}{ev nvv':Value}
    (h:Ny w v L dvv S next ns k nvv ys wr) (hS:S∉fpD dvv L) (hSB:w.heap.size+1+1<S) (hn:ns[k]?=some n) (hfew:n.entries.length<=few) (h4:Below wr.heap.size wr W4) (hev:OwnL 2 entCell 234 W4 (wr.heap.size+1) ev n.entries)
    (h5:W4.grownBy W5 nvv.ownBlock) (hown:OwnL 8 nodCell 151 W5 w.heap.size nvv' (ys++[(n,ev)])) (hat:nvv'.ownBlock=nvv.ownBlock\/nvv'.ownBlock=some W4.heap.size):
    Ny w v L dvv S next ns (k+1) nvv' (ys++[(n,ev)]) (W5.setCell ⟨S,1,none⟩ nvv'):=by
 obtain⟨e1,e2,e3,e4,e5,e6,e7,e8,e9⟩:=h;have z:=e9.size;have z4:=h4.size;have hSl:=Nz e2;have n4:=e3.below h4;have d4:=e4.below h4;have hold:∀b∈fpN nvv ys,w.heap.size<=b/\b<wr.heap.size:=e3.fp_lt;have hbn:∀b∈blk nvv,b<wr.heap.size:=fun b hb=>(hold b (List.mem_append_left _ hb)).2;have hnd:=e3.2.2;have hnd':=List.nodup_append.1 hnd;have row:∀b,b∉blk nvv->some b≠nvv.ownBlock:=fun b hb e=>hb (mem_blk.2 e.symm);have hevb:∀b∈blk ev,wr.heap.size+1<=b/\b<W4.heap.size:=hev.blk_lt
 have hnew:∀b∈blk nvv',b∈blk nvv\/b=W4.heap.size:=by
  intro b hb;rw[mem_blk]at hb;rcases hat with e|e
  ·left;rw[mem_blk,<-e];exact hb
  right;rw[e]at hb;exact(Option.some.inj hb).symm
 have hent5:∀y∈ys,OwnL 2 entCell 234 W5 w.heap.size y.2 y.1.entries/\y.1.entries.length<=few:=fun y hy=>
  ⟨(n4.2.1 y hy).1.frame h5 fun b hb=>row b fun hb'=>hnd'.2.2 b hb' b (List.mem_flatMap.2 ⟨y,hy,hb⟩) rfl,(n4.2.1 y hy).2⟩
 have hev5:OwnL 2 entCell 234 W5 w.heap.size ev n.entries:=(hev.frame h5 fun b hb=>row b fun hb'=>by have:=hbn b hb';have:=(hevb b hb).1;omega).mono (by omega)
 have hfp:∀b∈fpN nvv' (ys++[(n,ev)]),b∈fpN nvv ys\/wr.heap.size<=b:=by
  intro b hb;rw[Y0]at hb;rcases List.mem_append.1 hb with hb|hb
  ·rcases hnew b hb with hb|hb
   ·exact .inl (List.mem_append_left _ hb)
   right;omega
  rcases List.mem_append.1 hb with hb|hb
  ·exact .inl (List.mem_append_right _ hb)
  right;have:=(hevb b hb).1;omega
 have n5:NodsAt W5 w.heap.size nvv' (ys++[(n,ev)]):=by
  refine⟨hown,?_,?_⟩
  ·intro y hy;rcases List.mem_append.1 hy with hy|hy
   ·exact hent5 y hy
   obtain rfl:y=(n,ev):=by simpa using hy
   exact⟨hev5,hfew⟩
  rw[Y0];refine Rv (UG _) (Rv hnd'.2.1 (UG _) ?_) ?_
  ·intro b hb hb';have:=(hold b (List.mem_append_right _ hb)).2;have:=(hevb b hb').1;omega
  intro b hb hb';rcases hnew b hb with kd|kd
  ·rcases List.mem_append.1 hb' with hb'|hb'
   ·exact hnd'.2.2 b kd b hb' rfl
   have:=hbn b kd;have:=(hevb b hb').1;omega
  rcases List.mem_append.1 hb' with hb'|hb'
  ·have:=(hold b (List.mem_append_right _ hb')).2;omega
  have:=(hevb b hb').2;omega
 have d5:DvcsAt W5 w.heap.size dvv L:=d4.frame h5 fun b hb=>row b fun hb'=>(e5 b (List.mem_append_left _ hb')).1 hb;have o4:OwnL 8 nodCell 151 W4 w.heap.size nvv ys:=n4.1
 have box:∀(b:Nat) (cs:Array Value),wr.heap[b]?=some (.cells cs 39 (0,0))->b≠S->(W5.setCell ⟨S,1,none⟩ nvv').heap[b]?=some (.cells cs 39 (0,0)):=fun b cs hb hbS=>by
  have kl:=BY hb h4 (Nz hb);exact Nv (Pm kl h5 (row b (o4.not_mem kl (by decide)))) hbS _
 have hfpS:S∉fpN nvv' (ys++[(n,ev)]):=fun hb=>by
  rcases hfp S hb with hb|hb
  ·exact(e5 S hb).2 rfl
  omega
 refine⟨?_,?_,n5.set_ hfpS _,d5.set_ hS _,?_,box _ _ e6 (by omega),box _ _ e7 (by omega),box _ _ e8 (by omega),?_⟩
 ·rw[List.map_append,e1,List.take_add_one,hn];rfl
 ·have hS4:=BY e2 h4 hSl;exact Of (Pm hS4 h5 (row S fun hb=>(e5 S (List.mem_append_left _ hb)).2 rfl)) 1 _
 ·intro b hb;rcases hfp b hb with hb|hb
  ·exact e5 b hb
  refine⟨fun hd=>?_,by omega⟩;have:=(e4.fp_lt b hd).2;omega
 exact((e9.trans (h4.mono e9.size)).grown h5 (by omega) fun b hb=>(hold b (List.mem_append_left _ (mem_blk.2 hb))).1).setCell (by show w.heap.size<=S;omega) _
def UH(w:World)(v:Value)(f:AR)(m:Nat)(dvv:Value)(L:List GY)(wr:World):Prop:=
 flsOf L=f.take m/\DvcsAt wr w.heap.size dvv L/\
 wr.heap[w.heap.size]?=some (.cells #[v] 39 (0,0))/\wr.heap[w.heap.size+1]?=some (.cells #[.slice none 0 0] 39 (0,0))/\wr.heap[w.heap.size+1+1]?=some (.cells #[dvv] 39 (0,0))/\
 Below w.heap.size w wr
theorem j8(v:Value)(L:List GY)(x:GY):fpD v (L++[x])=blk v++(L.flatMap (fun x=>fpN x.2.1 x.2.2)++fpN x.2.1 x.2.2):=by simp[fpD]
theorem j9{w:World}{v:Value}{f:AR}{m:Nat}{dvv:Value}{L:List GY}{wr:World}(h:UH w v f m dvv L wr)(next:Int)(ns:List Nod):
    Ny w v L dvv wr.heap.size next ns 0 (.slice none 0 0) [] (wr.alloc (.cells #[.int .i64 next, .slice none 0 0] 148))/\wr.heap.size∉fpD dvv L/\w.heap.size+1+1<wr.heap.size:=by
 obtain⟨e1,e4,e6,e7,e8,e9⟩:=h;refine⟨⟨by simp,heap_alloc_new _ _,NodsAt.nil_ _ _,e4.below (Jz _ _),by simp[fpN,blk,Value.ownBlock],Db e6 _,Db e7 _,Db e8 _,e9.alloc e9.size _⟩,fun hb=>?_,Nz e8⟩;have:=(e4.fp_lt _ hb).2;omega
theorem jA{w:World}{v:Value}{f:AR}{m:Nat}{dvv:Value}{L:List GY}{S:Nat}{next:Int}{ns:List Nod}{nvv:Value}{ys:List (Nod×Value)}{wr W2:World}{o:Obj}{dvv':Value}{d:Dvc}
    (h:Ny w v L dvv S next ns ns.length nvv ys wr) (hf:f[m]?=some d) (hL:flsOf L=f.take m) (hnx:d.next=next) (hns:d.nodes=ns) (hfew:ns.length<=few) (hfl:f.length<=few)
    (h5:(wr.alloc o).grownBy W2 dvv.ownBlock) (hown:OwnL 2 Nx 148 W2 w.heap.size dvv' (L++[(next,nvv,ys)])) (hat:dvv'.ownBlock=dvv.ownBlock\/dvv'.ownBlock=some (wr.heap.size+1)):
    UH w v f (m+1) dvv' (L++[(next,nvv,ys)]) (W2.setCell ⟨w.heap.size+1+1,0,none⟩ dvv'):=by
 obtain⟨e1,e2,e3,e4,e5,e6,e7,e8,e9⟩:=h;have hml:=(AZ.1 hf).1;have z:=e9.size;have h4:=Jz wr o;have n4:=e3.below h4;have d4:=e4.below h4
 have hyl:ys.length=ns.length:=by
  have:=congrArg List.length e1
  simpa using this
 have hnd':=List.nodup_append.1 e4.2.2.1;have row:∀b,b∉blk dvv->some b≠dvv.ownBlock:=fun b hb e=>hb (mem_blk.2 e.symm)
 have hnew:∀b∈blk dvv',b∈blk dvv\/b=wr.heap.size+1:=by
  intro b hb;rw[mem_blk]at hb;rcases hat with e|e
  ·left;rw[mem_blk,<-e];exact hb
  right;rw[e]at hb;exact(Option.some.inj hb).symm
 have n5:NodsAt W2 w.heap.size nvv ys:=n4.frame h5 fun b hb=>row b fun hb'=>(e5 b hb).1 (List.mem_append_left _ hb')
 have l5:∀x∈L,NodsAt W2 w.heap.size x.2.1 x.2.2/\x.2.2.length<=few:=fun x hx=>
  ⟨(d4.2.1 x hx).1.frame h5 fun b hb=>row b fun hb'=>hnd'.2.2 b hb' b (List.mem_flatMap.2 ⟨x,hx,hb⟩) rfl,(d4.2.1 x hx).2⟩
 have d5:DvcsAt W2 w.heap.size dvv' (L++[(next,nvv,ys)]):=by
  refine⟨hown,?_,?_,?_⟩
  ·intro x hx;rcases List.mem_append.1 hx with hx|hx
   ·exact l5 x hx
   obtain rfl:x=(next,nvv,ys):=by simpa using hx
   exact⟨n5,by show ys.length<=few;omega⟩
  ·rw[j8];refine Rv (UG _) (Rv hnd'.2.1 e3.2.2 ?_) ?_
   ·exact fun b hb hb'=>(e5 b hb').1 (List.mem_append_right _ hb)
   intro b hb hb';rcases hnew b hb with kd|kd
   ·rcases List.mem_append.1 hb' with hb'|hb'
    ·exact hnd'.2.2 b kd b hb' rfl
    exact(e5 b hb').1 (List.mem_append_left _ kd)
   rcases List.mem_append.1 hb' with hb'|hb'
   ·have:=(e4.fp_lt b (List.mem_append_right _ hb')).2;omega
   have:=(e3.fp_lt b hb').2;omega
  have hll:L.length=m:=by
   have:=congrArg List.length hL;simp[flsOf]at this;omega
  rw[List.length_append,hll];show m+1<=few;omega
 have o4:OwnL 2 Nx 148 (wr.alloc o) w.heap.size dvv L:=d4.1
 have box2:∀(b:Nat) (cs:Array Value),wr.heap[b]?=some (.cells cs 39 (0,0))->W2.heap[b]?=some (.cells cs 39 (0,0)):=fun b cs hb=>
  Pm (Db hb o) h5 (row b (o4.not_mem (Db hb o) (by decide)))
 have hne:w.heap.size+1+1∉fpD dvv' (L++[(next,nvv,ys)]):=by
  intro hb;have kt:=box2 _ _ e8;rcases List.mem_append.1 hb with hb|hb
  ·exact d5.1.not_mem kt (by decide) hb
  obtain⟨x,hx,hb⟩:=List.mem_flatMap.1 hb;have hx5:=(d5.2.1 x hx).1;rcases List.mem_append.1 hb with hb|hb
  ·exact hx5.1.not_mem kt (by decide) hb
  obtain⟨y,hy,hb⟩:=List.mem_flatMap.1 hb;exact(hx5.2.1 y hy).1.not_mem kt (by decide) hb
 refine⟨?_,d5.set_ hne _,Nv (box2 _ _ e6) (by show _≠w.heap.size+1+1;omega) _,Nv (box2 _ _ e7) (by show _≠w.heap.size+1+1;omega) _,Of (box2 _ _ e8) 0 _,?_⟩
 ·have hd:dvcOf (next,nvv,ys)=d:=by
     unfold dvcOf;rw[e1,List.take_length,<-hnx,<-hns]
  unfold flsOf at hL ⊢;rw[List.map_append,hL,List.take_add_one,hf];simp[hd]
 exact((e9.trans (h4.mono e9.size)).grown h5 (by rw[World.size_alloc];omega) fun b hb=>(e4.fp_lt b (List.mem_append_left _ (mem_blk.2 hb))).1).setCell (by show w.heap.size<=w.heap.size+1+1;omega) _
end Go.Proofs.YtbgnigjfkbmceaaGreatDoor.Old
namespace Go.Proofs.YtbgnigjfkbmceaaGreatDoor.Old
open Go.RowKit
theorem jB{y:Nod×Value}(h:y.2.oneCell'=true)(j:Nat):(nodCell y j).oneCell'=true:=by
 unfold nodCell;split<;>first|rfl|exact h
theorem jC(n:Nod)(e:Value):∀j,j<8->(#[.int .i64 n.ino, .int .i64 n.kind, .int .i64 n.mode, .int .i64 n.uid, .int .i64 n.gid, .int .i64 n.parent, .string n.target,e]:Array Value)[j]?=some (nodCell (n,e) j):=by
 intro j hj
 match j,hj with
 |0,_=>rfl
 |1,_=>rfl
 |2,_=>rfl
 |3,_=>rfl
 |4,_=>rfl
 |5,_=>rfl
 |6,_=>rfl
 |7,_=>rfl
theorem jD{w:World}{v:Value}{L:List GY}{dvv:Value}{S:Nat}{next:Int}{ns:List Nod}{k:Nat}{nvv:Value}{ys:List (Nod×Value)}{wr W4 W5:World}(h:Ny w v L dvv S next ns k nvv ys wr)(h4:Below wr.heap.size wr W4)
    (h5:W4.grownBy W5 nvv.ownBlock):W5.heap[S]?=some (.cells #[.int .i64 next,nvv] 148 (0,0)):=
 Pm (BY h.2.1 h4 (Nz h.2.1)) h5 (fun e=>(h.2.2.2.2.1 S (List.mem_append_left _ (mem_blk.2 e.symm))).2 rfl)
theorem Y1{α:Type}{sz:Nat}{cell:α->Nat->Value}{E:TypeId}{w:World}{base:Nat}{v:Value}{xs:List α}(h:OwnL sz cell E w base v xs){n:Nat}(hn:xs.length=n):∃A c,v= .slice A n c:=by
 subst hn;exact h.form
theorem Y2{w:World}{base:Nat}{v:Value}{L:List GY}(h:DvcsAt w base v L){b:Nat}{cs:Array Value}(hb:w.heap[b]?=some (.cells cs 39 (0,0))):b∉fpD v L:=by
 intro hm;rcases List.mem_append.1 hm with hm|hm
 ·exact h.1.not_mem hb (by decide) hm
 obtain⟨x,hx,hm⟩:=List.mem_flatMap.1 hm;have hx5:=(h.2.1 x hx).1;rcases List.mem_append.1 hm with hm|hm
 ·exact hx5.1.not_mem hb (by decide) hm
 obtain⟨y,hy,hm⟩:=List.mem_flatMap.1 hm;exact(hx5.2.1 y hy).1.not_mem hb (by decide) hm
theorem jE{w:World}{v:Value}{L:List GY}{dvv:Value}{S:Nat}{next:Int}{ns:List Nod}{k:Nat}{nvv:Value}{ys:List (Nod×Value)}{wr W5:World}{o:Obj}(h:Ny w v L dvv S next ns k nvv ys wr)
    (h5:(wr.alloc o).grownBy W5 dvv.ownBlock):W5.heap[w.heap.size+1+1]?=some (.cells #[dvv] 39 (0,0)):=
 Pm (Db h.2.2.2.2.2.2.2.1 o) h5 (fun e=>Y2 h.2.2.2.1 h.2.2.2.2.2.2.2.1 (List.mem_append_left _ (mem_blk.2 e.symm)))
theorem jF(nx:Int)(v:Value)(ys:List (Nod×Value)):∀j,j<2->(#[.int .i64 nx,v]:Array Value)[j]?=some (Nx (nx,v,ys) j):=by
 intro j hj
 match j,hj with
 |0,_=>rfl
 |1,_=>rfl
theorem jG(nx:Int)(A:Option Addr)(n c:Nat)(ys:List (Nod×Value))(j:Nat):(Nx (nx, .slice A n c,ys) j).oneCell'=true:=by
 unfold Nx;split<;>rfl
set_option maxRecDepth 100000 in
set_option maxHeartbeats 2000000 in
theorem Copy_any(v:Value)(f:AR)(w:World)(hf:FlsR w (Old w) v f):
    Calls prog 182 #[v] w fun e w'=>∃dv L,e= .returned (.agg #[dv])/\DvcsAt w' w.heap.size dv L/\flsOf L=f/\Below w.heap.size w w':=by
 obtain⟨d,rfl,xs,hxf,⟨A,c,rfl,hc,hl,hr⟩,hn⟩:=hf;have hfl:f.length=xs.length:=(iT hxf).symm;have hlf:=hl;unfold few at hl
 go_enter Tryz.func182,Tryz.ntmps182
 go_wp2_with fail
 have HX:=Lib.hid hxf;have HFL:=Lib.hid hfl;have HN:=Lib.hid hn;clear hxf hfl hn
 go_loopw [4] (fun i wr=>∃(m:Nat) (dvv:Value) (L:List GY),m<=xs.length/\i= .int .i64 m/\UH w (.slice A xs.length c) f m dvv L wr) (fun i _=>xs.length - (intOf i).toNat)
 case atStart=>
  refine⟨0, .slice none 0 0,[],by omega,rfl,by simp[flsOf],DvcsAt.nil_ _ _,Pp _ _ _ _,Pq _ _ _ _,Pr _ _ _ _,Po _ _ _ _⟩
 case round=>
  obtain⟨m,dvv,L,hm,rfl,hout⟩:=hrel;have hbw:Below w.heap.size w wr:=hout.2.2.2.2.2;have c0:wr.cell? ⟨w.heap.size,0,none⟩=some (.slice A xs.length c):=by rw[N9 hout.2.2.1];rfl
  by_cases hlt:m<xs.length
  ·have hx:xs[m]?=some xs[m]:=B7 hlt;obtain⟨b,off,rfl,hb,hcell⟩:=(hr.keep (Ru hbw)) (by omega);have h0:=hcell m _ 0 hx (by omega);have h1:=hcell m _ 1 hx (by omega);obtain⟨ys0,hy0,⟨A1,c1,hv1,ka,hl1,hr1⟩,hn1⟩:=HN.out _ (Aj hx);simp only[dvcCell,hv1,Nat.add_zero]at h0 h1;have hdm:f[m]?=some xs[m].1:=by rw[<-HX.out];simp[hlt]
   have HD:=Lib.hid hdm;have HY:=Lib.hid hy0;have HV:=Lib.hid hv1;have HX':=Lib.hid hx;have HN1:=Lib.hid hn1;have hl1f:=hl1;unfold few at hl1;unfold Old at hb;obtain⟨hin,hSn,hSB⟩:=j9 hout xs[m].1.next (ys0.map (·.1));have HS:=Lib.hid hSn;have HIN:=Lib.hid hin;have HOUT:=Lib.hid hout;clear hcell hdm hy0 hv1 hx hn1 hSn hin hout;generalize hnx:xs[m].1.next=nx at *;have HNX:=Lib.hid hnx;clear hnx
   go_wp2_with fail
   obtain⟨wo,hwo⟩:∃wo:World,wo=wr:=⟨_,rfl⟩;subst hwo
   go_loopw [6] (fun i wr=>∃(k:Nat) (nvv:Value) (ys:List (Nod×Value)),k<=ys0.length/\i= .int .i64 k/\Ny w (.slice (some ⟨b,off,none⟩) xs.length c) L dvv wo.heap.size nx (ys0.map (·.1)) k nvv ys wr) (fun i _=>ys0.length - (intOf i).toNat)
   case atStart=>exact⟨0,_,_,by omega,rfl,HIN.out⟩
   case round=>
    obtain⟨k,nvv,ys,hk,rfl,hin⟩:=hrel;have ke:Below w.heap.size w wr:=hin.2.2.2.2.2.2.2.2;have c0':wr.cell? ⟨w.heap.size,0,none⟩=some (.slice (some ⟨b,off,none⟩) xs.length c):=by rw[N9 hin.2.2.2.2.2.1];rfl
    have hcell':=hr.keep (Ru ke);obtain⟨b',off',hbo,_,hcell'⟩:=hcell' (by omega);simp only[Option.some.injEq,Addr.mk.injEq,and_true]at hbo;obtain⟨rfl,rfl⟩:=hbo;have h1':=hcell' m _ 1 HX'.out (by omega);simp only[dvcCell,HV.out]at h1';clear hcell' h0 h1 c0;by_cases hkl:k<ys0.length
    ·have hy:ys0[k]?=some ys0[k]:=B7 hkl;obtain⟨b1,off1,rfl,kd,hcell1⟩:=(hr1.keep (Ru ke)) (by omega);obtain⟨n0,n1,n2,n3,n4,n5,n6,n7⟩:=j4 (fun j hj=>hcell1 k _ j hy hj);have hev:=HN1.out _ (Aj hy);have hnk:(ys0.map (·.1))[k]?=some ys0[k].1:=by simp[hkl]
     have HNK:=Lib.hid hnk;generalize ys0[k]=y at *;obtain⟨n,ev⟩:=y;simp only at hev n0 n1 n2 n3 n4 n5 n6 n7;have hlen:=hev;obtain⟨Ae,ce,rfl,hce,hle,hre⟩:=hev;have HE:=Lib.hid hlen;have HIN2:=Lib.hid hin;have HB2:=Lib.hid ke;have hS1:wo.heap.size<wr.heap.size:=Nz hin.2.1;have hSc:wr.cell? ⟨wo.heap.size,1,none⟩=some nvv:=by rw[N9 hin.2.1];rfl
     obtain⟨An,cn,hnv⟩:=hin.2.2.1.1.form;subst hnv;have hbs:=ke.size;clear hcell1 hnk hy hlen hre hin ke
     go_wp2_with (first
      |(at_builtin;refine iZ (cell:=entCell) (D:=Old w) rfl (.const (.slice none 0 0)) (.tmp 43) _ rfl j0 (by omega) (by omega) (.slice Ae n.entries.length ce) n.entries rfl rfl (HE.out.keep (Ru (HB2.out.alloc (by omega) _))) (fun y _ j _=>j5 y j) ?_;intro A2 c2 w2 hown ke;obtain⟨hbw2,hz2,k2⟩:=iU ke;obtain⟨k2c,k2f⟩:=CS k2;have hSc2:=(hbw2.cell (p:=⟨wo.heap.size,1,none⟩) hS1).trans hSc;clear ke)
      |(at_builtin;refine UF (cell:=nodCell) (xs:=ys) (ys:=[(n, .slice A2 n.entries.length c2)]) (base:=w.heap.size) (D:=fun _=>True) (v:= .slice An ys.length cn) (sv:= .slice (some ⟨w2.heap.size,0,none⟩) 1 1) rfl (.tmp 47) (.tmp 49) _ rfl j1 (by omega) (by omega) rfl rfl (HIN2.out.2.2.1.1.below ((hbw2.setCell (p:=⟨wr.heap.size,7,none⟩) (As _) _).alloc (by simp[World.setCell];omega) _)) (Xz (by simp[World.setCell]) (jC n _) trivial) (fun y hy j _=>by obtain rfl:=List.mem_singleton.1 hy;exact jB rfl j) (by have:=congrArg List.length HIN2.out.1;simp at this;omega) (by simp[World.setCell];omega) ?_;intro v5 w5 hown5 hg5 hat5;obtain⟨A5,c5,rfl⟩:=Y1 hown5 (n:=ys.length+1) (by simp);obtain⟨k5c,k5f⟩:=CS (jD HIN2.out (by exact(hbw2.setCell (p:=⟨wr.heap.size,7,none⟩) (As _) _).alloc (by simp[World.setCell];omega) _) hg5);clear k2c k2f hSc hSc2))
     go_roundw
     case rel=>exact⟨k+1,_,_,by omega,by go_num,j7 HIN2.out HS.out hSB HNK.out hle (by exact(hbw2.setCell (p:=⟨wr.heap.size,7,none⟩) (As _) _).alloc (by simp[World.setCell];omega) _) (by exact((hown.setb (p:=⟨wr.heap.size,7,none⟩) (by show wr.heap.size<(wr.alloc _).heap.size;simp) _).alloc _).mono (by simp)) hg5 hown5 (by simpa[World.setCell]using hat5)⟩
     case measure=>simp[intOf];omega
    have hke:k=ys0.length:=by omega
    have HK:=Lib.hid hke;have HIN2:=Lib.hid hin;have HB2:=Lib.hid ke;obtain⟨hSc,hSf⟩:=CS hin.2.1;have hS1:wo.heap.size<wr.heap.size:=Nz hin.2.1;have hoc:wr.cell? ⟨w.heap.size+1+1,0,none⟩=some dvv:=by rw[N9 hin.2.2.2.2.2.2.2.1];rfl
    obtain⟨An,cn,hnv⟩:=hin.2.2.1.1.form;subst hnv;obtain⟨Ad,cd,hdv⟩:=hin.2.2.2.1.1.form;subst hdv;have hbs:=ke.size;have hml:L.length<=1000000:=j6 hin.2.2.2.1.2.2.2;have hz3:w.heap.size+1+1<wr.heap.size:=Nz hin.2.2.2.2.2.2.2.1;clear hke hin ke
    go_wp2_with (at_builtin;refine UF (cell:=Nx) (xs:=L) (ys:=[(nx, .slice An ys.length cn,ys)]) (base:=w.heap.size) (D:=fun _=>True) (v:= .slice Ad L.length cd) (sv:= .slice (some ⟨wr.heap.size,0,none⟩) 1 1) rfl (.tmp 53) (.tmp 55) _ rfl j2 (by omega) (by omega) rfl rfl (HIN2.out.2.2.2.1.1.below (Jz _ _)) (Xz rfl (jF _ _ _) trivial) (fun y hy j _=>by obtain rfl:=List.mem_singleton.1 hy;exact jG _ _ _ _ _ j) hml (by simp;omega) ?_;intro v5 w5 hown5 hg5 hat5;obtain⟨A5,c5,rfl⟩:=Y1 hown5 (n:=L.length+1) (by simp);obtain⟨k5c,k5f⟩:=CS (jE HIN2.out hg5);clear hSc hSf hoc)
    go_roundw
    case rel=>exact⟨m+1,_,_,by omega,by go_num,jA (ns:=ys0.map (·.1)) (S:=wo.heap.size) (by have h:=HIN2.out;rw[HK.out]at h;simpa using h) HD.out HOUT.out.1 HNX.out (by simpa using HY.out.symm) (by simpa using hl1f) (by rw[HFL.out];exact hlf) hg5 hown5 (by simpa using hat5)⟩
    case measure=>simp[intOf];omega
  have hme:m=xs.length:=by omega
  have HF:Hid (flsOf L=f):=by
   have h:=hout.1;rw[hme,<-HFL.out,List.take_length]at h;exact h
  have hrc1:wr.cell? ⟨w.heap.size+1+1,0,none⟩=some dvv:=by rw[N9 hout.2.2.2.2.1];rfl
  obtain⟨hrc,hrf⟩:=CS hout.2.2.2.1;obtain⟨Ad,cd,hdv⟩:=hout.2.1.1.form;subst hdv;have HOUT:=Lib.hid hout;clear hout hme
  go_wp2_with fail
  refine bodyPost_ret (v:= .agg #[.slice Ad L.length cd]) (by simp[results,Tryz.results182,go_sem,hrc]) rfl ?_;refine⟨_,L,rfl,HOUT.out.2.1.set_ ?_ _,HF.out,hbw.setCell (by show w.heap.size<=w.heap.size+1;omega) _⟩;exact Y2 HOUT.out.2.1 HOUT.out.2.2.2.1
end Go.Proofs.YtbgnigjfkbmceaaGreatDoor.Old
namespace Go.Proofs.YtbgnigjfkbmceaaGreatDoor
open Go.RowKit
section
variable {St:Nat->Nat->Prop}{w:World}(hst:∀b o,St b o->b<w.heap.size)
include hst
theorem UJ{α:Type}{sz:Nat}{enc:α->List AV}{cell:α×Value->Nat->Value}{Sub:α->Value->Prop}{xs:List α}{v:Value}(hsz:0<sz)(hfew:xs.length<=1000)(h:Ai St w (.sl sz (xs.map enc) none) v)
    (hrow:∀x∈xs,(enc x).length=sz->∀c:Nat->Option Value,(∀j av,(enc x)[j]?=some av->∃u,c j=some u/\Ai St w av u)->∃u,Sub x u/\∀j,j<sz->c j=some (cell (x,u) j)):
    ∃ys:List (α×Value),ys.map (·.1)=xs/\Old.ListR sz cell w (Old.Old w) v ys/\∀y∈ys,Sub y.1 y.2:=by
 simp only[Ai]at h;obtain⟨_,A,cap,rfl,h2,h3,h4⟩:=h;rw[List.length_map]at h2;rcases Nat.eq_zero_or_pos xs.length with h0|h0
 ·obtain rfl:=ER h0;exact⟨[],rfl,⟨A,cap,by simp,by simp,by simp,fun h=>absurd h (by simp)⟩,by simp⟩
 obtain⟨b,off,rfl,h6⟩:=h4.resolve_left (fun e=>by simp at e;subst e;simp at h0)
 have each:∀i (hi:i<xs.length),∃u,Sub xs[i] u/\∀j,j<sz->w.cell? ⟨b,off+i * sz+j,none⟩=some (cell (xs[i],u) j):=by
  intro i hi;have hr:(xs.map enc)[i]?=some (enc xs[i]):=by simp[hi]
  obtain⟨k1,k2⟩:=NV h6 hr
  exact hrow _ (List.getElem_mem hi) k1 _ fun j av hj=>by
   obtain⟨_,u,q1,_,q2⟩:=PM k2 hj;exact⟨u,q1,q2⟩
 let g:Fin xs.length->α×Value:=fun i=>(xs[i.1],(each i.1 i.2).choose);have hg:∀i (hi:i<xs.length),(List.ofFn g)[i]?=some (xs[i],(each i hi).choose):=fun i hi=>by simp[g,hi]
 have hlen:(List.ofFn g).length=xs.length:=by simp
 have hbs:b<w.heap.size:=by
  obtain⟨k1,k2⟩:=NV h6 (i:=0) (r:=enc xs[0]) (by simp[h0]);have:(enc xs[0])[0]?=some (enc xs[0])[0]:=B7 (by omega);exact hst _ _ (PM k2 this).1
 refine⟨List.ofFn g,?_,⟨_,cap,by rw[List.length_map,hlen],by rw[hlen];exact h2,by rw[hlen];unfold Old.few;omega,fun _=>⟨b,off,rfl,hbs,fun i y j hi hj=>?_⟩⟩,fun y hy=>?_⟩
 ·apply List.ext_getElem?;intro i;rcases Nat.lt_or_ge i xs.length with hi|hi
  ·rw[List.getElem?_map,hg i hi];simp[hi]
  rw[List.getElem?_eq_none (by simpa using hi),List.getElem?_eq_none hi]
 ·have hil:i<xs.length:=by rw[<-hlen];exact(AZ.1 hi).1
  rw[hg i hil]at hi;injection hi with hi;subst hi;exact(each i hil).choose_spec.2 j hj
 obtain⟨i,hi⟩:=List.getElem?_of_mem hy;have hil:i<xs.length:=by rw[<-hlen];exact(AZ.1 hi).1
 rw[hg i hil]at hi;injection hi with hi;subst hi;exact(each i hil).choose_spec.1
theorem jH{es:List BQ}{v:Value}(hfew:es.length<=1000)(h:Ai St w (.sl 2 (es.map D6) none) v):Old.EntsR w (Old.Old w) v es:=by
 obtain⟨ys,h1,⟨A,c,h2,h3,h4,h5⟩,_⟩:=UJ hst (cell:=fun y:BQ×Value=>Old.entCell y.1) (Sub:=fun _ _=>True) (by omega) hfew h (fun x _ _ c hc=>⟨.bool true,trivial,fun j hj=>by
  match j,hj with
  |0,_=>obtain⟨u,q1,q2⟩:=hc 0 _ rfl;simp only[Ai]at q2;rw[q1,q2];rfl
  |1,_=>obtain⟨u,q1,q2⟩:=hc 1 _ rfl;simp only[Ai]at q2;rw[q1,q2];rfl⟩)
 subst h1;refine⟨A,c,by rw[h2,List.length_map],by simpa using h3,by simpa using h4,fun hn=>?_⟩;obtain⟨b,off,e1,e2,e3⟩:=h5 (by simpa using hn);refine⟨b,off,e1,e2,fun i x j hi hj=>?_⟩;rw[List.getElem?_map]at hi
 cases hy:ys[i]? with
 |none=>rw[hy]at hi;cases hi
 |some y=>
   rw[hy]at hi;injection hi with hi;subst hi;exact e3 i y j hy hj
theorem jJ{ns:List Nod}{v:Value}(hfew:ns.length<=1000)(he:∀n∈ns,n.entries.length<=1000)(h:Ai St w (.sl 8 (ns.map Al) none) v):Old.NodsR w (Old.Old w) v ns:=
 UJ hst (cell:=Old.nodCell) (Sub:=fun n u=>Old.EntsR w (Old.Old w) u n.entries) (by omega) hfew h (fun x hx _ c hc=>by
  obtain⟨u0,p0,q0⟩:=hc 0 _ rfl;obtain⟨u1,p1,q1⟩:=hc 1 _ rfl;obtain⟨u2,p2,q2⟩:=hc 2 _ rfl;obtain⟨u3,p3,q3⟩:=hc 3 _ rfl;obtain⟨u4,p4,q4⟩:=hc 4 _ rfl;obtain⟨u5,p5,q5⟩:=hc 5 _ rfl;obtain⟨u6,p6,q6⟩:=hc 6 _ rfl;obtain⟨u7,p7,q7⟩:=hc 7 _ rfl;have q7':=jH hst (he x hx) q7;simp only[Ai]at q0 q1 q2 q3 q4 q5 q6;subst q0 q1 q2 q3 q4 q5 q6;refine⟨u7,q7',fun j hj=>?_⟩
  match j,hj with
  |0,_=>exact p0
  |1,_=>exact p1
  |2,_=>exact p2
  |3,_=>exact p3
  |4,_=>exact p4
  |5,_=>exact p5
  |6,_=>exact p6
  |7,_=>exact p7)
theorem Y3{f:AR}(hf:FlsB f){v:Value}(h:Ai St w (.agg (Ap f)) v):Old.FlsR w (Old.Old w) v f:=by
 simp only[Ai,Ap,Bc]at h;obtain⟨ys,rfl,z,zs,rfl,h,rfl⟩:=h;have h':Ai St w (.sl 2 (f.map CQ) none) z:=by simp only[Ai];exact h
 refine⟨z,rfl,UJ hst (cell:=Old.dvcCell) (Sub:=fun d u=>Old.NodsR w (Old.Old w) u d.nodes) (by omega) hf.few h' (fun x hx _ c hc=>?_)⟩;obtain⟨u0,p0,q0⟩:=hc 0 _ rfl;obtain⟨u1,p1,q1⟩:=hc 1 _ rfl;have q1':=jJ hst (hf.nodes x hx) (hf.ents x hx) q1;simp only[Ai]at q0;subst q0;refine⟨u1,q1',fun j hj=>?_⟩
 match j,hj with
 |0,_=>exact p0
 |1,_=>exact p1
end
theorem Ps{α:Type}{sz:Nat}{cell:α->Nat->Value}{E:TypeId}{w:World}{base:Nat}{v:Value}{xs:List α}(h:Old.OwnL sz cell E w base v xs){St:Nat->Nat->Prop}(hst:∀b,v.ownBlock=some b->∀o,St b o){enc:α->List AV}(hlen:∀x∈xs,(enc x).length=sz)
    (hx:∀x∈xs,∀j av,(enc x)[j]?=some av->Ai St w av (cell x j)):Ai St w (.sl sz (xs.map enc) none) v:=by
 simp only[Ai,true_and];obtain⟨⟨h0,h1⟩,h2⟩:=h;rcases h1 with⟨rfl,hn⟩|⟨g,cap,cur,rfl,hb,hg,hnc,hcm,hcs,htk⟩
 ·exact⟨none,0,by rw[List.length_map,hn],by rw[List.length_map,hn];exact As _,BG _, .inl (by rw[ER hn];rfl)⟩
 refine⟨_,cap,by rw[List.length_map],by rw[List.length_map];exact hnc,hcm, .inr ⟨g,0,rfl,PN fun i r hi=>?_⟩⟩;rw[List.getElem?_map]at hi
 cases hy:xs[i]? with
 |none=>rw[hy]at hi;cases hi
 |some x=>
   rw[hy]at hi;injection hi with hi;subst hi;have hm:=Aj hy;refine⟨hlen x hm,OH fun j av hj=>?_⟩;have hjl:j<sz:=by rw[<-hlen x hm];exact(AZ.1 hj).1
   have hil:=(AZ.1 hy).1
   have hlt:i * sz+j<xs.length * sz:=by
    have h2:(i+1) * sz<=xs.length * sz:=Nat.mul_le_mul_right sz hil;rw[Nat.add_mul]at h2;omega
   have hc:cur.toList[i * sz+j]?=some (cell x j):=by
    rw[<-Old.flat_get xs i j x hy hjl,<-htk,List.getElem?_take,if_pos hlt]
   refine⟨hst g rfl _,cell x j,?_,h2 g cur E rfl hg _ (Aj hc),hx x hm j av hj⟩;rw[Nat.zero_add];simp only[World.cell?,hg]
   simpa using hc
theorem Y4{α:Type}{sz:Nat}{cell:α->Nat->Value}{E:TypeId}{w:World}{base:Nat}{v:Value}{xs:List α}(h:Old.OwnL sz cell E w base v xs)(h0:0<xs.length){G:Gh}{rows:List (List AV)}(hp:0<sz)(hl:rows.length=xs.length)(hlen:∀r∈rows,r.length=sz)
    (hx:∀(i:Nat) (x:α) (r:List AV),xs[i]?=some x->rows[i]?=some r->∀j av,r[j]?=some av->rep G w av (cell x j)):
    ∃g cap,v= .slice (some ⟨g,0,none⟩) xs.length cap/\base<=g/\g<w.heap.size/\xs.length<=cap/\cap<=maxLen/\Qk G w g (Cm sz cap rows):=by
 obtain⟨⟨h3,h1⟩,h2⟩:=h;rcases h1 with⟨rfl,hn⟩|⟨g,cap,cur,rfl,hb,hg,hnc,hcm,hcs,htk⟩
 ·omega
 refine⟨g,cap,rfl,hb,(Array.getElem?_eq_some_iff.1 hg).1,hnc,hcm,cur.toList,E,by simpa using hg,?_,h2 g cur E rfl hg⟩;have e:cur.toList=cur.toList.take (xs.length * sz)++cur.toList.drop (xs.length * sz):=(List.take_append_drop _ _).symm;rw[e];unfold Cm;refine Pa ?_ ?_
 ·rw[htk];refine TZ (by rw[Ng hlen,hl,Old.flat_length]) fun i x hi=>?_;have hii:i=i / sz * sz+i % sz:=by rw[Nat.mul_comm];exact(Nat.div_add_mod i sz).symm
  have hk:i % sz<sz:=Nat.mod_lt _ hp;rw[hii,Rf hlen hk]at hi
  cases hq:rows[i / sz]? with
  |none=>rw[hq]at hi;simp at hi
  |some r=>
    rw[hq]at hi;have hqx:i / sz<xs.length:=by rw[<-hl];exact(AZ.1 hq).1
    have hxx:xs[i / sz]?=some xs[i / sz]:=B7 hqx;refine⟨cell xs[i / sz] (i % sz),?_,hx _ _ r hxx hq _ _ hi⟩;have:=Old.flat_get (cell:=cell) xs (i / sz) (i % sz) _ hxx hk
    rwa [<-hii]at this
 have:(cur.toList.drop (xs.length * sz)).length=(cap - rows.length) * sz:=by
  rw[List.length_drop,hl,Nat.sub_mul,<-hcs];simp
 rw[<-this];exact Rg _
theorem jK{α β:Type}{f:α->List β}{l:List α}{i:Nat}{x:α}(hx:l[i]?=some x):l.flatMap f=(l.take i).flatMap f++(f x++(l.drop (i+1)).flatMap f):=by
 obtain⟨hi,rfl⟩:=AZ.1 hx;rw[<-List.flatMap_cons,<-List.flatMap_append,<-List.drop_eq_getElem_cons hi,List.take_append_drop]
def JJ(f:AR)(K:Nat)(d:Dvc)(j cap1:Nat):List (List AV):=(f.map CQ).set K (L7 d j cap1)
theorem Rw(f:AR)(K:Nat)(d:Dvc)(j cap1:Nat):∀r∈JJ f K d j cap1,r.length=2:=by
 intro r hr;rcases List.mem_or_eq_of_mem_set hr with h|h
 ·exact Xr _ r h
 rw[h];rfl
theorem jL(f:AR)(K:Nat)(d:Dvc)(j cap1:Nat):(JJ f K d j cap1).length=f.length:=by simp[JJ]
theorem Og(f:AR)(K:Nat)(dK:Dvc)(hf:FlsB f)(hK:f[K]?=some dK)(hne:0<dK.nodes.length):
    ACall prog 182 [.agg (Ap f)] [] (fun r b t=>t=[]/\∃cap cap1,f.length<=cap/\dK.nodes.length<=cap1/\b=[Cm 2 cap (JJ f K dK 1 cap1),Cm 8 cap1 (dK.nodes.map Al)]/\r= .agg [.bs 0 0 2 f.length cap]):=by
 intro w St bl vs hr hv;have hbl:bl=[]:=by have:=hr.bxlen;simpa using this
 subst hbl;simp only[AN]at hv;obtain⟨z,zs,rfl,hz,rfl⟩:=hv;have hz':Ai St w (.agg (Ap f)) z:=by have:=JT _ _ hz;simpa[DW,FZ,Ap]using this
 have hF:=Y3 hr.stlt hf hz';refine Calls.mono (Old.Copy_any z f w hF) ?_;rintro e w' ⟨dv,L,rfl,hD,hL,hB⟩;have hsz:=hB.size;have hLl:L.length=f.length:=by rw[<-hL];simp[Old.flsOf]
 have hKl:=(AZ.1 hK).1
 obtain⟨x,hx,hxd⟩:∃x,L[K]?=some x/\Old.dvcOf x=dK:=by
  have h1:L[K]?=some L[K]:=B7 (by omega);refine⟨_,h1,?_⟩;have:=hK;rw[<-hL,Old.flsOf,List.getElem?_map,h1]at this;injection this
 have hxm:=Aj hx;obtain⟨d1,d2,d3,d4⟩:=hD;obtain⟨e1,e2,e3⟩:=d2 x hxm |>.1;have hyl:0<x.2.2.length:=by rw[<-hxd]at hne;simpa[Old.dvcOf]using hne
 have form:∀{α:Type} {sz:Nat} {cell:α->Nat->Value} {E:TypeId} {base:Nat} {v:Value} {xs:List α},Old.OwnL sz cell E w' base v xs->0<xs.length->∃g cap,v= .slice (some ⟨g,0,none⟩) xs.length cap:=by
  intro α sz cell E base v xs h h0;rcases h.1.2 with⟨_,hn⟩|⟨g,cap,cur,rfl,_⟩
  ·omega
  exact⟨g,cap,rfl⟩
 obtain⟨g0,cap,hdv⟩:=form d1 (by omega);obtain⟨g1,cap1,hnv⟩:=form e1 hyl;have kw:g0∈Old.blk dv:=Old.mem_blk.2 (by rw[hdv];rfl);have kd:g1∈Old.blk x.2.1:=Old.mem_blk.2 (by rw[hnv];rfl);have nd:=List.nodup_append.1 d3;have hin:∀y∈L,∀b∈Old.fpN y.2.1 y.2.2,b∈L.flatMap fun x=>Old.fpN x.2.1 x.2.2:=fun y hy b hb=>List.mem_flatMap.2 ⟨y,hy,hb⟩;have h01:g0≠g1:=fun e=>nd.2.2 g0 kw g1 (hin x hxm g1 (List.mem_append_left _ kd)) e;let St':Nat->Nat->Prop:=fun b o=>St b o\/(w.heap.size<=b/\b<w'.heap.size/\b≠g0/\b≠g1);let G':Gh:=⟨St',[g0,g1],[]⟩
 have hfresh:∀b∈Old.fpD dv L,b≠g0->b≠g1->∀o,St' b o:=fun b hb n0 n1 o=>by
  have:=Old.DvcsAt.fp_lt (w:=w') ⟨d1,d2,d3,d4⟩ b hb;exact .inr ⟨this.1,this.2,n0,n1⟩
 -- a list of entries that lies in blocks that stay
 have hents:∀(y:Nod×Value),Old.OwnL 2 Old.entCell 234 w' w.heap.size y.2 y.1.entries->(∀b∈Old.blk y.2,∀o,St' b o)->Ai St' w' (.sl 2 (y.1.entries.map D6) none) y.2:=by
  intro y hy hb;refine Ps hy (fun b h=>hb b (Old.mem_blk.2 h)) (fun _ _=>rfl) fun e _ j av hj=>?_
  match j,hj with
  |0,hj=>injection hj with hj;subst hj;simp only[Ai];rfl
  |1,hj=>injection hj with hj;subst hj;simp only[Ai];rfl
 have hnod:∀(y:Nod×Value),Old.OwnL 2 Old.entCell 234 w' w.heap.size y.2 y.1.entries->(∀b∈Old.blk y.2,∀o,St' b o)->∀j av,(Al y.1)[j]?=some av->Ai St' w' av (Old.nodCell y j):=by
  intro y hy hb j av hj
  match j,hj with
  |0,hj=>injection hj with hj;subst hj;simp only[Ai];rfl
  |1,hj=>injection hj with hj;subst hj;simp only[Ai];rfl
  |2,hj=>injection hj with hj;subst hj;simp only[Ai];rfl
  |3,hj=>injection hj with hj;subst hj;simp only[Ai];rfl
  |4,hj=>injection hj with hj;subst hj;simp only[Ai];rfl
  |5,hj=>injection hj with hj;subst hj;simp only[Ai];rfl
  |6,hj=>injection hj with hj;subst hj;simp only[Ai];rfl
  |7,hj=>injection hj with hj;subst hj;exact hents y hy hb
  |j+8,hj=>exact absurd hj (by simp[Al])
 have hne0:∀y∈L,∀b∈Old.fpN y.2.1 y.2.2,b≠g0:=fun y hy b hb e=>nd.2.2 g0 kw b (hin y hy b hb) e.symm
 have hfp:∀y∈L,∀b∈Old.fpN y.2.1 y.2.2,b∈Old.fpD dv L:=fun y hy b hb=>List.mem_append_right _ (hin y hy b hb)
 -- the boxes
 obtain⟨g1',cap1',q1,q2,q3,q4,q5,q6⟩:=Y4 (G:=G') e1 hyl (rows:=dK.nodes.map Al) (by omega) (by rw[<-hxd];simp[Old.dvcOf]) (N8 _) (by
  intro i y r hi hri j av hj;have hnm:dK.nodes[i]?=some y.1:=by rw[<-hxd,Old.dvcOf];simp[hi]
  rw[List.getElem?_map,hnm]at hri;injection hri with hri;subst hri;have hym:=Aj hi;refine KL _ _ (hnod y (e2 y hym).1 (fun b hb=>hfresh b (hfp x hxm b (List.mem_append_right _ (List.mem_flatMap.2 ⟨y,hym,hb⟩))) (hne0 x hxm b (List.mem_append_right _ (List.mem_flatMap.2 ⟨y,hym,hb⟩))) fun e=>?_) j av hj)
  exact(List.nodup_append.1 e3).2.2 g1 kd b (List.mem_flatMap.2 ⟨y,hym,hb⟩) e.symm)
 rw[hnv]at q1;simp only[Value.slice.injEq,Option.some.injEq,Addr.mk.injEq,and_true,true_and]at q1;obtain⟨rfl,rfl⟩:=q1
 obtain⟨g0',cap',p1,p2,p3,p4,p5,p6⟩:=Y4 (G:=G') d1 (by omega) (rows:=JJ f K dK 1 cap1) (by omega) (by rw[jL,hLl]) (Rw _ _ _ _ _) (by
  intro i y r hi hri j av hj;have hfi:f[i]?=some (Old.dvcOf y):=by rw[<-hL,Old.flsOf,List.getElem?_map,hi];rfl
  have hym:=Aj hi;unfold JJ at hri;by_cases hiK:K=i
  ·subst hiK;rw[hx]at hi;injection hi with hi;subst hi;rw[List.getElem?_set_self (by simp;omega)]at hri;injection hri with hri;subst hri
   match j,hj with
   |0,hj=>injection hj with hj;subst hj;simp only[rep];rw[<-hxd];rfl
   |1,hj=>
     injection hj with hj;subst hj;simp only[rep];refine⟨g1,rfl,?_,?_,q5⟩
     ·show x.2.1=_;rw[hnv,<-hxd];simp[Old.dvcOf]
     rw[<-hxd];simpa[Old.dvcOf]using q4
   |j+2,hj=>exact absurd hj (by simp[L7])
  rw[List.getElem?_set_ne hiK,List.getElem?_map,hfi]at hri;injection hri with hri;subst hri
  have hn1:∀b∈Old.fpN y.2.1 y.2.2,b≠g1:=by
   intro b hb e;subst e;have hd2:=nd.2.1;have hil:=(AZ.1 hi).1;rw[jK hx]at hd2;obtain⟨c1,c2,c3⟩:=List.nodup_append.1 hd2;obtain⟨c4,c5,c6⟩:=List.nodup_append.1 c2;rcases Nat.lt_or_ge i K with hlt|hge
   ·exact c3 b (List.mem_flatMap.2 ⟨y,List.mem_iff_getElem?.2 ⟨i,by rw[List.getElem?_take,if_pos hlt];exact hi⟩,hb⟩) b (List.mem_append_left _ (List.mem_append_left _ kd)) rfl
   exact c6 b (List.mem_append_left _ kd) b (List.mem_flatMap.2 ⟨y,List.mem_iff_getElem?.2 ⟨i - (K+1),by rw[List.getElem?_drop,show K+1+(i - (K+1))=i by omega];exact hi⟩,hb⟩) rfl
  obtain⟨f1,f2,f3⟩:=(d2 y hym).1
  match j,hj with
  |0,hj=>injection hj with hj;subst hj;simp only[rep];rfl
  |1,hj=>
    injection hj with hj;subst hj
    have key:=Ps f1 (St:=St') (fun b h=>hfresh b (hfp y hym b (List.mem_append_left _ (Old.mem_blk.2 h))) (hne0 y hym b (List.mem_append_left _ (Old.mem_blk.2 h))) (hn1 b (List.mem_append_left _ (Old.mem_blk.2 h)))) (enc:=fun y=>Al y.1) (fun _ _=>rfl) fun z hz j av hj=>
     hnod z (f2 z hz).1 (fun b hb=>hfresh b (hfp y hym b (List.mem_append_right _ (List.mem_flatMap.2 ⟨z,hz,hb⟩))) (hne0 y hym b (List.mem_append_right _ (List.mem_flatMap.2 ⟨z,hz,hb⟩))) (hn1 b (List.mem_append_right _ (List.mem_flatMap.2 ⟨z,hz,hb⟩)))) j av hj
    have e:((Old.dvcOf y).nodes.map Al)=y.2.2.map fun y=>Al y.1:=by simp[Old.dvcOf]
    rw[e];exact KL _ _ key
  |j+2,hj=>exact absurd hj (by simp[CQ]))
 rw[hdv]at p1;simp only[Value.slice.injEq,Option.some.injEq,Addr.mk.injEq,and_true,true_and]at p1;obtain⟨rfl,rfl⟩:=p1;have hst:∀b o,St b o->b<w.heap.size:=hr.stlt;refine⟨.agg [.bs 0 0 2 f.length cap],_,_,G',⟨rfl,cap,cap1,by omega,by rw[<-hxd];simpa[Old.dvcOf]using q4,rfl,rfl⟩,⟨?_,?_,?_,?_,rfl,?_,?_,?_,?_,rfl,?_,?_,?_⟩,⟨?_,?_,?_⟩,?_⟩
 ·intro i b hi;simp at hi
 ·exact⟨hB.os,hB.tape,hB.output,hB.size,fun k hk _=>hB.block k hk⟩
 ·rintro b o (h|h)
  ·have:=hst b o h;omega
  exact h.2.1
 ·rintro b o (h|h)
  ·exact .inl h
  exact .inr h.1
 ·show[g0,g1].Nodup
  simpa using h01
 ·rintro b hb o (h|h)
  ·have:=hst b o h;simp[G']at hb;rcases hb with rfl|rfl<;>omega
  simp[G']at hb;rcases hb with rfl|rfl
  ·exact h.2.2.1 rfl
  exact h.2.2.2 rfl
 ·intro b hb;simp[G']at hb;rcases hb with rfl|rfl
  ·exact .inl p2
  exact .inl q2
 ·intro i b row hi hrow
  match i,hi,hrow with
  |0,hi,hrow=>simp[G']at hi;simp at hrow;subst hi;subst hrow;exact p6
  |1,hi,hrow=>simp[G']at hi;simp at hrow;subst hi;subst hrow;exact q6
  |i+2,hi,_=>simp[G']at hi
 ·intro g n u T sz rows hg;simp[G']at hg
 ·intro g n u hg;simp[G']at hg
 ·intro g g' n n' u u' hg;simp[G']at hg
 ·exact fun b o h=>⟨.inl h,hB.cell (p:=⟨b,o,none⟩) (hst b o h)⟩
 ·intro i b hi;simp at hi
 ·intro g n u hg;simp at hg
 simp only[rep,AN];exact⟨[dv],rfl,dv,[],rfl,⟨g0,rfl,by rw[hdv,hLl],by omega,p5⟩,rfl⟩
theorem Pt(f:Nat->Option Nat):∀xs:List AV,ES f xs=xs.map (Hn f)
 |[]=>rfl
 |x::xs=>by simp[ES,Pt f xs]
theorem Rx(f:Nat->Option Nat):∀xs:List AV,Jn f xs=xs.map (JY f)
 |[]=>rfl
 |x::xs=>by simp[Jn,Rx f xs]
theorem Pu(g:Nat->Option (List AV)):∀xs:List AV,Ky g xs=xs.map (Fc g)
 |[]=>rfl
 |x::xs=>by simp[Ky,Pu g xs]
theorem Pv(F:AV->AV)(h:F .any= .any)(sz cap:Nat)(rows:List (List AV)):(Cm sz cap rows).map F=Cm sz cap (rows.map (·.map F)):=by
 simp[Cm,h,List.map_flatten]
theorem UK{n m:Nat}{xs:List AV}:Af n m xs=true↔∀x∈xs,Aa n m x=true:=by
 induction xs with
 |nil=>simp[Af]
 |cons x xs ih=>simp[Af,ih]
theorem UL{n m sz cap:Nat}{rows:List (List AV)}(h:∀r∈rows,Af n m r=true):Af n m (Cm sz cap rows)=true:=by
 rw[UK];intro x hx;unfold Cm at hx;rcases List.mem_append.1 hx with hx|hx
 ·obtain⟨r,hr,hx⟩:=List.mem_flatten.1 hx;exact UK.1 (h r hr) x hx
 rw[(List.mem_replicate.1 hx).2];rfl
def DB(f:AR)(K:Nat)(d:Dvc)(j cap cap1:Nat):List AV:=Cm 2 cap (JJ f K d j cap1)
def NB(ns:List Nod)(cap1:Nat):List AV:=Cm 8 cap1 (ns.map Al)
theorem FG{n m:Nat}{f:AR}{K:Nat}{d:Dvc}{j cap cap1:Nat}(hj:j<n):Af n m (DB f K d j cap cap1)=true:=by
 refine UL fun r hr=>?_;rcases List.mem_or_eq_of_mem_set hr with h|h
 ·obtain⟨d',_,rfl⟩:=List.mem_map.1 h;rfl
 rw[h];simp[L7,Af,Aa,hj]
theorem FH{n m:Nat}{ns:List Nod}{cap1:Nat}:Af n m (NB ns cap1)=true:=by
 refine UL fun r hr=>?_;obtain⟨d',_,rfl⟩:=List.mem_map.1 hr;rfl
section
variable {F:AV->AV}(hany:F .any= .any)(hv:∀x,F (.v x)= .v x)(hs:∀sz rows,F (.sl sz rows none)= .sl sz rows none)
include hany hv hs
theorem UM(ns:List Nod)(cap1:Nat):(NB ns cap1).map F=NB ns cap1:=by
 unfold NB;rw[Pv F hany,List.map_map]
 congr 1
 apply List.map_congr_left;intro n _;simp[Al,hv,hs]
theorem Y5(f:AR):(f.map CQ).map (·.map F)=f.map CQ:=by
 have _:=hany;rw[List.map_map];apply List.map_congr_left;intro n _;simp[CQ,hv,hs]
theorem Y6(f:AR)(K:Nat)(d:Dvc){j j':Nat}(cap cap1:Nat)(hb:F (.bs j 0 8 d.nodes.length cap1)= .bs j' 0 8 d.nodes.length cap1):(DB f K d j cap cap1).map F=DB f K d j' cap cap1:=by
 unfold DB JJ;rw[Pv F hany,List.map_set,Y5 hany hv hs];simp[L7,hv,hb]
theorem jM{f:AR}{K:Nat}{d:Dvc}{j cap cap1:Nat}(hK:f[K]?=some d)(hb:F (.bs j 0 8 d.nodes.length cap1)= .sl 8 (d.nodes.map Al) none):(DB f K d j cap cap1).map F=Cm 2 cap (f.map CQ):=by
 unfold DB JJ;rw[Pv F hany,List.map_set,Y5 hany hv hs];have e:(L7 d j cap1).map F=CQ d:=by simp[L7,hv,hb,CQ]
 rw[e]
 congr 1
 apply List.ext_getElem?;intro i;rw[List.getElem?_set];split
 ·rename_i e1;subst e1;obtain⟨h1,h2⟩:=AZ.1 hK;simp[h1,h2]
 rfl
end
theorem KV{g:Nat->Option Nat}{j j':Nat}(h:g j=some j')(f:AR)(K:Nat)(d:Dvc)(cap cap1:Nat):ES g (DB f K d j cap cap1)=DB f K d j' cap cap1:=by
 rw[Pt];exact Y6 rfl (fun _=>rfl) (fun _ _=>rfl) f K d cap cap1 (by simp[Hn,h])
theorem K0(g:Nat->Option Nat)(ns:List Nod)(cap1:Nat):ES g (NB ns cap1)=NB ns cap1:=by
 rw[Pt];exact UM rfl (fun _=>rfl) (fun _ _=>rfl) ns cap1
theorem UN{g:Nat->Option Nat}{j j':Nat}(h:g j=some j')(f:AR)(K:Nat)(d:Dvc)(cap cap1:Nat):Jn g (DB f K d j cap cap1)=DB f K d j' cap cap1:=by
 rw[Rx];exact Y6 rfl (fun _=>rfl) (fun _ _=>rfl) f K d cap cap1 (by simp[JY,h])
theorem Ry(g:Nat->Option Nat)(ns:List Nod)(cap1:Nat):Jn g (NB ns cap1)=NB ns cap1:=by
 rw[Rx];exact UM rfl (fun _=>rfl) (fun _ _=>rfl) ns cap1
theorem jN(g:Nat->Option (List AV))(ns:List Nod)(cap1:Nat):Ky g (NB ns cap1)=NB ns cap1:=by
 rw[Pu];exact UM rfl (fun _=>rfl) (fun _ _=>rfl) ns cap1
theorem Pw{ns:List Nod}{cap1:Nat}(h:ns.length<=cap1):(NB ns cap1).length=cap1 * 8:=U7 (N8 _) (by simpa using h)
theorem UO{g:Nat->Option (List AV)}{j sz n cap0 cap:Nat}{rows:List (List AV)}(hg:g j=some (Cm sz cap rows))(hr:∀r∈rows,r.length=sz)(hn:n=rows.length)(hc:rows.length<=cap):Fc g (.bs j 0 sz n cap0)= .sl sz rows none:=by
 subst hn;have hl:=U7 hr hc
 have hb:Nat.ble (0+rows.length * sz) (Cm sz cap rows).length=true:=by
  rw[hl,Nat.ble_eq];have:=Nat.mul_le_mul_right sz hc;omega
 simp only[Fc,hg,hb,List.drop_zero];unfold Cm;rw[X7 hr]
theorem jO{n:Nat}{bx:List (List AV)}{k j:Nat}{ns:List Nod}{cap1:Nat}(hn:n<=j)(hj:bx[j]?=some (NB ns cap1)):Ey n bx (k+1) j=some (NB ns cap1):=by
 have:Nat.blt j n=false:=by rw[<-Bool.not_eq_true,Nat.blt_eq];omega
 simp only[Ey,this,hj,Option.map_some,jN]
theorem jP{n:Nat}{bx:List (List AV)}{k i j:Nat}{f:AR}{K:Nat}{d:Dvc}{cap cap1:Nat}(hK:f[K]?=some d)(ka:d.nodes.length<=cap1)(hni:n<=i)(hnj:n<=j)(hi:bx[i]?=some (DB f K d j cap cap1))(hj:bx[j]?=some (NB d.nodes cap1)):
    Ey n bx (k+2) i=some (Cm 2 cap (f.map CQ)):=by
 have:Nat.blt i n=false:=by rw[<-Bool.not_eq_true,Nat.blt_eq];omega
 rw[show k+2=(k+1)+1 from rfl,Ey];simp only[this,hi,Option.map_some,Pu];rw[jM rfl (fun _=>rfl) (fun _ _=>rfl) hK];exact UO (jO hnj hj) (N8 _) (by simp) (by simpa using ka)
theorem NA{n:Nat}{bx:List (List AV)}{k i j:Nat}{f:AR}{K:Nat}{d:Dvc}{cap cap0 cap1:Nat}(hK:f[K]?=some d)(hc:f.length<=cap)(ka:d.nodes.length<=cap1)(hni:n<=i)(hnj:n<=j)(hi:bx[i]?=some (DB f K d j cap cap1))(hj:bx[j]?=some (NB d.nodes cap1)):
    Fc (Ey n bx (k+2)) (.agg [.bs i 0 2 f.length cap0])= .agg (Ap f):=by
 show AV.agg [Fc _ _]=_;unfold Ap;rw[UO (jP hK ka hni hnj hi hj) (Xr _) (by simp) (by simpa using hc)]
theorem Px{sz cap:Nat}{rows:List (List AV)}{q k:Nat}{r:List AV}{x:AV}(hr:∀r∈rows,r.length=sz)(hq:rows[q]?=some r)(hx:r[k]?=some x):(Cm sz cap rows)[0+q * sz+k]?=some x:=by
 have hk:k<sz:=by rw[<-hr r (Aj hq)];exact(AZ.1 hx).1
 have e:=Rf hr hk (q:=q);rw[hq]at e;simp only[Option.bind_some]at e;rw[hx]at e;unfold Cm;rw[Nat.zero_add,DD (AZ.1 e).1];exact e
theorem jQ{sz cap:Nat}{rows:List (List AV)}{q:Nat}{r:List AV}(hr:∀r∈rows,r.length=sz)(hq:rows[q]?=some r):((Cm sz cap rows).drop (0+q * sz)).take sz=r:=by
 have hrl:=hr r (Aj hq);apply List.ext_getElem?;intro k;rw[List.getElem?_take];split
 ·rename_i hk;rw[List.getElem?_drop];have hx:r[k]?=some r[k]:=B7 (by omega);rw[Px hr hq hx,hx]
 rw[List.getElem?_eq_none (by omega)]
theorem UP{sz cap:Nat}{rows:List (List AV)}{q k:Nat}{r r' cs:List AV}(hr:∀r∈rows,r.length=sz)(hq:rows[q]?=some r)(hs:SetAt r k cs r')(hne:cs≠[]):SetAt (Cm sz cap rows) (0+q * sz+k) cs (Cm sz cap (rows.set q r')):=by
 unfold Cm;rw[Nat.zero_add,List.length_set];exact(fZ hr hq hs hne).left _
theorem UQ{f:AR}{K:Nat}{d:Dvc}{j cap1:Nat}(hK:K<f.length):(JJ f K d j cap1)[K]?=some (L7 d j cap1):=by
 unfold JJ;rw[List.getElem?_set_self (by simpa using hK)]
theorem Py{f:AR}{K:Nat}{d:Dvc}{j cap cap1:Nat}(hK:K<f.length):(DB f K d j cap cap1)[0+K * 2+1]?=some (.bs j 0 8 d.nodes.length cap1):=Px (Rw _ _ _ _ _) (UQ hK) rfl
theorem jR{f:AR}{K:Nat}{d:Dvc}{j cap cap1:Nat}(hK:K<f.length):(DB f K d j cap cap1)[0+K * 2+0]?=some (.v (.int .i64 d.next)):=Px (Rw _ _ _ _ _) (UQ hK) rfl
theorem Rz{ns:List Nod}{cap1 i:Nat}{n:Nod}(h:ns[i]?=some n):((NB ns cap1).drop (0+i * 8)).take 8=Al n:=jQ (N8 _) (by rw[List.getElem?_map,h];rfl)
theorem Y7{ns:List Nod}{cap1 i k:Nat}{n:Nod}{x:AV}(h:ns[i]?=some n)(hx:(Al n)[k]?=some x):(NB ns cap1)[0+i * 8+k]?=some x:=Px (N8 _) (by rw[List.getElem?_map,h];rfl) hx
theorem UR{ns:List Nod}{cap1 i k:Nat}{n n':Nod}{cs:List AV}(h:ns[i]?=some n)(hs:SetAt (Al n) k cs (Al n'))(hne:cs≠[]):SetAt (NB ns cap1) (0+i * 8+k) cs (NB (ns.set i n') cap1):=by
 have key:=UP (cap:=cap1) (N8 ns) (by rw[List.getElem?_map,h];rfl) hs hne;rw[<-List.map_set]at key;exact key
theorem US{f:AR}{K:Nat}{d d':Dvc}{j j' cap cap1 cap1' k:Nat}{cs:List AV}(hK:K<f.length)(hs:SetAt (L7 d j cap1) k cs (L7 d' j' cap1'))(hne:cs≠[]):SetAt (DB f K d j cap cap1) (0+K * 2+k) cs (DB f K d' j' cap cap1'):=by
 have key:=UP (cap:=cap) (Rw f K d j cap1) (UQ hK) hs hne;unfold JJ at key;rw[List.set_set]at key;exact key
theorem UT(f:AR)(K:Nat)(d d':Dvc)(j cap cap1:Nat):DB (f.set K d') K d j cap cap1=DB f K d j cap cap1:=by
 unfold DB JJ;rw[List.map_set,List.set_set]
theorem LeA.tok(sz:Nat)(rows:List (List AV))(g:Option Nat):LeA (.sl sz rows g) (.sl sz rows none):=fun G w v h=>by
 cases g with
 |none=>exact h
 |some g=>simp only[rep]at h ⊢;exact h.1
section
variable {P:Program}{ev:Operand->Option AV}{h:AH}{R:AV->AH->Prop}{d:Option Tmp}{ty:TypeId}{pos:String}{af:Array Edge}{gd:Option (Nat×Bool)}
theorem S1{T:TypeId}{x:Operand}{sz i o:Nat}{row cs:List AV}[ht:Typ P T sz true](hx:ev x=some (.bp i o))(hb:h.bx[i]?=some row)(hr:o+sz<=row.length)(he:(row.drop o).take sz=cs)(hR:R (.agg cs) h):AStep P ⟨d, .load T x,ty,pos,af,gd⟩ ev h R:=by
 subst he;exact KN hx hb (by rw[Nat.ble_eq];exact hr) hR
end
end Go.Proofs.YtbgnigjfkbmceaaGreatDoor
namespace Go.Proofs.YtbgnigjfkbmceaaGreatDoor
abbrev Bs:=List UInt8
def GH(l:Bs):Bool:=decide (l≠[]/\l.length<=12/\l≠[46]/\l≠[46,46]/\(0:UInt8)∉l/\(47:UInt8)∉l)
theorem Pz{l:Bs}:GH l=true↔l≠[]/\l.length<=12/\l≠[46]/\l≠[46,46]/\(0:UInt8)∉l/\(47:UInt8)∉l:=decide_eq_true_iff
def Cd:Bs->List Bs
 |[]=>[[]]
 |c::t=>if c=47 then[]::Cd t else match Cd t with
   |[]=>[[c]]
   |h::r=>(c::h)::r
def ne_(p:Bs):Bool:=decide (p≠[])
def CJ(l:Bs):List Bs:=(Cd l).filter ne_
def EL(ps:List Bs):Bs:=ps.flatMap fun p=>47::p
theorem S2(l:Bs):Cd l≠[]:=by
 cases l with
 |nil=>simp[Cd]
 |cons c t=>
   unfold Cd;split
   ·simp
   split<;>simp
theorem UU(c:UInt8)(t:Bs):Cd (c::t)=if c=47 then[]::Cd t else match Cd t with
    |[]=>[[c]]
    |h::r=>(c::h)::r:=rfl
theorem Y8(u t:Bs):Cd (u++47::t)=Cd u++Cd t:=by
 induction u with
 |nil=>simp[Cd]
 |cons c u ih=>
   rw[List.cons_append,UU,UU,ih];by_cases hc:c=47
   ·simp[hc]
   rw[if_neg hc,if_neg hc]
   cases h:Cd u with
   |nil=>exact absurd h (S2 u)
   |cons a r=>simp
theorem S3{l:Bs}(h:(47:UInt8)∉l):Cd l=[l]:=by
 induction l with
 |nil=>rfl
 |cons c t ih=>
   simp only[List.mem_cons,not_or]at h;unfold Cd;rw[if_neg (fun e=>h.1 e.symm),ih h.2]
theorem Y9{a:Bs}(h:(47:UInt8)∉a)(b:Bs):Cd (a++47::b)=a::Cd b:=by
 rw[Y8,S3 h];rfl
theorem L8(p:Bs)(ps:List Bs):EL (p::ps)=47::(p++EL ps):=by simp[EL]
theorem UV(ps qs:List Bs):EL (ps++qs)=EL ps++EL qs:=by simp[EL]
theorem YA:∀(ps:List Bs) (p:Bs),(47:UInt8)∉p->(∀q∈ps,(47:UInt8)∉q)->Cd (p++EL ps)=p::ps:=by
 intro ps
 induction ps with
 |nil=>intro p hp _;simp[EL,S3 hp]
 |cons q ps ih=>
   intro p hp hq;rw[L8,Y9 hp,ih q (hq q (by simp)) fun x hx=>hq x (by simp[hx])]
theorem UW(l:Bs):EL (Cd l)=47::l:=by
 induction l with
 |nil=>simp[Cd,EL]
 |cons c t ih=>
   unfold Cd;by_cases hc:c=47
   ·rw[if_pos hc,L8,ih,hc];rfl
   rw[if_neg hc]
   cases h:Cd t with
   |nil=>exact absurd h (S2 t)
   |cons a r=>
     rw[h]at ih;rw[L8]at ih ⊢;simp only[List.cons.injEq,true_and]at ih;simp[ih]
theorem NC:CJ []=[]:=by simp[CJ,Cd,ne_]
theorem Q0(u t:Bs):CJ (u++47::t)=CJ u++CJ t:=by simp[CJ,Y8]
def one_(p:Bs):List Bs:=if p=[]then[]else[p]
theorem S4{l:Bs}(h:(47:UInt8)∉l):CJ l=one_ l:=by
 unfold CJ one_;rw[S3 h];by_cases e:l=[]<;>simp[e,ne_]
theorem jS{a:Bs}(h:(47:UInt8)∉a)(b:Bs):CJ (a++47::b)=one_ a++CJ b:=by rw[Q0,S4 h]
def UX(u:Bs):Prop:=u=[]\/∃u',u=u'++[47]
theorem YB{u p:Bs}(hu:UX u)(hp:(47:UInt8)∉p):CJ (u++p)=CJ u++one_ p:=by
 rcases hu with rfl|⟨u',rfl⟩
 ·simp[NC,S4 hp]
 have e:u'++[47]++p=u'++47::p:=by simp
 rw[e,Q0,Q0,NC,S4 hp];simp
theorem jT{u p:Bs}(hu:UX u)(hp:(47:UInt8)∉p):CJ (u++p++[47])=CJ u++one_ p:=by
 rw[Q0,YB hu hp,NC,List.append_nil]
def FS(l:Bs):Bool:=decide (l=[47])||(decide (l.head?=some 47)&&(Cd l.tail).all GH)
def Q1(l:Bs):Bool:=(CJ l).all GH&&(decide (l=[47])||(decide (CJ l≠[])&&decide (l=EL (CJ l))))
theorem S5{p:Bs}(h:GH p=true):(47:UInt8)∉p:=(Pz.1 h).2.2.2.2.2
theorem jU{p:Bs}(h:GH p=true):p≠[]:=(Pz.1 h).1
theorem jV(l:Bs):FS l=true↔l=[47]\/∃ps,ps≠[]/\(∀p∈ps,GH p=true)/\l=EL ps:=by
 unfold FS;rw[Bool.or_eq_true,Bool.and_eq_true,decide_eq_true_iff,decide_eq_true_iff];constructor
 ·rintro(h|⟨h,ha⟩)
  ·exact .inl h
  cases l with
  |nil=>simp at h
  |cons c t=>
    simp at h;subst h;exact .inr ⟨Cd t,S2 t,by simpa using ha,(UW t).symm⟩
 rintro(h|⟨ps,hne,hn,rfl⟩)
 ·exact .inl h
 cases ps with
 |nil=>exact absurd rfl hne
 |cons p ps=>
   right;rw[L8];refine⟨rfl,?_⟩;show(Cd (p++EL ps)).all GH=true;rw[YA ps p (S5 (hn p (by simp))) fun q hq=>S5 (hn q (by simp[hq]))]
   simpa using hn
theorem jW{ps:List Bs}(hn:∀p∈ps,GH p=true):CJ (EL ps)=ps:=by
 cases ps with
 |nil=>simp[EL,NC]
 |cons p ps=>
   rw[L8];have:=Q0 [] (p++EL ps);rw[List.nil_append]at this;rw[this,NC,List.nil_append];unfold CJ;rw[YA ps p (S5 (hn p (by simp))) fun q hq=>S5 (hn q (by simp[hq]))];rw[List.filter_eq_self];intro a ha
   simpa[ne_]using jU (hn a ha)
theorem jX:CJ [47]=[]:=by simp[CJ,Cd,ne_]
theorem UY(l:Bs):Q1 l=FS l:=by
 rw[Bool.eq_iff_iff,jV];unfold Q1;rw[Bool.and_eq_true,Bool.or_eq_true,Bool.and_eq_true,decide_eq_true_iff,decide_eq_true_iff,decide_eq_true_iff,List.all_eq_true];constructor
 ·rintro⟨ha,h|⟨h1,h2⟩⟩
  ·exact .inl h
  exact .inr ⟨_,h1,ha,h2⟩
 rintro(rfl|⟨ps,h1,h2,rfl⟩)
 ·exact⟨by simp[jX], .inl rfl⟩
 rw[jW h2];exact⟨h2, .inr ⟨h1,rfl⟩⟩
end Go.Proofs.YtbgnigjfkbmceaaGreatDoor
namespace Go.Proofs.YtbgnigjfkbmceaaGreatDoor
def Ch(xs:List AD):List Bs:=xs.map fun x=>x.data.toList
theorem UZ(x:UInt8):((x.toNat:Int)==47)=decide (x=47):=by
 rw[Bool.eq_iff_iff,beq_iff_eq,decide_eq_true_iff];constructor
 ·intro h;apply UInt8.toNat_inj.1;have:(47:UInt8).toNat=47:=rfl;omega
 rintro rfl;rfl
def GJ(l:Bs)(f k:Nat)(bs:List Bs):Prop:=(k<=l.length/\f<=k/\UX (l.take f)/\(47:UInt8)∉(l.drop f).take (k - f)/\bs=CJ (l.take f))\/(k=l.length+1/\bs=CJ l)
theorem jY{l:Bs}{f k:Nat}{bs:List Bs}{x:UInt8}(h:GJ l f k bs)(hx:l[k]?=some x)(hne:x≠47):GJ l f (k+1) bs:=by
 have hk:=(AZ.1 hx).1;rcases h with⟨h1,h2,h3,h4,h5⟩|⟨h1,h2⟩
 ·refine .inl ⟨hk,by omega,h3,?_,h5⟩;rw[show k+1 - f=(k - f)+1 by omega,List.take_add_one];have:(l.drop f)[k - f]?=some x:=by rw[List.getElem?_drop,show f+(k - f)=k by omega];exact hx
  rw[this];simp only[Option.toList_some,List.mem_append,List.mem_singleton,not_or];exact⟨h4,fun e=>hne e.symm⟩
 omega
theorem YC{l:Bs}{f k:Nat}(h:f<=k):l.take k=l.take f++(l.drop f).take (k - f):=by
 rw[show k=f+(k - f) by omega,List.take_add];simp
theorem jZ{l:Bs}{f k:Nat}{bs:List Bs}(h:GJ l f k bs)(hx:l[k]?=some 47):GJ l (k+1) (k+1) (bs++one_ ((l.drop f).take (k - f))):=by
 have hk:=(AZ.1 hx).1;rcases h with⟨h1,h2,h3,h4,h5⟩|⟨h1,h2⟩
 ·have e:l.take (k+1)=l.take f++(l.drop f).take (k - f)++[47]:=by rw[List.take_add_one,hx,YC h2];rfl
  refine .inl ⟨hk,As _, .inr ⟨_,e⟩,by simp,?_⟩;rw[e,jT h3 h4,h5]
 omega
theorem kA{l:Bs}{f:Nat}{bs:List Bs}(h:GJ l f l.length bs):GJ l (l.length+1) (l.length+1) (bs++one_ ((l.drop f).take (l.length - f))):=by
 rcases h with⟨h1,h2,h3,h4,h5⟩|⟨h1,h2⟩
 ·refine .inr ⟨rfl,?_⟩;have e:=YC (l:=l) h2;rw[List.take_length]at e;have h6:=YB h3 h4;rw[<-e]at h6;rw[h5];exact h6.symm
 omega
theorem kC(l:Bs):GJ l 0 0 []:= .inl ⟨BG _,As _, .inl rfl,by simp,by simp[NC]⟩
theorem S6{l:Bs}{f k:Nat}{bs:List Bs}(h:GJ l f k bs)(hk:l.length<k):bs=CJ l:=by
 rcases h with⟨h1,_⟩|⟨_,h2⟩
 ·omega
 exact h2
theorem kF{p:Bs}(h:p≠[]):one_ p=[p]:=if_neg h
theorem kH(s:ByteArray){f k:Nat}(h:f<k)(hk:k<=s.size):(s.data.toList.drop f).take (k - f)≠[]:=by
 intro e;have:=congrArg List.length e;rw[Lib.size_eq]at hk;simp at this;simp at hk;omega
theorem kJ(s:ByteArray)(h:0<s.size):decide (s.data.toList.head?=some 47)=(((s[0]'h).toNat:Int)==47):=by
 rw[UZ];have:s.data.toList.head?=some (s[0]'h):=by rw[List.head?_eq_getElem?];exact Lib.data_getElem? s 0 h
 rw[this];simp
theorem kK(s:ByteArray)(h:0<s.size):decide (s.data.toList.getLast?=some 47)=(((s[s.size - 1]'(by omega)).toNat:Int)==47):=by
 rw[UZ];have:s.data.toList.getLast?=some (s[s.size - 1]'(by omega)):=by rw[List.getLast?_eq_getElem?,<-Lib.size_eq];exact Lib.data_getElem? s _ (by omega)
 rw[this];simp
theorem kM{s:ByteArray}{a k a' k':Nat}{ss:List AD}(h:GJ s.data.toList a' k' (Ch ss++one_ ((s.data.toList.drop a).take (k - a))))(ho:one_ ((s.data.toList.drop a).take (k - a))=[(s.data.toList.drop a).take (k - a)]):GJ s.data.toList a' k' (Ch (ss++[s.extract a k])):=by
 rw[ho]at h
 have:Ch (ss++[s.extract a k])=Ch ss++[(s.data.toList.drop a).take (k - a)]:=by
  rw[<-Lib.extract_data];simp[Ch]
 rw[this];exact h
theorem kO{s:ByteArray}{a k a' k':Nat}{bs:List Bs}(h:GJ s.data.toList a' k' (bs++one_ ((s.data.toList.drop a).take (k - a))))(ho:k<=a):GJ s.data.toList a' k' bs:=by
 rw[show k - a=0 by omega]at h
 simpa[one_]using h
theorem YD(s:ByteArray):s.toList=s.data.toList:=Lib.toList_data s
theorem kQ(s:ByteArray):(s.toList==[46])=decide (s.data.toList=[46]):=by rw[YD,Bool.eq_iff_iff];simp
theorem kT(s:ByteArray):(s.toList==[46,46])=decide (s.data.toList=[46,46]):=by rw[YD,Bool.eq_iff_iff];simp
theorem S7(s:AD):FC s=GH s.data.toList:=by
 have hs:=Lib.size_eq s;rw[Bool.eq_iff_iff,Pz];unfold FC;by_cases h1:s.size<1\/12<s.size
 ·rw[if_pos h1];constructor
  ·intro h;cases h
  rintro⟨h2,h3,_⟩;have:0<s.data.toList.length:=List.length_pos_iff.2 h2;omega
 rw[if_neg h1,kQ,kT];have hne:s.data.toList≠[]:=by intro e;rw[e]at hs;change s.size=0 at hs;omega
 by_cases h2:s.data.toList=[46]
 ·rw[if_pos (decide_eq_true h2)];constructor
  ·intro h;cases h
  exact fun h=>absurd h2 h.2.2.1
 rw[if_neg (by simpa using h2)];by_cases h3:s.data.toList=[46,46]
 ·rw[if_pos (decide_eq_true h3)];constructor
  ·intro h;cases h
  exact fun h=>absurd h3 h.2.2.2.1
 rw[if_neg (by simpa using h3),List.all_eq_true]
 have hb:∀c:UInt8,MS c=true↔c≠0/\c≠47:=by
  intro c;unfold MS;rw[Bool.and_eq_true,UZ]
  have:((c.toNat:Int)==0)=decide (c=0):=by
   rw[Bool.eq_iff_iff,beq_iff_eq,decide_eq_true_iff];constructor
   ·intro h;apply UInt8.toNat_inj.1;have:(0:UInt8).toNat=0:=rfl;omega
   rintro rfl;rfl
  rw[this];simp
 constructor
 ·intro h;exact⟨hne,by omega,h2,h3,fun h0=>((hb _).1 (h _ h0)).1 rfl,fun h0=>((hb _).1 (h _ h0)).2 rfl⟩
 rintro⟨_,_,_,_,h0,h47⟩ c hc;exact(hb c).2 ⟨fun e=>h0 (e ▸ hc),fun e=>h47 (e ▸ hc)⟩
theorem kU(ps:List Bs)(p:Bs->Bool):(EL (ps.filter p)).length<=(EL ps).length:=by
 induction ps with
 |nil=>simp
 |cons q ps ih=>
   rw[List.filter_cons];split
   ·rw[L8,L8];simp;omega
   rw[L8];simp;omega
theorem kV(ps:List Bs)(k:Nat):(EL (ps.take k)).length<=(EL ps).length:=by
 conv=>rhs;rw[<-List.take_append_drop k ps,UV]
 simp
theorem Ua(l:Bs):(EL (CJ l)).length<=l.length+1:=by
 have:=kU (Cd l) ne_;rw[UW]at this
 simpa[CJ]using this
theorem kX{l p:Bs}(h:p∈CJ l):p.length<=l.length:=by
 have h1:=Ua l;obtain⟨a,b,e⟩:=List.append_of_mem h;rw[e,UV,L8]at h1;simp at h1;omega
section
open Go.RowKit
section
def Old(w:World):Nat->Prop:=fun b=>b<w.heap.size
def U9(w w':World):Nat->Prop:=fun b=>w.heap.size<=b/\b<w'.heap.size
def few:Nat:=65536
theorem Rt{B:Nat}{a w:World}(h:Below B a w)(n:Nat):Below B a (w.drewN n):=⟨h.os,h.tape,h.output,h.size,h.block⟩
theorem Pk{w w':World}(h:Below w.heap.size w w')(g:Option Nat):w.grownBy w' g:=⟨h.os,h.tape,h.output,h.size,fun k hk _=>h.block k hk⟩
def RowL{α:Type}(sz:Nat)(cell:α->Nat->Value)(w:World)(D:Nat->Prop)(A:Option Addr)(xs:List α):Prop:=
 0<xs.length->∃b off,A=some ⟨b,off,none⟩/\D b/\∀i x j,xs[i]?=some x->j<sz->w.cell? ⟨b,off+i * sz+j,none⟩=some (cell x j)
def ListR{α:Type}(sz:Nat)(cell:α->Nat->Value)(w:World)(D:Nat->Prop)(v:Value)(xs:List α):Prop:=
 ∃A c,v= .slice A xs.length c/\xs.length<=c/\xs.length<=few/\RowL sz cell w D A xs
section
variable {α:Type}{sz:Nat}{cell:α->Nat->Value}{w w':World}{D D':Nat->Prop}{A:Option Addr}{v:Value}{xs:List α}
theorem ListR.nil_:ListR sz cell w D (.slice none 0 0) []:=⟨none,0,rfl,As _,BG _,fun h=>absurd h (by simp)⟩
end
def Pl(s:AD):Nat->Value
 |_=> .string s
abbrev Xs:=ListR 1 Pl
def FF(at_:A8):Value:= .agg #[.int .i64 at_.1, .int .i64 at_.2]
theorem Nu{a b:Bool}(h:a=b):Ending.returned (.bool a)= .returned (.bool b):=by rw[h]
theorem N9{w:World}{g:Nat}{cs:Array Value}{t:TypeId}{fz:Nat×Nat}(h:w.heap[g]?=some (.cells cs t fz))(i:Nat):w.cell? ⟨g,i,none⟩=cs[i]?:=by
 simp[World.cell?,h]
theorem UA{w:World}{g:Nat}{cs:Array Value}{t:TypeId}(h:w.heap[g]?=some (.cells cs t (0,0)))(i:Nat):w.frozen? ⟨g,i,none⟩=false:=by
 simp[World.frozen?,h]
theorem Db{w:World}{b:Nat}{o:Obj}(h:w.heap[b]?=some o)(o':Obj):(w.alloc o').heap[b]?=some o:=by
 have hb:b<w.heap.size:=by
  rcases Nat.lt_or_ge b w.heap.size with hlt|hge
  ·exact hlt
  rw[Array.getElem?_eq_none hge]at h;cases h
 exact(Below.heap_alloc w o' b hb).trans h
theorem CS{w:World}{g:Nat}{cs:Array Value}{t:TypeId}(h:w.heap[g]?=some (.cells cs t (0,0))):(∀i,w.cell? ⟨g,i,none⟩=cs[i]?)/\(∀i,w.frozen? ⟨g,i,none⟩=false):=
 ⟨fun i=>N9 h i,fun i=>UA h i⟩
theorem Of{w:World}{b:Nat}{cs:Array Value}{t:TypeId}{fz:Nat×Nat}(h:w.heap[b]?=some (.cells cs t fz))(i:Nat)(u:Value):(w.setCell ⟨b,i,none⟩ u).heap[b]?=some (.cells (cs.setIfInBounds i u) t fz):=by
 simp[World.setCell,Array.getElem?_modify,h]
theorem Nv{w:World}{b:Nat}{o:Obj}(h:w.heap[b]?=some o){p:Addr}(hp:b≠p.block)(u:Value):(w.setCell p u).heap[b]?=some o:=(Below.heap_setCell w p u b hp).trans h
theorem BY{w w':World}{b B:Nat}{o:Obj}(h:w.heap[b]?=some o)(hg:Below B w w')(hb:b<B):w'.heap[b]?=some o:=(hg.block b hb).trans h
theorem Jz(w:World)(o1:Obj):Below w.heap.size w (w.alloc o1):=by
 exact(Below.refl _ w).alloc (As _) _
theorem Pn(w:World)(o1:Obj):(w.alloc o1).heap.size=w.heap.size+1:=by simp
theorem MV(w:World)(o1:Obj):(w.alloc o1).heap[w.heap.size]?=some o1:=(by have:=heap_alloc_new w o1;simpa using this)
theorem M1(w:World)(o1 o2:Obj):Below w.heap.size w ((w.alloc o1).alloc o2):=by
 exact(Jz w o1).alloc (by simp<;>omega) _
theorem Xt(w:World)(o1 o2:Obj):((w.alloc o1).alloc o2).heap.size=w.heap.size+2:=by simp
theorem MW(w:World)(o1 o2:Obj):((w.alloc o1).alloc o2).heap[w.heap.size]?=some o1:=Db (MV w o1) _
theorem MX(w:World)(o1 o2:Obj):((w.alloc o1).alloc o2).heap[w.heap.size+1]?=some o2:=(by have:=heap_alloc_new (w.alloc o1) o2;simpa using this)
theorem Po(w:World)(o1 o2 o3:Obj):Below w.heap.size w (((w.alloc o1).alloc o2).alloc o3):=by
 exact(M1 w o1 o2).alloc (by simp<;>omega) _
theorem Pp(w:World)(o1 o2 o3:Obj):(((w.alloc o1).alloc o2).alloc o3).heap[w.heap.size]?=some o1:=Db (MW w o1 o2) _
theorem Pq(w:World)(o1 o2 o3:Obj):(((w.alloc o1).alloc o2).alloc o3).heap[w.heap.size+1]?=some o2:=Db (MX w o1 o2) _
theorem Pr(w:World)(o1 o2 o3:Obj):(((w.alloc o1).alloc o2).alloc o3).heap[w.heap.size+1+1]?=some o3:=(by have:=heap_alloc_new ((w.alloc o1).alloc o2) o3;simpa using this)
theorem UB(w:World)(o1 o2 o3 o4:Obj):Below w.heap.size w ((((w.alloc o1).alloc o2).alloc o3).alloc o4):=by
 exact(Po w o1 o2 o3).alloc (by simp<;>omega) _
theorem Xu(w:World)(o1 o2 o3 o4:Obj):((((w.alloc o1).alloc o2).alloc o3).alloc o4).heap[w.heap.size]?=some o1:=Db (Pp w o1 o2 o3) _
theorem UC(w:World)(o1 o2 o3 o4:Obj):((((w.alloc o1).alloc o2).alloc o3).alloc o4).heap[w.heap.size+1]?=some o2:=Db (Pq w o1 o2 o3) _
theorem Xv(w:World)(o1 o2 o3 o4:Obj):((((w.alloc o1).alloc o2).alloc o3).alloc o4).heap[w.heap.size+1+1]?=some o3:=Db (Pr w o1 o2 o3) _
theorem UD(w:World)(o1 o2 o3 o4:Obj):((((w.alloc o1).alloc o2).alloc o3).alloc o4).heap[w.heap.size+1+1+1]?=some o4:=(by have:=heap_alloc_new (((w.alloc o1).alloc o2).alloc o3) o4;simpa using this)
structure Moves(own:Nat->Prop)(B:Nat)(X Y:World):Prop where
 os:Y.os=X.os
 tape:Y.tape=X.tape
 output:Y.output=X.output
 size:X.heap.size<=Y.heap.size
 block:∀k,k<X.heap.size->¬own k->(k<B\/∃o:Obj,X.heap[k]?=some o/\o.isCells=true)->Y.heap[k]?=X.heap[k]?
section
variable {own:Nat->Prop}{B:Nat}{X Y Z:World}
theorem Moves.mono(h:Moves own B X Y){B':Nat}(hB:B'<=B):Moves own B' X Y:=
 ⟨h.os,h.tape,h.output,h.size,fun i hi ho hb=>h.block i hi ho (by
  rcases hb with hb|hb
  ·exact .inl (Nat.lt_of_lt_of_le hb hB)
  exact .inr hb)⟩
theorem Moves.below(h:Below X.heap.size X Y):Moves own B X Y:=⟨h.os,h.tape,h.output,h.size,fun i hi _ _=>h.block i hi⟩
theorem Moves.grown{g:Nat}(h:X.grownBy Y (some g))(hg:own g):Moves own B X Y:=
 ⟨h.os,h.tape,h.output,h.size,fun i hi ho _=>h.block i hi (fun e=>ho (by injection e with e;rw[e];exact hg))⟩
theorem Moves.set_(X:World){b:Nat}(hb:own b)(v:Value):Moves own B X (X.setCell ⟨b,0,none⟩ v):=Moves.grown (grownBy_setCell' X b v) hb
theorem Moves.put_{l:Nat}{o:Obj}(o':Obj)(hl:X.heap[l]?=some o)(ho:o.isCells=false)(hB:B<=l):Moves own B X (X.putObj l o'):=
 have h:=grownBy_putObj' X l o'
 ⟨h.os,h.tape,h.output,h.size,fun i hi _ hb=>h.block i hi (fun e=>by
  injection e with e;subst e;rcases hb with hb|⟨o2,h1,h2⟩
  ·omega
  rw[hl]at h1;injection h1 with h1;subst h1;rw[ho]at h2;cases h2)⟩
theorem Moves.boxed(h:Moves own B X Y){b:Nat}{t:TypeId}{v:Value}(hb:Boxed X b t v)(hn:¬own b):Boxed Y b t v:=
 (h.block b hb.lt hn (.inr ⟨_,hb,rfl⟩)).trans hb
theorem Moves.under(h:Moves own B X Y){n₀:Nat}{w:World}(hb:Below n₀ w X)(hn:n₀<=w.heap.size)(ho:∀b,own b->n₀<=b)(hB:n₀<=B):Below n₀ w Y:=
 ⟨h.os.trans hb.os,h.tape.trans hb.tape,h.output.trans hb.output,Nat.le_trans hb.size h.size,fun i hi=>by
  refine(h.block i (by have:=hb.size;omega) (fun e=>?_) (.inl (by omega))).trans (hb.block i hi);have:=ho i e
  omega⟩
end
theorem O0{B:Nat}{X Y:World}(h:Below X.heap.size X Y):KeepsFrom B X Y:=⟨h.size,fun k _ _ hk _=>(h.block k (Array.getElem?_eq_some_iff.1 hk).1).trans hk⟩
theorem Q2{B:Nat}{X Y:World}(h:KeepsFrom B X Y){b:Nat}(hb:b<B)(v:Value):KeepsFrom B X (Y.setCell ⟨b,0,none⟩ v):=
 h.trans (KeepsFrom.of_grownBy (grownBy_setCell' Y b v) (fun j e=>by cases e;exact hb))
theorem MZ{W:World}{b D:Nat}{t:TypeId}{v:Value}(h:Boxed W b t v)(hne:b≠D)(o:Obj):Boxed (W.putObj D o) b t v:=h.kept (grownBy_putObj' W D o) (fun e=>hne (by injection e))
theorem O1{B:Nat}{w W:World}(h:Below B w W){D:Nat}(hD:B<=D)(o:Obj):Below B w (W.putObj D o):=
 have g:=grownBy_putObj' W D o
 ⟨g.os.trans h.os,g.tape.trans h.tape,g.output.trans h.output,Nat.le_trans h.size g.size,fun k hk=>(World.putObj_heap_other (by omega)).trans (h.block k hk)⟩
theorem G4{P:Program}{n m f:Nat}{args:Array Value}{w:World}{R:Ending->World->Prop}(h:CallsIn Fence.wide m P f args w R):
    Fence.wide.fn f/\(Fence.wide.depth.isSome=true->1<=n)/\CallsIn Fence.wide m P f args w R:=⟨trivial,(fun h=>by cases h),h⟩
def SeqW{α:Type}(F:Fence)(n:Nat)(P:Program)(g:Nat)(lb:Array Value)(encs:α->Array Value)(own:Nat->Prop)(Kp:World->World->Prop)(Pf:List α->Prop)(S Sp:List α->Prop)(w:World):Prop:=
 ∀(l:Nat) (J Jx:List α->World->Prop) (W:World),Below w.heap.size w W->
  (∀s X Y,J s X->Moves own W.heap.size X Y->J s Y)->(∀s X Y,Jx s X->Moves own W.heap.size X Y->Jx s Y)->
  (∀pre x W1,J pre W1->Pf (pre++[x])->YieldAt F (n - 1) P l (encs x) W1 fun e W'=>
    (e= .returned (.bool true)/\J (pre++[x]) W'/\Kp W1 W')\/(e= .returned (.bool false)/\Jx (pre++[x]) W'))->
  J [] W->
  CallsIn F n P g (#[.func (.yield l) #[] #[]]++lb) W fun e W'=>(∃v,e= .returned v)/\((∃xs,S xs/\J xs W')\/(∃pre,Sp pre/\Jx pre W'))
variable {F:Fence}{n:Nat}{P:Program}
theorem YE{α:Type}{g:Operand}{ps:Array Tmp}{assign body:Code}{Q:Exit->Act->World->Prop}{a:Act}{w:World}
    (hro:F.round=none) (h1:1<=n) {gf:Nat} {lb:Array Value} (hg:a.eval g= .func (.func gf) #[] lb) (hFg:F.fn gf) (eg:∀args w,(callFunc gf args).run P w= .ok (.enter gf args) w)
    {encs:α->Array Value} {own:Nat->Prop} {Kp:World->World->Prop} {Pf:List α->Prop} {S Sp:List α->Prop} {w0:World} (hseq:SeqW F (n - 1) P gf lb encs own Kp Pf S Sp w0)
    (hown:∀b,own b->b<w.heap.size) (hKt:∀{A B C:World},Kp A B->Kp B C->Kp A C) (hKb:∀(W:World) (l:Nat) (o o':Obj),w.heap.size<=l->W.heap[l]?=some o->o.isCells=false->Kp W (W.putObj l o'))
    (kw:Below w0.heap.size w0 w) (hps:∀x,(encs x).size=ps.size)
    (I:List α->World->Prop) (Ix:Code->List α->World->Prop) (hI:∀s X Y,I s X->Moves own w.heap.size X Y->I s Y) (hIx:∀c s X Y,Ix c s X->Moves own w.heap.size X Y->Ix c s Y) (h0:I [] w) (a₁:α->Act)
    (hassign:∀(l:Nat) (x:α) (W:World) (K:Act->World->Prop),K (a₁ x) W->
      assign.wpIn (F.inRound l) (n - 1 - 1) P (Exit.then K (fun _ _ _=>False)) {tmps:=(ps.zip (encs x)).foldl (fun t (p,v)=>t.setIfInBounds p v) a.tmps,defers:=[]} W)
    (hbody:∀(l:Nat) (pre:List α) (x:α) (W:World),I pre W->Pf (pre++[x])->w.heap.size+2<=W.heap.size->body.wpIn (F.inRound l) (n - 1 - 1) P (ownPostG w.heap.size Kp I Ix (pre++[x]) W) (a₁ x) W)
    (hdone:∀(D:Nat) (xs:List α) (W:World),w.heap.size<=D->S xs->I xs W->W.heap[D]?=some (.deferred (some []))->Q .normal {a with defers:={target:= .collected D,args:=#[]}::a.defers} W)
    (hstop:∀(D:Nat) (c:Code) (pre:List α) (W:World),w.heap.size<=D->Sp pre->Ix c pre W->W.heap[D]?=some (.deferred (some []))->c.wpIn F n P Q {a with defers:={target:= .collected D,args:=#[]}::a.defers} W):
    (Code.rangeFunc g ps assign body).wpIn F n P Q a w:=by
 refine wpIn_rangeFunc ?_;intro fn hfn;rw[hro];obtain⟨rec,hrec⟩:∃rec:LoopState->Option Code->Loop,rec=fun st pe=>{state:=st,pending:=pe,fn,tmps:=a.tmps,params:=ps,assign,body,defers:=w.heap.size}:=⟨_,rfl⟩;obtain⟨W1,hW1⟩:∃W1,(w.alloc (.deferred (some []))).alloc (.loop (rec .ready none))=W1:=⟨_,rfl⟩;have hbw:Below w.heap.size w W1:=by rw[<-hW1];exact M1 w _ _
 have hsz:W1.heap.size=w.heap.size+2:=by rw[<-hW1];simp
 have hL1:W1.heap[w.heap.size+1]?=some (.loop (rec .ready none)):=by rw[<-hW1];exact MX _ _ _
 have hK1:W1.heap[w.heap.size]?=some (.deferred (some [])):=by rw[<-hW1];exact MW _ _ _
 have hn0:¬own w.heap.size:=fun h=>by have:=hown _ h;omega
 have hn1:¬own (w.heap.size+1):=fun h=>by have:=hown _ h;omega
 refine⟨w.heap.size+1,[{target:= .collected w.heap.size,args:=#[]}],W1,{target:= .fn (.func gf) lb,args:=#[.func (.yield (w.heap.size+1)) #[] #[]]},W1,gf,
  #[.func (.yield (w.heap.size+1)) #[] #[]]++lb,W1,?_,?_,?_,?_,fun _=>h1,?_⟩
 ·rw[<-hW1,hrec];exact run_enterLoop_outer _ _ _ _ _
 ·simp only[resolve,hg];simp[go_sem]
 ·intro f' hf';simp[Target.leads]at hf';subst hf';exact hFg
 ·simp[invoke,go_sem,eg]
 have lt_of:∀{W:World} {k:Nat} {o:Obj},W.heap[k]?=some o->k<W.heap.size:=fun h=>(Array.getElem?_eq_some_iff.1 h).1;have keep:∀{X Y:World} {k:Nat} {o:Obj},Moves own W1.heap.size X Y->X.heap[k]?=some o->k<W1.heap.size->¬own k->Y.heap[k]?=some o:=fun hm hx hk hn=>(hm.block _ (lt_of hx) hn (.inl hk)).trans hx
 refine(hseq (w.heap.size+1)
  (fun pre W=>I pre W/\W.heap[w.heap.size+1]?=some (.loop (rec .ready none))/\W.heap[w.heap.size]?=some (.deferred (some [])))
  (fun pre W=>∃c,Ix c pre W/\W.heap[w.heap.size+1]?=some (.loop (rec .done (some c)))/\W.heap[w.heap.size]?=some (.deferred (some [])))
  W1 (kw.trans (hbw.mono kw.size))
  (fun s X Y hs hm=>⟨hI s X Y hs.1 (hm.mono (by omega)),keep hm hs.2.1 (by omega) hn1,keep hm hs.2.2 (by omega) hn0⟩)
  (fun s X Y hs hm=>by
    obtain⟨c,hc,hl,hk⟩:=hs
    exact⟨c,hIx c s X Y hc (hm.mono (by omega)),keep hm hl (by omega) hn1,keep hm hk (by omega) hn0⟩)
  ?_ ⟨hI _ _ _ h0 (.below hbw),hL1,hK1⟩).mono ?_
 ·rintro pre x W ⟨hi,hl,hk⟩ hpf;have hlt:w.heap.size+1<W.heap.size:=lt_of hl;have hy:=run_yield (P:=P) (args:=encs x) hl (by rw[hrec];exact hps x);rw[hrec]at hy;refine⟨fn,_,assign,body,hy,roundIn_of_wpIn hfn (hassign _ x W _ ⟨_,run_beginRound hl (by rw[hrec]),?_⟩)⟩;have hl2:(W.putObj (w.heap.size+1) (.loop {rec .ready none with state:= .busy})).heap[w.heap.size+1]?=some (.loop {rec .ready none with state:= .busy}):=World.putObj_heap_same hlt;have hk2:(W.putObj (w.heap.size+1) (.loop {rec .ready none with state:= .busy})).heap[w.heap.size]?=some (.deferred (some [])):=(World.putObj_heap_other (by omega)).trans hk;have hw2:Kp W (W.putObj (w.heap.size+1) (.loop {rec .ready none with state:= .busy})):=hKb _ _ _ _ (by omega) hl rfl;refine wpIn_mono (hbody _ pre x _ (hI _ _ _ hi (.put_ _ hl rfl (by omega))) hpf (lt_of hl2)) ?_
  have fin:∀(jump:Option Code) (W3:World),KeepsFrom w.heap.size (W.putObj (w.heap.size+1) (.loop {rec .ready none with state:= .busy})) W3->
      (Instr.endRound (w.heap.size+1) jump).run P W3= .ok (.bool jump.isNone) (W3.putObj (w.heap.size+1) (.loop (rec (if jump.isNone then .ready else .done) jump)))/\
      W3.heap[w.heap.size+1]?=some (.loop {rec .ready none with state:= .busy})/\
      (W3.putObj (w.heap.size+1) (.loop (rec (if jump.isNone then .ready else .done) jump))).heap[w.heap.size+1]?=some (.loop (rec (if jump.isNone then .ready else .done) jump))/\
      (W3.putObj (w.heap.size+1) (.loop (rec (if jump.isNone then .ready else .done) jump))).heap[w.heap.size]?=some (.deferred (some [])):=fun jump W3 hk3=>by
   have hl3:=hk3.same _ _ (by omega) hl2 rfl;have:=run_endRound (P:=P) jump hl3;rw[hrec]at this ⊢;exact⟨this,by rw[hrec]at hl3;exact hl3,World.putObj_heap_same (lt_of hl3),(World.putObj_heap_other (by omega)).trans (hk3.same _ _ (As _) hk2 rfl)⟩
  rintro e a3 W3 hp
  cases e with
  |normal=>
    obtain⟨hk3,hkp3,hi3⟩:=hp;obtain⟨hr,hl3,hl4,hk4⟩:=fin none W3 hk3;exact⟨_,_,hr, .inl ⟨rfl,⟨hI _ _ _ hi3 (.put_ _ hl3 rfl (by omega)),hl4,hk4⟩,hKt (hKt hw2 hkp3) (hKb _ _ _ _ (by omega) hl3 rfl)⟩⟩
  |ret=>
    obtain⟨hk3,hi3⟩:=hp;obtain⟨hr,hl3,hl4,hk4⟩:=fin (some .ret) W3 hk3;exact⟨_,_,hr, .inr ⟨rfl, .ret,hIx _ _ _ _ hi3 (.put_ _ hl3 rfl (by omega)),hl4,hk4⟩⟩
  |exit id=>
    obtain⟨hk3,hi3⟩:=hp;obtain⟨hr,hl3,hl4,hk4⟩:=fin (some (.exit id)) W3 hk3;exact⟨_,_,hr, .inr ⟨rfl, .exit id,hIx _ _ _ _ hi3 (.put_ _ hl3 rfl (by omega)),hl4,hk4⟩⟩
  |goto t=>
    obtain⟨hk3,hi3⟩:=hp;obtain⟨hr,hl3,hl4,hk4⟩:=fin (some (.goto t)) W3 hk3;exact⟨_,_,hr, .inr ⟨rfl, .goto t,hIx _ _ _ _ hi3 (.put_ _ hl3 rfl (by omega)),hl4,hk4⟩⟩
  |panic ch=>exact hp.elim
  |outgrown=>exact hp.elim
 rintro e W2 ⟨⟨v,rfl⟩,(⟨xs,hS,hi,hl,hk⟩|⟨pre,hSp,c,hi,hl,hk⟩)⟩
 ·exact⟨none,_,by have:=run_endLoop (P:=P) hl (by rw[hrec];simp);rw[hrec]at this;exact this,hdone _ xs _ (As _) hS (hI _ _ _ hi (.put_ _ hl rfl (by omega))) ((World.putObj_heap_other (by omega)).trans hk)⟩
 exact⟨some c,_,by have:=run_endLoop (P:=P) hl (by rw[hrec];simp);rw[hrec]at this;exact this,hstop _ c pre _ (As _) hSp (hIx _ _ _ _ hi (.put_ _ hl rfl (by omega))) ((World.putObj_heap_other (by omega)).trans hk)⟩
end
theorem Q3{P:Program}{f:FuncId}{xs:List AV}{R:AV}(h:AFn P f xs fun r=>r=R){w:World}{N:Nat}{vs:List Value}(hN:N<=w.heap.size)(hv:Bc (fun b _=>b<N) w xs vs):
    Calls P f vs.toArray w fun e w'=>∃(v:Value) (G':Gh),e= .returned v/\rep G' w' R v/\Below w.heap.size w w':=by
 refine Calls.mono (h w (fun b _=>b<N) [] vs (X0 (fun b o hb=>Nat.lt_of_lt_of_le hb hN)) (Mp _ _ hv)) ?_;intro e w' h3
 cases e with
 |returned v=>
   obtain⟨r,b,t,G',⟨_,_,rfl⟩,k2,_,k4⟩:=h3;have k:=k2.kept;exact⟨v,G',rfl,k4,⟨k.os,k.tape,k.output,k.size,fun i hi=>k.block i hi (by simp)⟩⟩
 |panicked c=>exact h3.elim
 |outgrown=>exact h3.elim
def SpcIn(s:Spc)(N:Nat)(w:World)(ds ms:Value):Prop:=N<=w.heap.size/\Bc (fun b _=>b<N) w (AQ s) [ds,ms]
theorem SpcIn.keep{s:Spc}{N:Nat}{w w':World}{ds ms:Value}(h:SpcIn s N w ds ms)(hs:w.heap.size<=w'.heap.size)(hb:∀b,b<N->w'.heap[b]?=w.heap[b]?):SpcIn s N w' ds ms:=
 ⟨Nat.le_trans h.1 hs,NT (fun b o hN=>⟨hN,World.cell?_of_block (w:=w) (a:=⟨b,o,none⟩) (hb b hN)⟩) _ _ h.2⟩
theorem SpcIn.below{s:Spc}{N B:Nat}{w w':World}{ds ms:Value}(h:SpcIn s N w ds ms)(hb:Below B w w')(hN:N<=B):SpcIn s N w' ds ms:=
 h.keep hb.size fun b hbN=>hb.block b (Nat.lt_of_lt_of_le hbN hN)
section
variable {s:Spc}{N:Nat}{w:World}{ds ms:Value}(h:SpcIn s N w ds ms)(hs:SpcB s)
include h hs
theorem kY(a:A8):Calls prog 169 #[.agg #[ds],FF a] w fun e w'=>
    (∃(A:Option Addr) (m c:Nat),e= .returned (.tuple #[.agg #[.int .i64 (AY s.files a).ino, .int .i64 (AY s.files a).kind, .int .i64 (AY s.files a).mode, .int .i64 (AY s.files a).uid, .int .i64 (AY s.files a).gid, .int .i64 (AY s.files a).parent, .string (AY s.files a).target, .slice A m c], .bool (Dl s.files a)]))/\Below w.heap.size w w':=by
 have h2:=h.2;simp only[AQ,Bc]at h2;obtain⟨z,zs,e1,h3,_⟩:=h2;obtain⟨rfl,rfl⟩:=List.cons.inj e1;refine(Q3 (Lz s.files a hs.files) (vs:=[.agg #[ds],FF a]) h.1 ?_).mono ?_
 ·simp only[Bc,Ai,Ap,AB,FF];exact⟨_,_,rfl,⟨[ds],rfl,ds,[],rfl,by simpa only[Ai]using h3,rfl⟩,_,_,rfl,⟨[.int .i64 a.1, .int .i64 a.2],rfl,_,_,rfl,rfl,_,_,rfl,rfl,rfl⟩,rfl⟩
 rintro e w' ⟨v,G',rfl,hr,hb⟩;refine⟨?_,hb⟩;simp only[rep,AN,Al,Ai]at hr;obtain⟨ys,rfl,z1,zs1,rfl,⟨ys2,rfl,_,_,rfl,rfl,_,_,rfl,rfl,_,_,rfl,rfl,_,_,rfl,rfl,_,_,rfl,rfl,_,_,rfl,rfl,_,_,rfl,rfl,_,_,rfl,⟨_,A,c,rfl,_⟩,rfl⟩,_,_,rfl,rfl,rfl⟩:=hr;exact⟨A,_,c,rfl⟩
theorem YF(xs:List AV)(vs:List Value)(hx:Bc (fun b _=>b<N) w xs vs):Bc (fun b _=>b<N) w (.agg (AQ s)::xs) (.agg #[ds,ms]::vs):=by
 have _:=hs;simp only[Bc];refine⟨_,_,rfl,?_,hx⟩;simp only[Ai];exact⟨[ds,ms],rfl,h.2⟩
theorem YG(a:A8):Bc (fun b _=>b<N) w [.agg (AQ s), .agg (AB a)] [.agg #[ds,ms],FF a]:=by
 refine YF h hs _ _ ?_;simp only[Bc,Ai,AB,FF];exact⟨_,_,rfl,⟨[.int .i64 a.1, .int .i64 a.2],rfl,_,_,rfl,rfl,_,_,rfl,rfl,rfl⟩,rfl⟩
theorem YH(d:Int):Bc (fun b _=>b<N) w [.agg (AQ s), .v (.int .i64 d)] [.agg #[ds,ms], .int .i64 d]:=by
 refine YF h hs _ _ ?_;simp only[Bc,Ai];exact⟨_,_,rfl,rfl,rfl⟩
theorem kZ(d:Int):Calls prog 229 #[.agg #[ds,ms], .int .i64 d] w fun e w'=>
    e= .returned (.tuple #[FF ((CB s d).getD (0,0)), .bool (CB s d).isSome])/\Below w.heap.size w w':=by
 refine(Q3 (Tv s d hs) (vs:=[.agg #[ds,ms], .int .i64 d]) h.1 (YH h hs d)).mono ?_;rintro e w' ⟨v,G',rfl,hr,hb⟩;refine⟨?_,hb⟩;simp only[rep,AN,AB]at hr;obtain⟨ys,rfl,z1,zs1,rfl,⟨ys2,rfl,_,_,rfl,rfl,_,_,rfl,rfl,rfl⟩,_,_,rfl,rfl,rfl⟩:=hr;rfl
theorem l0(a:A8):Calls prog 281 #[.agg #[ds,ms],FF a] w fun e w'=>e= .returned (.bool (AU s.files a))/\Below w.heap.size w w':=by
 refine(Q3 (iO s a hs) (vs:=[.agg #[ds,ms],FF a]) h.1 (YG h hs a)).mono ?_;rintro e w' ⟨v,G',rfl,hr,hb⟩;simp only[rep]at hr;exact⟨by rw[hr],hb⟩
theorem l3(d:Int):Calls prog 187 #[.agg #[ds,ms], .int .i64 d] w fun e w'=>e= .returned (.bool (CR s d))/\Below w.heap.size w w':=by
 refine(Q3 (hG s d hs) (vs:=[.agg #[ds,ms], .int .i64 d]) h.1 (YH h hs d)).mono ?_;rintro e w' ⟨v,G',rfl,hr,hb⟩;simp only[rep]at hr;exact⟨by rw[hr],hb⟩
end
theorem SpcIn.devs{s:Spc}{N:Nat}{w:World}{ds ms:Value}(h:SpcIn s N w ds ms):∃A cap,ds= .slice A s.files.length cap/\s.files.length<=cap/\cap<=maxLen/\
    (0<s.files.length->∃b off,A=some ⟨b,off,none⟩/\b<N/\∀i d,s.files[i]?=some d->w.cell? ⟨b,off+i * 2,none⟩=some (.int .i64 d.next)/\∃A2 cap2,w.cell? ⟨b,off+i * 2+1,none⟩=some (.slice A2 d.nodes.length cap2)):=by
 have h2:=h.2;simp only[AQ,Bc]at h2;obtain⟨z,zs,e1,h3,_⟩:=h2;obtain⟨rfl,rfl⟩:=List.cons.inj e1;simp only[Ai,List.length_map]at h3;obtain⟨_,A,cap,rfl,h4,h5,h6⟩:=h3;refine⟨A,cap,rfl,h4,h5,fun hpos=>?_⟩;rcases h6 with h6|⟨b,off,rfl,h6⟩
 ·simp at h6;rw[h6]at hpos;simp at hpos
 refine⟨b,off,rfl,?_,?_⟩
 ·obtain⟨_,h8⟩:=NV h6 (i:=0) (r:=CQ (s.files[0]'hpos)) (by simp[hpos]);simp only[CQ,Dd]at h8;exact h8.1.1
 intro i d hd;obtain⟨_,h8⟩:=NV h6 (i:=i) (r:=CQ d) (by simp[hd]);simp only[CQ,Dd,Ai,List.length_map]at h8;obtain⟨⟨_,u,h9,_,rfl⟩,⟨_,u2,h10,_,_,A2,cap2,rfl,_⟩,_⟩:=h8;exact⟨h9,A2,cap2,h10⟩
theorem YJ(ds ms:Value)(a:A8)(w:World):
    Calls prog 170 #[.agg #[ds,ms],FF a] w fun e w'=>
     e= .returned (.func (.func 228) #[] #[.pointer (some ⟨w.heap.size,0,none⟩), .pointer (some ⟨w.heap.size+1,0,none⟩)])/\
     w'=(w.alloc (.cells #[ds,ms] 42)).alloc (.cells #[.int .i64 a.1, .int .i64 a.2] 26):=by
 unfold FF
 go_enter Tryz.func170,Tryz.ntmps170
 go_wp2
 go_ret
 exact⟨by simp,rfl⟩
end
section
open Go.RowKit
open Go.Shelf
attribute [local go_sem] Oper.semAt_some
theorem l4{n:Nat}{P:Program}{c:Code}{Q:Exit->Act->World->Prop}{a:Act}{w:World}(h:c.wpIn Fence.wide n P (Exit.noGoto Q) a w):(Code.scope c).wpIn Fence.wide n P Q a w:=
 wpIn_wide.2 (wp_scope_straight (wpIn_wide.1 h))
theorem Moves.setc{own:Nat->Prop}{B:Nat}(X:World){p:Addr}(hb:own p.block)(v:Value):Moves own B X (X.setCell p v):=
 have h:Below 0 X (X.setCell p v):=(Below.refl 0 X).setCell (BG _) v
 ⟨h.os,h.tape,h.output,h.size,fun k _ hk _=>Below.heap_setCell X p v k fun e=>hk (by rw[e];exact hb)⟩
def GZ(s:Spc)(a:A8):Option A8:=
 if(AY s.files a).ino≠1 then some (a.1,(AY s.files a).parent)
 else if a.1=0 then none else CB s a.1
def BS(s:Spc):Nat->A8->List A8
 |0,_=>[]
 |k+1,a=>if AU s.files a then a::(match GZ s a with
   |none=>[]
   |some b=>BS s k b)else[]
def Bh(f:AR):Nat:=(f.map fun d=>d.nodes.length).sum
def KeepC(N sb db:Nat)(X Y:World):Prop:=X.heap.size<=Y.heap.size/\Y.heap[sb]?=X.heap[sb]?/\Y.heap[db]?=X.heap[db]?/\(∀b,b<N->Y.heap[b]?=X.heap[b]?)/\
 ∀(b:Nat) (cs:Array Value),X.heap[b]?=some (.cells cs 151)->Y.heap[b]?=some (.cells cs 151)
theorem KeepC.trans{N sb db:Nat}{X Y Z:World}(h:KeepC N sb db X Y)(k:KeepC N sb db Y Z):KeepC N sb db X Z:=
 ⟨Nat.le_trans h.1 k.1,k.2.1.trans h.2.1,k.2.2.1.trans h.2.2.1,fun b hb=>(k.2.2.2.1 b hb).trans (h.2.2.2.1 b hb),fun b cs hb=>k.2.2.2.2 b cs (h.2.2.2.2 b cs hb)⟩
theorem YK{N sb db B:Nat}(hN:N<=B)(hs:sb<B)(hd:db<B)(W:World)(l:Nat)(o o':Obj)(hl:B<=l)(ho:W.heap[l]?=some o)(hc:o.isCells=false):KeepC N sb db W (W.putObj l o'):=
 ⟨(grownBy_putObj' W l o').size,World.putObj_heap_other (by omega),World.putObj_heap_other (by omega),fun b hb=>World.putObj_heap_other (by omega),fun b cs hb=>by
  refine(World.putObj_heap_other fun e=>?_).trans hb;subst e;rw[ho]at hb;injection hb with hb;subst hb
  cases hc⟩
theorem Q4{N sb db:Nat}{X Y:World}(h:Below X.heap.size X Y)(hN:N<=X.heap.size)(hs:sb<X.heap.size)(hd:db<X.heap.size):KeepC N sb db X Y:=
 ⟨h.size,h.block _ hs,h.block _ hd,fun b hb=>h.block _ (by omega),fun b cs hb=>(h.block _ (Array.getElem?_eq_some_iff.1 hb).1).trans hb⟩
theorem YL{f:AR}(hf:FlsB f)(j:Nat):Bh (f.take j)<=1000000:=by
 have:∀(l:AR),(∀d∈l,d.nodes.length<=1000)->Bh l<=l.length * 1000:=by
  intro l
  induction l with
  |nil=>intro _;simp[Bh]
  |cons d l ih=>
    intro h;have h1:=ih fun d hd=>h d (List.mem_cons_of_mem _ hd);have h2:=h d (List.mem_cons_self ..);simp only[Bh,List.map_cons,List.sum_cons,List.length_cons]at h1 ⊢;omega
 have h1:=this (f.take j) fun d hd=>hf.nodes d (List.mem_of_mem_take hd);have h2:=hf.few;have h3:(f.take j).length<=f.length:=by simp;omega
 have:(f.take j).length * 1000<=1000 * 1000:=Nat.mul_le_mul_right _ (by omega);omega
theorem l6{f:AR}{j:Nat}{d:Dvc}(h:f[j]?=some d):Bh (f.take (j+1))=Bh (f.take j)+d.nodes.length:=by
 rw[List.take_add_one,h];simp[Bh]
set_option maxRecDepth 100000 in
set_option maxHeartbeats 2000000 in
theorem YM(n:Nat)(s:Spc)(hs:SpcB s)(a0:A8)(N sb db:Nat)(ds ms:Value)(w:World)(h0:w.heap[sb]?=some (.cells #[ds,ms] 42))(h1:w.heap[db]?=some (.cells #[.int .i64 a0.1, .int .i64 a0.2] 26))
    (hS:SpcIn s N w ds ms) (hNs:N<=sb) (hNd:N<=db) (hne:sb≠db):
    SeqW Fence.wide n prog 228 #[.pointer (some ⟨sb,0,none⟩), .pointer (some ⟨db,0,none⟩)] (fun x:A8=>#[FF x]) (fun b=>b=db) (KeepC N sb db) (fun xs=>xs<+:BS s (Bh s.files) a0)
     (fun xs=>xs=BS s (Bh s.files) a0) (fun pre=>pre<+:BS s (Bh s.files) a0) w:=fun l J Jx W hW hJ hJx hY hst=>by
 have lt_of:∀{W:World} {k:Nat} {o:Obj},W.heap[k]?=some o->k<W.heap.size:=fun h=>(Array.getElem?_eq_some_iff.1 h).1;have k0:W.heap[sb]?=some (.cells #[ds,ms] 42):=BY h0 hW (lt_of h0);have k1:W.heap[db]?=some (.cells #[.int .i64 a0.1, .int .i64 a0.2] 26):=BY h1 hW (lt_of h1);have kS:SpcIn s N W ds ms:=hS.below hW hS.1;obtain⟨A,cap,rfl,hcap,hcm,hdev⟩:=kS.devs;obtain⟨c0,f0⟩:=CS k0;obtain⟨c1,f1⟩:=CS k1;have hfew:=hs.files.few;have HD:=Lib.hid hdev;have HW:=Lib.hid hW;have HJ:=Lib.hid hJ;have HJx:=Lib.hid hJx;have HY:=Lib.hid hY;clear hdev hS hW hJ hJx hY h0 h1;refine callsIn_of_wp Tryz.func228 rfl trivial ?_ rfl;simp only[Tryz.ntmps228,List.size_toArray,List.length_cons,List.length_nil,Nat.reduceAdd,Nat.reduceSub,Array.replicate_succ,Array.replicate_zero,List.push_toArray,List.append_toArray,List.nil_append,List.cons_append]
 gi_wp2
 refine l4 ?_
 gi_wp2
 gi_loopw [4,14] (fun t i wr=>∃j:Nat,j<=s.files.length/\i= .int .i64 j/\t= .int .i64 (Bh (s.files.take j))/\Below W.heap.size W wr) (fun _ i _=>s.files.length - (intOf i).toNat)
 case atStart=>exact⟨0,BG _,rfl,rfl,Below.refl _ _⟩
 case round=>
  obtain⟨j,hj,rfl,rfl,hb⟩:=hrel;have hNW:=kS.1;by_cases hlt:j<s.files.length
  ·obtain⟨b,off,rfl,hbN,hrow⟩:=HD.out (by omega);obtain⟨r1,A2,cap2,r2⟩:=hrow j _ (B7 hlt);have r1':=(World.cell?_of_block (w:=W) (w':=wr) (a:=⟨b,off+j * 2,none⟩) (hb.block b (by omega))).trans r1;have r2':=(World.cell?_of_block (w:=W) (w':=wr) (a:=⟨b,off+j * 2+1,none⟩) (hb.block b (by omega))).trans r2;have hM:=YL hs.files j;have hL:=hs.files.nodes _ (List.getElem_mem hlt);have HE:=Lib.hid (l6 (B7 hlt));generalize (s.files[j]).nodes.length=L at *;generalize (s.files[j]).next=nx at *;generalize Bh (s.files.take j)=M at *;clear hrow r1 r2 hs
   gi_wp2
   go_roundw
   case rel=>exact⟨j+1,by omega,by go_num,by rw[HE.out];go_num,hb.alloc hb.size _⟩
   case measure=>simp[intOf];omega
  have ej:j=s.files.length:=by omega
  subst ej;have hM:=YL hs.files s.files.length;rw[List.take_length]at hM;rw[List.take_length];have k0':=BY k0 hb (lt_of k0);have k1':=BY k1 hb (lt_of k1);have kS':=kS.below hb hNW;have hJ0:J [] wr:=HJ.out _ _ _ hst (Moves.below hb)
  gi_wp2
  refine wpIn_label ?_
  gi_wp2
  clear c0 f0 c1 f1 k0 k1 kS hst;obtain⟨M,hM0⟩:∃M,Bh s.files=M:=⟨_,rfl⟩;rw[hM0]at hM ⊢;have HM:=Lib.hid hM0;clear hM0
  gi_loopw [25] (fun i wr=>∃(j:Nat) (pre:List A8) (cur:A8),j<=M/\i= .int .i64 j/\J pre wr/\wr.heap[sb]?=some (.cells #[.slice A s.files.length cap,ms] 42)/\
   wr.heap[db]?=some (.cells #[.int .i64 cur.1, .int .i64 cur.2] 26)/\SpcIn s N wr (.slice A s.files.length cap) ms/\Hid (pre++BS s (M - j) cur=BS s M a0)) (fun i _=>M - (intOf i).toNat)
  case atStart=>exact⟨0,[],a0,BG _,rfl,hJ0,k0',k1',kS',rfl⟩
  case round=>
   obtain⟨j,pre,cur,hj,rfl,hJp,m0,m1,mS,hch⟩:=hrel;clear k0' k1' kS' hJ0;obtain⟨c0,f0⟩:=CS m0;obtain⟨c1,f1⟩:=CS m1;by_cases hlt:j<M
   ·have HC:Hid (BS s (M - j) cur=if AU s.files cur then cur::(match GZ s cur with
       |none=>[]
       |some b=>BS s (M - (j+1)) b)else[]):=by
       rw[show M - j=(M - (j+1))+1 by omega];exact Lib.hid rfl
    gi_wp2_with fail
    refine G4 ((callsIn_wide.2 (kY mS hs cur)).mono ?_);rintro e w1 ⟨⟨eA,em,ec,rfl⟩,kd⟩;have HB1:=Lib.hid kd;have HD1:=Lib.hid (L5 s.files cur);obtain⟨nd,hnd⟩:∃nd,AY s.files cur=nd:=⟨_,rfl⟩;have HN:=Lib.hid hnd;obtain⟨hg,hhg⟩:∃hg,Dl s.files cur=hg:=⟨_,rfl⟩;have HH:=Lib.hid hhg;have n0:=BY m0 kd (lt_of m0);have n1:=BY m1 kd (lt_of m1);have nS:=mS.below kd mS.1;have hz:=kd.size;clear c0 f0 c1 f1;obtain⟨c0,f0⟩:=CS n0;obtain⟨c1,f1⟩:=CS n1;rw[hnd,hhg];clear kd hnd hhg
    cases hg with
    |false=>
      have HE:Hid (BS s (M - j) cur=[]):=Lib.hid (by rw[HC.out,HD1.out,HH.out];simp)
      gi_wp2
      refine⟨fun _ h=>(by cases h),?_⟩
      gi_wp2
      rw[Exit.noGoto_ret];refine bodyPost_ret (results_none rfl _ _ _) rfl ?_;exact⟨⟨_,rfl⟩, .inl ⟨pre,by rw[HM.out,<-hch.out,HE.out];simp,HJ.out _ _ _ hJp (Moves.below (HB1.out.alloc hz _))⟩⟩
    |true=>
      by_cases hk:nd.kind=2
      ·have HE:Hid (BS s (M - j) cur=cur::(match GZ s cur with
          |none=>[]
          |some b=>BS s (M - (j+1)) b)):=Lib.hid (by rw[HC.out,HD1.out,HH.out,HN.out];simp[hk])
       obtain⟨W2,hW2⟩:∃W2,w1.alloc (.cells #[.int .i64 nd.ino, .int .i64 2, .int .i64 nd.mode, .int .i64 nd.uid, .int .i64 nd.gid, .int .i64 nd.parent, .string nd.target, .slice eA em ec] 151)=W2:=⟨_,rfl⟩;have hB2:Below wr.heap.size wr W2:=by rw[<-hW2];exact HB1.out.alloc hz _
       have hJ2:J pre W2:=HJ.out _ _ _ hJp (Moves.below hB2);have q7:W2.heap[w1.heap.size]?=some (.cells #[.int .i64 nd.ino, .int .i64 2, .int .i64 nd.mode, .int .i64 nd.uid, .int .i64 nd.gid, .int .i64 nd.parent, .string nd.target, .slice eA em ec] 151):=by rw[<-hW2];exact MV _ _
       have q0:=BY m0 hB2 (lt_of m0);have q1:=BY m1 hB2 (lt_of m1);have qS:=mS.below hB2 mS.1;obtain⟨fn,tmps,assign,body,hy,hR⟩:=HY.out pre cur W2 hJ2 (by rw[HM.out,<-hch.out,HE.out];exact⟨_,by rw[List.append_assoc];rfl⟩);rw[<-hW2]at hy;unfold FF at hy;have HH2:=Lib.hid hW2;clear hW2
       gi_wp2
       refine⟨(fun h=>by cases h),?_⟩;rw[HH2.out];refine hR.mono ?_;rintro e W3 (⟨rfl,hJ3,hk3⟩|⟨rfl,hJx3⟩)
       ·obtain⟨z0,z1,z2,z3,z4⟩:=hk3;have r0:=z1.trans q0;have r1:=z2.trans q1;have r7:=z4 _ _ q7;have rS:=qS.keep z0 z3;clear hy hR c0 f0 c1 f1 q0 q1 q7 qS;obtain⟨c0,f0⟩:=CS r0;obtain⟨c1,f1⟩:=CS r1;obtain⟨c7,f7⟩:=CS r7;by_cases hi:nd.ino=1
        ·gi_wp2_with fail
         refine G4 ((callsIn_wide.2 (kZ rS hs cur.1)).mono ?_);rintro e w4 ⟨rfl,kl⟩;have HP:=Lib.hid (show GZ s cur=if cur.1=0 then none else CB s cur.1 by unfold GZ;rw[HN.out,if_neg (by simp[hi])]);obtain⟨pl,hpl⟩:∃pl,CB s cur.1=pl:=⟨_,rfl⟩;rw[hpl];have HPL:=Lib.hid hpl;have s0:=BY r0 kl (lt_of r0);have s1:=BY r1 kl (lt_of r1);have sS:=rS.below kl rS.1;have sz:=kl.size;have sJ:=HJ.out _ _ _ hJ3 (Moves.below kl);clear c0 f0 c1 f1 c7 f7 kl hpl r0 r1 r7 rS;obtain⟨c0,f0⟩:=CS s0;obtain⟨c1,f1⟩:=CS s1;unfold FF
         cases pl with
         |none=>
           have HS:Hid (GZ s cur=none):=Lib.hid (by rw[HP.out,HPL.out];split<;>rfl)
           gi_wp2
           rw[Exit.noGoto_ret];refine bodyPost_ret (results_none rfl _ _ _) rfl ?_;exact⟨⟨_,rfl⟩, .inl ⟨pre++[cur],by rw[HM.out,<-hch.out,HE.out,HS.out],HJ.out _ _ _ sJ (Moves.below ((Below.refl _ _).alloc (As _) _))⟩⟩
         |some on=>
           by_cases hd:cur.1=0
           ·have HS:Hid (GZ s cur=none):=Lib.hid (by rw[HP.out,if_pos hd])
            gi_wp2
            rw[Exit.noGoto_ret];refine bodyPost_ret (results_none rfl _ _ _) rfl ?_;exact⟨⟨_,rfl⟩, .inl ⟨pre++[cur],by rw[HM.out,<-hch.out,HE.out,HS.out],HJ.out _ _ _ sJ (Moves.below ((Below.refl _ _).alloc (As _) _))⟩⟩
           have HS:Hid (GZ s cur=some on):=Lib.hid (by rw[HP.out,if_neg hd,HPL.out])
           gi_wp2
           have t1:=Db (Of (Of s1 0 (.int .i64 on.1)) 1 (.int .i64 on.2)) (.cells #[.int .i64 on.1, .int .i64 on.2] 26);have t0:=Db (Nv (Nv s0 (p:=⟨db,0,none⟩) hne (.int .i64 on.1)) (p:=⟨db,1,none⟩) hne (.int .i64 on.2)) (.cells #[.int .i64 on.1, .int .i64 on.2] 26)
           have ko:Below N w4 (((w4.setCell ⟨db,0,none⟩ (.int .i64 on.1)).setCell ⟨db,1,none⟩ (.int .i64 on.2)).alloc (.cells #[.int .i64 on.1, .int .i64 on.2] 26)):=
            (((Below.refl _ _).setCell hNd _).setCell hNd _).alloc (by simpa using sS.1) _
           refine⟨⟨j+1,pre++[cur],on,by omega,by go_num,?_,t0,by simpa using t1,sS.below ko (As _),Lib.hid ?_⟩,by simp[intOf];omega⟩
           ·exact HJ.out _ _ _ (HJ.out _ _ _ (HJ.out _ _ _ sJ (Moves.setc (own:=fun b=>b=db) (p:=⟨db,0,none⟩) _ rfl _)) (Moves.setc (own:=fun b=>b=db) (p:=⟨db,1,none⟩) _ rfl _)) (Moves.below ((Below.refl _ _).alloc (As _) _))
           rw[<-hch.out,HE.out,HS.out];simp
        have HS:Hid (GZ s cur=some (cur.1,nd.parent)):=Lib.hid (by unfold GZ;rw[HN.out,if_pos hi])
        gi_wp2
        have m1':=Of r1 1 (.int .i64 nd.parent);have m0':=Nv r0 (p:=⟨db,1,none⟩) hne (.int .i64 nd.parent);have kl:Below N W3 (W3.setCell ⟨db,1,none⟩ (.int .i64 nd.parent)):=(Below.refl _ _).setCell hNd _;refine⟨⟨j+1,pre++[cur],(cur.1,nd.parent),by omega,by go_num,HJ.out _ _ _ hJ3 (Moves.setc (own:=fun b=>b=db) (p:=⟨db,1,none⟩) _ rfl _),m0',by simpa using m1',rS.below kl (As _),Lib.hid ?_⟩,by simp[intOf];omega⟩;rw[<-hch.out,HE.out,HS.out];simp
       clear hy hR
       gi_wp2
       rw[Exit.noGoto_ret];refine bodyPost_ret (results_none rfl _ _ _) rfl ?_;exact⟨⟨_,rfl⟩, .inr ⟨pre++[cur],by rw[HM.out,<-hch.out,HE.out];exact⟨_,by rw[List.append_assoc];rfl⟩,hJx3⟩⟩
      have HE:Hid (BS s (M - j) cur=[]):=Lib.hid (by rw[HC.out,HD1.out,HH.out,HN.out];simp[hk])
      gi_wp2
      refine⟨fun _ h=>(by cases h),?_⟩
      gi_wp2
      rw[Exit.noGoto_ret];refine bodyPost_ret (results_none rfl _ _ _) rfl ?_;exact⟨⟨_,rfl⟩, .inl ⟨pre,by rw[HM.out,<-hch.out,HE.out];simp,HJ.out _ _ _ hJp (Moves.below (HB1.out.alloc hz _))⟩⟩
   have HC:Hid (BS s (M - j) cur=[]):=by rw[show M - j=0 by omega];exact Lib.hid rfl
   gi_wp2
   rw[Exit.noGoto_normal]
   go_end0
   exact⟨⟨_,rfl⟩, .inl ⟨pre,by rw[HM.out,<-hch.out,HC.out];simp,hJp⟩⟩
end
section
open Go.RowKit
theorem Oh{es:List BQ}{j:Nat}{e:BQ}(h:es[j]?=some e)(name:AD)(ino:Int)(dn:Bool):Jv name ino dn (es.drop j)=(if !dn&& !J5 e.1 name then[(name,ino)]else[])++((if e.1=name then[]else[e])++Jv name ino (dn|| !J5 e.1 name) (es.drop (j+1))):=by
 obtain⟨hj,rfl⟩:=AZ.1 h;rw[List.drop_eq_getElem_cons hj];rfl
section
theorem Q5(f:AR)(q:Nat)(d:Dvc)(n:Nod)(i:Nat)(a:A8)(name:AD)(ino:Int)(cap cap1:Nat)(hf:FlsB f)(hq:f[q]?=some d)(ha:a.1=(q:Int))(hi:JH f a=(i:Int))(hn:d.nodes[i]?=some n)(yk:f.length<=cap)(yz:d.nodes.length<=cap1):
    ACall prog 232 [.agg [.bs 0 0 2 f.length cap], .agg (AB a), .v (.string name), .v (.int .i64 ino)] [DB f q d 1 cap cap1,NB d.nodes cap1] (fun r b t=>t=[]/\r= .tup []/\b=[DB f q d 1 cap cap1,NB (d.nodes.set i {n with entries:=DP n.entries name ino}) cap1]):=by
 have hql:=(AZ.1 hq).1;have hil:=(AZ.1 hn).1;have hen:=hf.ents d (Aj hq) n (Aj hn);have hN0:0+i * 8+8<=(NB d.nodes cap1).length:=by rw[Pw yz];omega
 have hD0:(DB f q d 1 cap cap1)[0+q * 2+1]?=some (.bs 1 0 8 d.nodes.length cap1):=Py hql;have yp:SetAt (NB d.nodes cap1) (0+i * 8+7) [.sl 2 ((DP n.entries name ino).map D6) none] (NB (d.nodes.set i {n with entries:=DP n.entries name ino}) cap1):=UR hn (by repeat constructor) (by simp);refine enter Tryz.func232 rfl rfl rfl rfl rfl 2 rfl ?_;refine Fe (h:=e_ (?_));refine BD (fun t=>t=⟨look [(2, .v (.string name)),(3, .v (.int .i64 ino)),(4, .bp 2 0),(5, .bp 3 0),(8, .bp 4 0)],⟨[DB f q d 1 cap cap1,NB d.nodes cap1,[.bs 0 0 2 f.length cap],AB a,Al n],[]⟩⟩) ?_ ?_
 ·refine BJ ([(0,DB f q d 1 cap cap1),(1,NB d.nodes cap1),(2,[.bs 0 0 2 f.length cap]),(3,AB a)]) 13 (h:=AA 0 (h:=?_));refine A9 1 (h:=?_);refine AA 2 (h:=?_);refine A9 3 (h:=?_);refine CE 4 rfl (fun _ hS=>EF (m:=q) rfl rfl ha hql ⟨rfl,rfl⟩) ?_;refine AA 5 (h:=?_);refine CE 6 rfl (fun _ hS=>Fa (row:=DB f q d 1 cap cap1) rfl (kb hS rfl) hD0 ⟨rfl,rfl⟩) ?_;refine A9 7 (h:=?_);refine A9 8 (h:=?_);refine Ed 9 12 rfl rfl ?_ ?_
  ·refine DX 2 rfl (.cons _ _ _ _ _ rfl (LeA.of_eq (NA hq yk yz (BG _) (BG _) rfl rfl)) (.cons _ _ _ _ _ rfl (A6 _) .nil)) (N3 f a hf) ?_;rintro r rfl;refine⟨rfl,?_⟩;refine o_ (h:=CE 10 rfl (fun _ hS=>EF (m:=i) rfl rfl hi hil ⟨rfl,rfl⟩) ?_);refine CE 11 rfl (fun _ hS=>S1 (row:=NB d.nodes cap1) rfl (kb hS rfl) hN0 (Rz hn) ⟨rfl,rfl⟩) ?_;refine c_ 12 rfl (Bn (by repeat constructor) ?_);refine o_ (h:=Ax 13 (h:=z_ (h:=?_)));refine AT ?_;exact⟨_,rfl,CF 5 0 (by simp[Am,Af,Aa,FG,FH,AB,Al])⟩
  refine Bn (by repeat constructor) ?_;refine o_ (h:=c_ 9 rfl (DX 2 rfl (.cons _ _ _ _ _ rfl (LeA.of_eq (NA hq yk yz (BG _) (BG _) rfl rfl)) (.cons _ _ _ _ _ rfl (A6 _) .nil)) (N3 f a hf) ?_));rintro r rfl;refine⟨rfl,?_⟩;refine o_ (h:=CE 10 rfl (fun _ hS=>EF (m:=i) rfl rfl hi hil ⟨rfl,rfl⟩) ?_);refine CE 11 rfl (fun _ hS=>S1 (row:=NB d.nodes cap1) rfl (kb hS rfl) hN0 (Rz hn) ⟨rfl,rfl⟩) ?_;refine Ax 13 (h:=z_ (h:=?_));refine AT ?_;exact⟨_,rfl,CF 5 0 (by simp[Am,Af,Aa,FG,FH,AB,Al])⟩
 rintro t rfl;refine FB (h:=Et (h:=Cz (h:=?_)));refine NZ 9 234 2 rfl (by repeat constructor) ?_;refine BL (fun m t=>∃(j:Nat) (acc:List BQ) (dn:Bool),j<=n.entries.length/\m=n.entries.length - j/\acc++Jv name ino dn (n.entries.drop j)=DP n.entries name ino/\acc.length<=2 * j/\t=⟨look [(2, .v (.string name)),(3, .v (.int .i64 ino)),(4, .bp 2 0),(5, .bp 3 0),(8, .bp 4 0),(9, .sl 2 (acc.map D6) (some 0)),(10, .v (.bool dn)),(11, .v (.int .i64 (j:Int)))],⟨[DB f q d 1 cap cap1,NB d.nodes cap1,[.bs 0 0 2 f.length cap],AB a,Al n],[(234,2,acc.map D6)]⟩⟩) (n.entries.length) (CF 5 1 (by simp[Am,Af,Aa,FG,FH,AB,Al])) (⟨0,[],_,BG _,rfl,rfl,by simp,rfl⟩) ?_;rintro m t ⟨j,acc,dn,hj,rfl,yl,hal,rfl⟩;refine Hz (h:=?_);refine A3 rfl (fun kd ka=>?_) (fun kd ka=>?_)
 ·obtain⟨hlt,e,hy,ya, -⟩:=Bx D6 ka;refine Bq (h:=Be (h:=F6 (h:=?_)));refine AF true rfl rfl (fun ke kc=>?_) (fun ke kc=>?_)
  ·have hdn:=kc;refine Eu (h:=i_ (h:=Eu (h:=Dt (h:=Bm (h:=e_ (?_))))));refine A3 rfl (fun kh kf=>?_) (fun kh kf=>?_)
   ·have hsl:J5 e.1 name=false:=kf;refine w_ (m_ (h:=m_ (h:=m_ (h:=Bd (h:=BT (h:=G8 (h:=a_ (h:=e_ (Aq (a_ (h:=e_ (w_ (f_ (h:=l_ (h:=m_ (h:=i_ (h:=f_ (h:=l_ (h:=m_ (h:=Hp (h:=e_ (?_))))))))))))))))))))));refine A3 rfl (fun kl kg=>?_) (fun kl kg=>?_)
    ·have hnm:¬e.1=name:=kg;refine Aq (m_ (h:=f_ (h:=l_ (h:=m_ (h:=i_ (h:=l_ (h:=BT (h:=G8 (h:=a_ (h:=Bu (Bz (t_ (Aq (m_ (h:=Ez (h:=a_ (h:=Bu (AT (?_)))))))))))))))))))
     (exact⟨n.entries.length - (j+1),_,by omega,⟨j+1,acc++[(name,ino)]++[e],true,by omega,rfl,(by rw[<-yl,Oh hy];first|(simp only[hsl,hdn];simp[hnm];done)|(simp only[hdn];simp[hnm];done)),(by(try simp);omega),rfl⟩,(by(try simp only[List.map_append,List.map_cons,List.map_nil]);exact CF 5 1 (by simp[Am,Af,Aa,FG,FH,AB,Al]))⟩)
    have hnm:e.1=name:=kg;refine Dg (h:=?_);exact⟨n.entries.length - (j+1),_,by omega,⟨j+1,acc++[(name,ino)],true,by omega,rfl,(by rw[<-yl,Oh hy];first|(simp only[hsl,hdn];simp[hnm];done)|(simp only[hdn];simp[hnm];done)),(by(try simp);omega),rfl⟩,(by(try simp only[List.map_append,List.map_cons,List.map_nil]);exact CF 5 1 (by simp[Am,Af,Aa,FG,FH,AB,Al]))⟩
   have hsl:J5 e.1 name=true:=kf;refine AG (F8 (h:=i_ (h:=Eu (h:=D3 (h:=?_)))));refine A3 rfl (fun ko kk=>?_) (fun ko kk=>?_)
   ·have hnm:¬e.1=name:=kk;refine Aq (m_ (h:=f_ (h:=l_ (h:=m_ (h:=i_ (h:=l_ (h:=BT (h:=G8 (h:=a_ (h:=Bu (Bz (t_ (Aq (m_ (h:=Ez (h:=a_ (h:=Bu (AT (?_)))))))))))))))))));exact⟨n.entries.length - (j+1),_,by omega,⟨j+1,acc++[e],dn,by omega,rfl,(by rw[<-yl,Oh hy];first|(simp only[hsl,hdn];simp[hnm];done)|(simp only[hdn];simp[hnm];done)),(by(try simp);omega),rfl⟩,(by(try simp only[List.map_append,List.map_cons,List.map_nil]);exact CF 5 1 (by simp[Am,Af,Aa,FG,FH,AB,Al]))⟩
   have hnm:e.1=name:=kk;refine Dg (h:=?_);exact⟨n.entries.length - (j+1),_,by omega,⟨j+1,acc,dn,by omega,rfl,(by rw[<-yl,Oh hy];first|(simp only[hsl,hdn];simp[hnm];done)|(simp only[hdn];simp[hnm];done)),(by(try simp);omega),rfl⟩,(by(try simp only[List.map_append,List.map_cons,List.map_nil]);exact CF 5 1 (by simp[Am,Af,Aa,FG,FH,AB,Al]))⟩
  have hdn:=kc;refine CO (h:=CO (h:=GC (h:=AG (F8 (h:=i_ (h:=Eu (h:=D3 (h:=?_))))))));refine A3 rfl (fun kq km=>?_) (fun kq km=>?_)
  ·have hnm:¬e.1=name:=km;refine Aq (m_ (h:=f_ (h:=l_ (h:=m_ (h:=i_ (h:=l_ (h:=BT (h:=G8 (h:=a_ (h:=Bu (Bz (t_ (Aq (m_ (h:=Ez (h:=a_ (h:=Bu (AT (?_)))))))))))))))))));exact⟨n.entries.length - (j+1),_,by omega,⟨j+1,acc++[e],dn,by omega,rfl,(by rw[<-yl,Oh hy];first|(simp only[hsl,hdn];simp[hnm];done)|(simp only[hdn];simp[hnm];done)),(by(try simp);omega),rfl⟩,(by(try simp only[List.map_append,List.map_cons,List.map_nil]);exact CF 5 1 (by simp[Am,Af,Aa,FG,FH,AB,Al]))⟩
  have hnm:e.1=name:=km;refine Dg (h:=?_);exact⟨n.entries.length - (j+1),_,by omega,⟨j+1,acc,dn,by omega,rfl,(by rw[<-yl,Oh hy];first|(simp only[hsl,hdn];simp[hnm];done)|(simp only[hdn];simp[hnm];done)),(by(try simp);omega),rfl⟩,(by(try simp only[List.map_append,List.map_cons,List.map_nil]);exact CF 5 1 (by simp[Am,Af,Aa,FG,FH,AB,Al]))⟩
 have e:=CA D6 hj ka;subst e;rw[List.drop_length]at yl;refine C4 (h:=Be (h:=CY (h:=?_)));refine A3 rfl (fun ks kp=>?_) (fun ks kp=>?_)
 ·have hdn:dn=false:=kp;have ea:acc++[(name,ino)]=DP n.entries name ino:=by rw[<-yl,hdn];rfl
  refine Aq (m_ (h:=m_ (h:=m_ (h:=Bd (h:=BT (h:=G8 (h:=a_ (h:=e_ (BJ ([(0,DB f q d 1 cap cap1),(2,[.bs 0 0 2 f.length cap]),(3,AB a),(4,Al n)]) 14 (h:=AA 0 (h:=?_)))))))))));refine A9 1 (h:=?_);refine AA 2 (h:=?_);refine A9 3 (h:=?_);refine CE 4 rfl (fun _ hS=>EF (m:=q) rfl rfl ha hql ⟨rfl,rfl⟩) ?_;refine AA 5 (h:=?_);refine CE 6 rfl (fun _ hS=>Fa (row:=DB f q d 1 cap cap1) rfl (kb hS rfl) hD0 ⟨rfl,rfl⟩) ?_;refine A9 7 (h:=?_);refine A9 8 (h:=?_);refine CE 10 rfl (fun _ hS=>JC (y:= .sl 2 ((DP n.entries name ino).map D6) none) (JB rfl ⟨rfl,rfl⟩) (by rw[<-ea];(try simp only[List.map_append,List.map_cons,List.map_nil]);exact LeA.tok _ _ _) ⟨rfl,rfl⟩) ?_;refine c_ 9 rfl (DX 2 rfl (.cons _ _ _ _ _ rfl (LeA.of_eq (NA hq yk yz (BG _) (BG _) rfl rfl)) (.cons _ _ _ _ _ rfl (A6 _) .nil)) (N3 f a hf) ?_);rintro r rfl;refine⟨rfl,?_⟩;refine o_ (h:=CE 11 rfl (fun _ hS=>EF (m:=i) rfl rfl hi hil ⟨rfl,rfl⟩) ?_);refine AA 12 (h:=?_);refine H7 13 rfl (Es rfl rfl rfl rfl rfl rfl yp (by repeat constructor) ?_);refine J1 (h:=?_);refine Rk (r:= .tup []) none (h4:=(by simp[Am,FG,FH])) (h5:=(A6 _)) (h6:=⟨rfl,rfl,rfl⟩)
 have hdn:dn=true:=kp;have ea:acc=DP n.entries name ino:=by rw[<-yl,hdn];simp[Jv]
 refine AG (BJ ([(0,DB f q d 1 cap cap1),(2,[.bs 0 0 2 f.length cap]),(3,AB a),(4,Al n)]) 14 (h:=AA 0 (h:=?_)));refine A9 1 (h:=?_);refine AA 2 (h:=?_);refine A9 3 (h:=?_);refine CE 4 rfl (fun _ hS=>EF (m:=q) rfl rfl ha hql ⟨rfl,rfl⟩) ?_;refine AA 5 (h:=?_);refine CE 6 rfl (fun _ hS=>Fa (row:=DB f q d 1 cap cap1) rfl (kb hS rfl) hD0 ⟨rfl,rfl⟩) ?_;refine A9 7 (h:=?_);refine A9 8 (h:=?_);refine CE 10 rfl (fun _ hS=>JC (y:= .sl 2 ((DP n.entries name ino).map D6) none) (JB rfl ⟨rfl,rfl⟩) (by rw[<-ea];(try simp only[List.map_append,List.map_cons,List.map_nil]);exact LeA.tok _ _ _) ⟨rfl,rfl⟩) ?_;refine c_ 9 rfl (DX 2 rfl (.cons _ _ _ _ _ rfl (LeA.of_eq (NA hq yk yz (BG _) (BG _) rfl rfl)) (.cons _ _ _ _ _ rfl (A6 _) .nil)) (N3 f a hf) ?_);rintro r rfl;refine⟨rfl,?_⟩;refine o_ (h:=CE 11 rfl (fun _ hS=>EF (m:=i) rfl rfl hi hil ⟨rfl,rfl⟩) ?_);refine AA 12 (h:=?_);refine H7 13 rfl (Es rfl rfl rfl rfl rfl rfl yp (by repeat constructor) ?_);refine J1 (h:=?_);refine Rk (r:= .tup []) none (h4:=(by simp[Am,FG,FH])) (h5:=(A6 _)) (h6:=⟨rfl,rfl,rfl⟩)
end
theorem Ma{h:AH}{sz:Nat}{r:List AV}{tok:Option Nat}:SrcA h sz (.sl sz [r] tok) 1 r:=by
 have:=SrcA.sl (h:=h) (sz:=sz) [r] tok
 simpa using this
theorem l7(n:Nod)(cap:Nat):Al n++List.replicate ((cap - 1) * 8) .any=NB [n] cap:=by
 unfold NB Cm;simp
theorem YN(acc:List Nod)(n:Nod)(cap0 cap:Nat):((NB acc cap0).drop 0).take (acc.length * 8)++Al n++List.replicate ((cap - (acc.length+1)) * 8) .any=NB (acc++[n]) cap:=by
 unfold NB;rw[Xq (N8 acc) (by simp),List.map_append];rfl
theorem YO{acc:List Nod}{n:Nod}{cap:Nat}{row:List AV}(hs:SetAt (NB acc cap) (0+acc.length * 8) (Al n) row)(hc:acc.length+1<=cap):row=NB (acc++[n]) cap:=by
 have key:=Xp (rows:=acc.map Al) (sz:=8) (cap:=cap) (r:=Al n) (row':=row) (N8 acc) rfl (by omega) (by simpa using hc) (by rw[List.length_map];exact hs);rw[key];unfold NB;rw[List.map_append];rfl
theorem Ub{is:List Nat}:∀i,i<2->(0::1::is)[i]?=some i:=by
 intro i hi
 match i,hi with
 |0,_=>rfl
 |1,_=>rfl
theorem YP{ns:List Nod}{j:Nat}{n:Nod}(h:ns[j]?=some n)(ino:Int):E8 ino (ns.take (j+1))=E8 ino (ns.take j)++(if n.ino=ino then[]else[n]):=by
 unfold E8;rw[List.take_add_one,h,List.filter_append];by_cases e:n.ino=ino<;>simp[e]
section
theorem l8(f:AR)(q:Nat)(d:Dvc)(a:A8)(cap cap1:Nat)(hf:FlsB f)(hq:f[q]?=some d)(ha:a.1=(q:Int))(yk:f.length<=cap)(yz:d.nodes.length<=cap1)(hne:0<(E8 a.2 d.nodes).length):
    ACall prog 234 [.agg [.bs 0 0 2 f.length cap], .agg (AB a)] [DB f q d 1 cap cap1,NB d.nodes cap1] (fun r b t=>t=[]/\r= .tup []/\((0<L4 f a/\b=[DB f q d 1 cap cap1,NB d.nodes cap1,[.bs 0 0 2 f.length cap],AB a])\/(L4 f a=0/\∃cap2,(E8 a.2 d.nodes).length<=cap2/\b=[DB f q {d with nodes:=E8 a.2 d.nodes} 4 cap cap2,NB d.nodes cap1,[.bs 0 0 2 f.length cap],AB a,NB (E8 a.2 d.nodes) cap2]))):=by
 have hql:=(AZ.1 hq).1;have hdn:=hf.nodes d (Aj hq);have hD0:(DB f q d 1 cap cap1)[0+q * 2+1]?=some (.bs 1 0 8 d.nodes.length cap1):=Py hql;have yp:∀(acc:List Nod) (cap2:Nat),SetAt (DB f q d 1 cap cap1) (0+q * 2+1) [.bs 4 0 8 acc.length cap2] (DB f q {d with nodes:=acc} 4 cap cap2):=fun acc cap2=>US hql (by repeat constructor) (by simp);refine enter Tryz.func234 rfl rfl rfl rfl rfl 5 rfl ?_;refine Fe (h:=e_ (q_ (C9 (h:=?_))));refine A7 (DX 2 rfl (.cons _ _ _ _ _ rfl (LeA.of_eq (NA hq yk yz (BG _) (BG _) rfl rfl)) (.cons _ _ _ _ _ rfl (A6 _) .nil)) (hC f a hf) ?_);rintro r rfl;refine⟨rfl,?_⟩;refine ET (h:=e_ (?_));refine A3 rfl (fun kd ka=>?_) (fun kd ka=>?_)
 ·have hl:0<L4 f a:=by omega
  refine BH (Bp (?_));refine AO (r:= .tup []) none (h4:=(by simp[Am,Af,Aa,FG,FH,AB])) (h5:=(A6 _)) (h6:=⟨rfl,rfl, .inl ⟨hl,rfl⟩⟩)
 have hl:L4 f a=0:=by omega
 refine AG (DZ (h:=w_ (f_ (h:=?_))));refine A7 (Fa rfl rfl rfl ?_);refine Ac (h:=?_);refine A7 (EF (m:=q) rfl rfl ha hql ?_);refine f_ (h:=?_);refine A7 (Fa rfl rfl hD0 ?_);refine Ay (h:=Cz (h:=?_));refine BL (fun m t=>∃(j:Nat) (acc:List Nod),j<=d.nodes.length/\m=d.nodes.length - j/\E8 a.2 (d.nodes.take j)=acc/\acc.length<=j/\((acc=[]/\t=⟨look [(2, .bp 2 0),(3, .bp 3 0),(4, .v (.slice none 0 0)),(5, .bs 1 0 8 d.nodes.length cap1),(6, .v (.int .i64 (j:Int)))],⟨[DB f q d 1 cap cap1,NB d.nodes cap1,[.bs 0 0 2 f.length cap],AB a],[]⟩⟩)\/(∃cap2,acc.length<=cap2/\t=⟨look [(2, .bp 2 0),(3, .bp 3 0),(4, .bs 4 0 8 acc.length cap2),(5, .bs 1 0 8 d.nodes.length cap1),(6, .v (.int .i64 (j:Int)))],⟨[DB f q d 1 cap cap1,NB d.nodes cap1,[.bs 0 0 2 f.length cap],AB a,NB acc cap2],[]⟩⟩))) (d.nodes.length) (CF 4 0 (by simp[Am,Af,Aa,FG,FH,AB,Al])) (⟨0,[],BG _,rfl,rfl,As _, .inl ⟨rfl,rfl⟩⟩) ?_;rintro m t ⟨j,acc,hj,rfl,yl,hal,⟨rfl,rfl⟩|⟨cap2,hcp,rfl⟩⟩
 ·refine EH (h:=?_);refine A7 (TX rfl ?_);refine Ff (h:=?_);refine A3 rfl (fun ke kc=>?_) (fun ke kc=>?_)
  ·have hlt:j<d.nodes.length:=by omega
   obtain⟨n,hy⟩:∃n,d.nodes[j]?=some n:=⟨_,B7 hlt⟩;have hk:=YP hy a.2;refine AG (q_ (BF (q_ (E0 8 (h:=AE 0 (h:=AE 1 (h:=?_)))))));refine Hm (i:=2) rfl (EF (m:=j) rfl rfl rfl hlt ⟨rfl,rfl⟩) ?_;refine AA 3 (h:=?_);refine Hm (i:=4) rfl (Fa rfl rfl (Y7 hy rfl) ⟨rfl,rfl⟩) ?_;refine AA 5 (h:=A9 6 (h:=Pe 7 (h:=z_ (h:=t_ (?_)))));refine A3 rfl (fun kh kf=>?_) (fun kh kf=>?_)
   ·rw[if_neg kf]at hk;refine BU (h:=Cp (h:=?_));refine A7 (EF (m:=j) rfl rfl rfl hlt ?_);refine A7 (S1 rfl rfl (by rw[Pw yz];omega) (Rz hy) ?_);refine BT (h:=?_);refine A7 (Rj rfl rfl Ma (by omega) (by omega) ?_);rintro cap2 k bx2 hcp hs;rw[show Cf (.agg (Al n))++List.replicate ((cap2 - 1) * 8) AV.any=NB [n] cap2 from l7 n cap2]at hs;obtain⟨rfl,rfl⟩:k=4/\bx2=[_,_,_,_,_]:=hs.eq;refine Ht (h:=FO (h:=?_));exact⟨d.nodes.length - (j+1),_,by omega,⟨j+1,[n],by omega,rfl,(by rw[hk,yl];rfl),by simp, .inr ⟨cap2,hcp,rfl⟩⟩,At 5 0 rfl rfl rfl (by simp[Am,Af,Aa,FG,FH,AB,Al]) ((by repeat (first|exact Sub.nil|refine Aw rfl rfl ?_|refine B3 ?_|refine B4 rfl ?_|refine B5 rfl ?_)))⟩
   rw[if_pos kf,List.append_nil]at hk;refine Dg (h:=?_);exact⟨d.nodes.length - (j+1),_,by omega,⟨j+1,[],by omega,rfl,(by rw[hk,yl]),by simp, .inl ⟨rfl,rfl⟩⟩,CF 4 0 (by simp[Am,Af,Aa,FG,FH,AB,Al])⟩
  exfalso;obtain rfl:j=d.nodes.length:=by omega
  rw[List.take_length]at yl;rw[yl]at hne;exact absurd hne (by simp)
 skip
 refine EH (h:=?_);refine A7 (TX rfl ?_);refine Ff (h:=?_);refine A3 rfl (fun kl kg=>?_) (fun kl kg=>?_)
 ·have hlt:j<d.nodes.length:=by omega
  obtain⟨n,hy⟩:∃n,d.nodes[j]?=some n:=⟨_,B7 hlt⟩;have hk:=YP hy a.2;refine AG (q_ (BF (q_ (E0 8 (h:=AE 0 (h:=AE 1 (h:=?_)))))));refine Hm (i:=2) rfl (EF (m:=j) rfl rfl rfl hlt ⟨rfl,rfl⟩) ?_;refine AA 3 (h:=?_);refine Hm (i:=4) rfl (Fa rfl rfl (Y7 hy rfl) ⟨rfl,rfl⟩) ?_;refine AA 5 (h:=A9 6 (h:=Pe 7 (h:=z_ (h:=t_ (?_)))));refine A3 rfl (fun ko kk=>?_) (fun ko kk=>?_)
  ·rw[if_neg kk]at hk;refine BU (h:=Cp (h:=?_));refine A7 (EF (m:=j) rfl rfl rfl hlt ?_);refine A7 (S1 rfl rfl (by rw[Pw yz];omega) (Rz hy) ?_);refine BT (h:=?_);refine A7 (OS rfl rfl rfl (by rw[Pw hcp];omega) Ma (by omega) (by omega) ?_ ?_)
   ·rintro hg row2 bx2 hs hb;obtain rfl:=YO hs hg;obtain rfl:bx2=[_,_,_,_,_]:=hb.one.2;refine Ht (h:=FO (h:=?_));exact⟨d.nodes.length - (j+1),_,by omega,⟨j+1,acc++[n],by omega,rfl,(by rw[hk,yl]),by simp;omega, .inr ⟨cap2,by simpa using hg,by rw[List.length_append];rfl⟩⟩,At 5 0 rfl rfl rfl (by simp[Am,Af,Aa,FG,FH,AB,Al]) ((by repeat (first|exact Sub.nil|refine Aw rfl rfl ?_|refine B3 ?_|refine B4 rfl ?_|refine B5 rfl ?_)))⟩
   rintro hg cap3 k bx2 mz hs;rw[show((NB acc cap2).drop 0).take (acc.length * 8)++Cf (.agg (Al n))++List.replicate ((cap3 - (acc.length+1)) * 8) AV.any=NB (acc++[n]) cap3 from YN acc n cap2 cap3]at hs;obtain⟨rfl,rfl⟩:k=5/\bx2=[_,_,_,_,_,_]:=hs.eq;refine Ht (h:=FO (h:=?_));exact⟨d.nodes.length - (j+1),_,by omega,⟨j+1,acc++[n],by omega,rfl,(by rw[hk,yl]),by simp;omega, .inr ⟨cap3,by simpa using mz,by rw[List.length_append];rfl⟩⟩,JZ [0,1,2,3,5] Ub (by decide) (.cons _ _ _ _ _ rfl (UN (by rfl) _ _ _ _ _) (.cons _ _ _ _ _ rfl (Ry _ _ _) (.cons _ _ _ _ _ rfl rfl (.cons _ _ _ _ _ rfl rfl (.cons _ _ _ _ _ rfl (Ry _ _ _) .nil))))) (by repeat (first|exact SubK.nil|refine SubK.cons _ _ _ _ rfl (A6 _) ?_))⟩
  rw[if_pos kk,List.append_nil]at hk;refine Dg (h:=?_);exact⟨d.nodes.length - (j+1),_,by omega,⟨j+1,acc,by omega,rfl,(by rw[hk,yl]),by omega, .inr ⟨cap2,hcp,rfl⟩⟩,At 5 0 rfl rfl rfl (by simp[Am,Af,Aa,FG,FH,AB,Al]) ((by repeat (first|exact Sub.nil|refine Aw rfl rfl ?_|refine B3 ?_|refine B4 rfl ?_|refine B5 rfl ?_)))⟩
 obtain rfl:j=d.nodes.length:=by omega
 rw[List.take_length]at yl;refine C4 (h:=Aq (f_ (h:=?_)));refine A7 (Fa rfl rfl rfl ?_);refine Eu (h:=?_);refine A7 (EF (m:=q) rfl rfl ha hql ?_);refine f_ (h:=?_);refine Mz (Es rfl rfl rfl rfl rfl rfl (yp _ _) (by repeat constructor) ?_);refine Bu (?_);refine Rk (r:= .tup []) none (h4:=(by simp[Am,Af,Aa,FG,FH,AB])) (h5:=(A6 _)) (h6:=⟨rfl,rfl, .inr ⟨hl,cap2,by rw[yl];exact hcp,by rw[yl];rfl⟩⟩)
end
end
end Go.Proofs.YtbgnigjfkbmceaaGreatDoor
namespace Go.Proofs.YtbgnigjfkbmceaaGreatDoor
theorem YQ:∀x:List UInt8,Op.bytesLess x x=false
 |[]=>rfl
 |a::x=>by simp[Op.bytesLess,YQ x]
theorem YR:∀x y z:List UInt8,Op.bytesLess x y=true->Op.bytesLess y z=true->Op.bytesLess x z=true
 |_,[],_,h,_=>by cases ‹List UInt8›<;>simp[Op.bytesLess]at h
 |_,_::_,[],_,h=>by simp[Op.bytesLess]at h
 |[],_::_,_::_,_,_=>rfl
 |a::x,b::y,c::z,h,k=>by
   simp only[Op.bytesLess,Bool.or_eq_true,Bool.and_eq_true,decide_eq_true_iff,beq_iff_eq]at h k ⊢;rcases h with h|⟨rfl,h⟩
   ·rcases k with k|⟨rfl,k⟩
    ·exact .inl (UInt8.lt_trans h k)
    exact .inl h
   rcases k with k|⟨rfl,k⟩
   ·exact .inl k
   exact .inr ⟨rfl,YR x y z h k⟩
theorem YS:∀x y:List UInt8,Op.bytesLess x y=false->x≠y->Op.bytesLess y x=true
 |[],[],_,h=>absurd rfl h
 |[],_::_,h,_=>by simp[Op.bytesLess]at h
 |_::_,[],_,_=>rfl
 |a::x,b::y,h,k=>by
   simp only[Op.bytesLess,Bool.or_eq_false_iff,decide_eq_false_iff_not,Bool.and_eq_false_iff,beq_eq_false_iff_ne]at h;simp only[Op.bytesLess,Bool.or_eq_true,Bool.and_eq_true,decide_eq_true_iff,beq_iff_eq];by_cases e:a=b
   ·subst e;right;refine⟨rfl,YS x y ?_ (fun e=>k (by rw[e]))⟩;rcases h.2 with h|h
    ·exact absurd rfl h
    exact h
   left;have h1:¬a.toNat<b.toNat:=h.1;have h2:a.toNat≠b.toNat:=fun e'=>e (UInt8.toNat_inj.1 e');show b.toNat<a.toNat;omega
theorem l9(a:AD):J5 a a=false:=YQ _
theorem lA{a b c:AD}(h:J5 a b=true)(k:J5 b c=true):J5 a c=true:=YR _ _ _ h k
theorem YT{a b:AD}(h:J5 a b=false)(k:a≠b):J5 b a=true:=by
 refine YS _ _ h fun e=>k ?_;have:=Rq a b;rw[e]at this
 simpa using this
theorem Q6{a b:AD}(h:J5 a b=true):a≠b:=by rintro rfl;rw[l9]at h;cases h
def JK(es:List BQ):Prop:=es.Pairwise fun a b=>J5 a.1 b.1=true
def Ga(name:AD)(es:List BQ):List BQ:=es.filter fun e=>decide (e.1≠name)
theorem Q7(name:AD)(ino:Int):∀es:List BQ,Jv name ino true es=Ga name es
 |[]=>rfl
 |e::r=>by
   unfold Jv;simp only[Bool.not_true,Bool.false_and,Bool.true_or];rw[Q7 name ino r];unfold Ga;rw[List.filter_cons];by_cases h:e.1=name<;>simp[h]
theorem M2(es:List BQ)(name:AD):DP es name 0=Ga name es:=Q7 name 0 es
theorem Uc(name:AD)(ino:Int):∀es:List BQ,(Jv name ino false es).Perm ((name,ino)::Ga name es)
 |[]=>by simp[Jv,Ga]
 |e::r=>by
   unfold Jv;simp only[Bool.not_false,Bool.true_and,Bool.false_or]
   cases hlt:J5 e.1 name with
   |false=>
     simp only[Bool.not_false,if_true];rw[Q7 name ino r];unfold Ga;rw[List.filter_cons];by_cases h:e.1=name<;>simp[h]
   |true=>
     have hne:=Q6 hlt;have ih:=Uc name ino r;unfold Ga at ih ⊢;rw[List.filter_cons];simp only[Bool.not_true,Bool.false_eq_true,if_false,List.nil_append,hne,ne_eq,not_false_eq_true,decide_true,if_true];exact(List.Perm.cons e ih).trans (List.Perm.swap _ _ _)
theorem Mb(es:List BQ)(name:AD){ino:Int}(h:ino≠0):(DP es name ino).Perm ((name,ino)::Ga name es):=by
 unfold DP;rw[show(ino==0)=false by simpa using h];exact Uc name ino es
theorem Ud{es:List BQ}(h:JK es)(name:AD):JK (Ga name es):=List.Pairwise.filter _ h
theorem YU(name:AD)(ino:Int):∀es:List BQ,JK es->JK (Jv name ino false es)
 |[],_=>by simp[Jv,JK]
 |e::r,h=>by
   obtain⟨h1,h2⟩:=List.pairwise_cons.1 h;unfold Jv;simp only[Bool.not_false,Bool.true_and,Bool.false_or]
   cases hlt:J5 e.1 name with
   |false=>
     simp only[Bool.not_false,if_true];rw[Q7 name ino r]
     have hr:∀x∈Ga name r,J5 name x.1=true:=fun x hx=>by
      obtain⟨hx1,_⟩:=List.mem_filter.1 hx;have h3:=h1 x hx1;by_cases he:e.1=name
      ·rw[<-he];exact h3
      exact lA (YT hlt he) h3
     by_cases he:e.1=name
     ·simp only[he,if_true,List.nil_append,List.cons_append];exact List.pairwise_cons.2 ⟨hr,Ud h2 name⟩
     simp only[he,if_false,List.cons_append,List.nil_append];refine List.pairwise_cons.2 ⟨?_,List.pairwise_cons.2 ⟨fun x hx=>h1 x (List.mem_filter.1 hx).1,Ud h2 name⟩⟩;intro x hx;rcases List.mem_cons.1 hx with rfl|hx
     ·exact YT hlt he
     exact hr x hx
   |true=>
     have hne:=Q6 hlt;simp only[Bool.not_true,Bool.false_eq_true,if_false,List.nil_append,hne,List.cons_append];refine List.pairwise_cons.2 ⟨fun x hx=>?_,YU name ino r h2⟩;have hx':=(Uc name ino r).mem_iff.1 hx;rcases List.mem_cons.1 hx' with rfl|hx'
     ·exact hlt
     exact h1 x (List.mem_filter.1 hx').1
theorem Oi{es:List BQ}(h:JK es)(name:AD)(ino:Int):JK (DP es name ino):=by
 unfold DP
 cases (ino==0)with
 |true=>rw[Q7];exact Ud h name
 |false=>exact YU name ino es h
def Ek(es:List BQ)(name:AD):Option BQ:=es.find? fun e:BQ=>decide (e.1=name)
theorem LX{es:List BQ}{name:AD}{e:BQ}(h:Ek es name=some e):e∈es/\e.1=name:=by
 have h1:=List.find?_some h;exact⟨List.mem_of_find?_eq_some h,by simpa using h1⟩
theorem S8{es:List BQ}{name:AD}(h:Ek es name=none):∀e∈es,e.1≠name:=fun e he=>by
 have:=List.find?_eq_none.1 h e he
 simpa using this
theorem S9{es:List BQ}{name:AD}(h:Ek es name=none):Ga name es=es:=by
 unfold Ga;rw[List.filter_eq_self];intro e he
 simpa using S8 h e he
theorem SA{es:List BQ}(hs:JK es){name:AD}{e:BQ}(h:Ek es name=some e):es.Perm (e::Ga name es):=by
 induction es with
 |nil=>simp[Ek]at h
 |cons x r ih=>
   obtain⟨h1,h2⟩:=List.pairwise_cons.1 hs;unfold Ek at h;rw[List.find?_cons]at h;unfold Ga;rw[List.filter_cons];by_cases hx:x.1=name
   ·simp only[hx,decide_true,Option.some.injEq]at h;subst h
    have:r.filter (fun e=>decide (e.1≠name))=r:=by
     rw[List.filter_eq_self];intro y hy;have:=Q6 (h1 y hy);simp only[ne_eq,decide_not,Bool.not_eq_true',decide_eq_false_iff_not];rw[<-hx];exact fun e=>this e.symm
    rw[this];simp[hx]
   simp only[hx,decide_false]at h;have:=ih h2 h;simp only[ne_eq,hx,not_false_eq_true,decide_true,if_true];exact(List.Perm.cons x this).trans (List.Perm.swap _ _ _)
theorem SB{i:Int}{a b:List BQ}(h:a.Perm b):Da i a=Da i b:=h.countP_eq _
theorem SC(i:Int)(e:BQ)(es:List BQ):Da i (e::es)=Da i es+(if e.2=i then 1 else 0):=by
 unfold Da;rw[List.countP_cons];by_cases h:e.2=i<;>simp[h]
theorem YV{i:Int}{es:List BQ}:0<Da i es↔∃e∈es,e.2=i:=by
 unfold Da;rw[List.countP_pos_iff];simp
theorem Q8{i:Int}{ns:List Nod}:0<Br i ns↔∃n∈ns,∃e∈n.entries,e.2=i:=by
 unfold Br;rw[YV];constructor
 ·rintro⟨e,he,h⟩;obtain⟨n,hn,he⟩:=List.mem_flatMap.1 he;exact⟨n,hn,e,he,h⟩
 rintro⟨n,hn,e,he,h⟩;exact⟨e,List.mem_flatMap.2 ⟨n,hn,he⟩,h⟩
theorem Ue(i:Int)(a b:List Nod):Br i (a++b)=Br i a+Br i b:=by
 unfold Br Da;rw[List.flatMap_append,List.countP_append]
theorem Oj(i:Int)(n:Nod)(b:List Nod):Br i (n::b)=Da i n.entries+Br i b:=by
 unfold Br Da;rw[List.flatMap_cons,List.countP_append]
def DJ(ns:List Nod)(ino:Int)(g:Nod->Nod):List Nod:=ns.map fun n=>if n.ino=ino then g n else n
def Fk(ns:List Nod):Prop:=ns.Pairwise fun a b=>a.ino<b.ino
theorem El{ns:List Nod}(h:Fk ns){a b:Nod}(ha:a∈ns)(hb:b∈ns)(e:a.ino=b.ino):a=b:=by
 induction ns with
 |nil=>cases ha
 |cons x r ih=>
   obtain⟨h1,h2⟩:=List.pairwise_cons.1 h;rcases List.mem_cons.1 ha with rfl|ha
   ·rcases List.mem_cons.1 hb with rfl|hb
    ·rfl
    have:=h1 b hb;omega
   rcases List.mem_cons.1 hb with hb|hb
   ·subst hb;have:=h1 a (by assumption);omega
   exact ih h2 (by assumption) hb
theorem YW{ns:List Nod}(h:Fk ns){n:Nod}(hn:n∈ns):∃A B,ns=A++n::B/\(∀m∈A,m.ino≠n.ino)/\∀m∈B,m.ino≠n.ino:=by
 obtain⟨A,B,rfl⟩:=List.append_of_mem hn;obtain⟨h1,h2,h3⟩:=List.pairwise_append.1 h;obtain⟨h4,_⟩:=List.pairwise_cons.1 h2;exact⟨A,B,rfl,fun m hm=>by have:=h3 m hm n (by simp);omega,fun m hm=>by have:=h4 m hm;omega⟩
theorem lB{A B:List Nod}{n:Nod}(hA:∀m∈A,m.ino≠n.ino)(hB:∀m∈B,m.ino≠n.ino)(g:Nod->Nod):DJ (A++n::B) n.ino g=A++g n::B:=by
 unfold DJ;rw[List.map_append,List.map_cons,if_pos rfl]
 congr 1
 ·rw[List.map_congr_left (g:=id) fun m hm=>by simp[hA m hm]];simp
 congr 1
 rw[List.map_congr_left (g:=id) fun m hm=>by simp[hB m hm]];simp
theorem KW{ns:List Nod}{ino:Int}{g:Nod->Nod}{m:Nod}:m∈DJ ns ino g↔∃n∈ns,m=if n.ino=ino then g n else n:=by
 unfold DJ;rw[List.mem_map];constructor
 ·rintro⟨n,hn,rfl⟩;exact⟨n,hn,rfl⟩
 rintro⟨n,hn,rfl⟩;exact⟨n,hn,rfl⟩
theorem lC{ns:List Nod}{ino:Int}{g:Nod->Nod}(hg:∀n,(g n).ino=n.ino):(DJ ns ino g).map (·.ino)=ns.map (·.ino):=by
 unfold DJ;rw[List.map_map];apply List.map_congr_left;intro n _;simp only[Function.comp];split
 ·exact hg n
 rfl
theorem Uf{ns:List Nod}:Fk ns↔(ns.map (·.ino)).Pairwise (· < ·):=by
 unfold Fk;rw[List.pairwise_map]
theorem YX{ns:List Nod}(h:Fk ns)(ino:Int){g:Nod->Nod}(hg:∀n,(g n).ino=n.ino):Fk (DJ ns ino g):=by
 rw[Uf]at h ⊢;rw[lC hg];exact h
theorem Ug{ns:List Nod}(h:Fk ns){n:Nod}(hn:n∈ns)(g:Nod->Nod)(i:Int):Br i (DJ ns n.ino g)+Da i n.entries=Br i ns+Da i (g n).entries:=by
 obtain⟨A,B,rfl,hA,hB⟩:=YW h hn;rw[lB hA hB];simp only[Ue,Oj];omega
end Go.Proofs.YtbgnigjfkbmceaaGreatDoor
namespace Go.Proofs.YtbgnigjfkbmceaaGreatDoor
structure VD(d:Dvc):Prop where
 len:d.nodes.length<=16
 next2:2<=d.next
 nextM:d.next<=1073741824
 root:∃r rest,d.nodes=r::rest/\r.ino=1/\r.kind=2/\r.parent=1
 asc:Fk d.nodes
 lt:∀n∈d.nodes,n.ino<d.next
 plain:∀n∈d.nodes,J4 n=true
 leaf:∀n∈d.nodes,n.kind≠2->n.parent=0/\n.entries=[]
 many:∀n∈d.nodes,n.entries.length<=12
 sorted:∀n∈d.nodes,JK n.entries
 ent:∀n∈d.nodes,∀e∈n.entries,FC e.1=true/\e.2≠1/\∃m∈d.nodes,m.ino=e.2
 link:∀n∈d.nodes,n.ino≠1->0<Br n.ino d.nodes
 one:∀n∈d.nodes,n.ino≠1->n.kind=2->Br n.ino d.nodes=1
 par:∀n∈d.nodes,n.ino≠1->n.kind=2->∃p∈d.nodes,p.ino=n.parent/\∃e∈p.entries,e.2=n.ino
 rank:∃rk:Int->Nat,∀n∈d.nodes,n.ino≠1->n.kind=2->rk n.parent<rk n.ino
theorem VD.pos{d:Dvc}(h:VD d){n:Nod}(hn:n∈d.nodes):1<=n.ino:=by
 obtain⟨r,rest,hr,h1,_⟩:=h.root;have ha:=h.asc;rw[hr]at hn ha;rcases List.mem_cons.1 hn with rfl|hn
 ·omega
 have:=(List.pairwise_cons.1 ha).1 n hn;omega
theorem VD.rootMem{d:Dvc}(h:VD d):∃r∈d.nodes,r.ino=1/\r.kind=2/\r.parent=1:=by
 obtain⟨r,rest,hr,h1,h2,h3⟩:=h.root;exact⟨r,by rw[hr];simp,h1,h2,h3⟩
theorem VD.isRoot{d:Dvc}(h:VD d){n:Nod}(hn:n∈d.nodes)(h1:n.ino=1):n.kind=2/\n.parent=1:=by
 obtain⟨r,hr,h2,h3,h4⟩:=h.rootMem;obtain rfl:=El h.asc hn hr (by omega);exact⟨h3,h4⟩
theorem VD.dirOf{d:Dvc}(h:VD d){n:Nod}(hn:n∈d.nodes){e:BQ}(he:e∈n.entries):n.kind=2:=by
 apply Classical.byContradiction;intro hk;rw[(h.leaf n hn hk).2]at he;cases he
def Ok(name:AD)(ino:Int)(n:Nod):Nod:={n with entries:=DP n.entries name ino}
def Bk(ns:List Nod)(p:Int)(name:AD)(ino:Int):List Nod:=DJ ns p (Ok name ino)
structure AsWas(p:Int)(name:AD)(to_:Int)(n m:Nod):Prop where
 ino:m.ino=n.ino
 kind:m.kind=n.kind
 parent:m.parent=n.parent
 plain:J4 m=J4 n
 ents:m.entries=if n.ino=p then DP n.entries name to_ else n.entries
theorem Uh(p:Int)(name:AD)(ino:Int)(n:Nod):AsWas p name ino n (if n.ino=p then Ok name ino n else n):=by
 by_cases h:n.ino=p
 ·simp only[h,if_true];exact⟨h ▸ rfl,rfl,rfl,rfl,by simp[h,Ok]⟩
 simp only[h,if_false];exact⟨rfl,rfl,rfl,rfl,by simp[h]⟩
theorem Hb{ns:List Nod}{p:Int}{name:AD}{ino:Int}{m:Nod}(h:m∈Bk ns p name ino):∃n∈ns,AsWas p name ino n m:=by
 obtain⟨n,hn,rfl⟩:=KW.1 h;exact⟨n,hn,Uh p name ino n⟩
theorem ND{ns:List Nod}(p:Int)(name:AD)(ino:Int){n:Nod}(h:n∈ns):∃m∈Bk ns p name ino,AsWas p name ino n m:=⟨_,KW.2 ⟨n,h,rfl⟩,Uh p name ino n⟩
theorem Ol{ns:List Nod}(h:Fk ns)(p:Int)(name:AD)(ino:Int):Fk (Bk ns p name ino):=YX h p fun _=>rfl
theorem Ui(ns:List Nod)(p:Int)(name:AD)(ino:Int):(Bk ns p name ino).length=ns.length:=by simp[Bk,DJ]
theorem Q9{ns:List Nod}(h:Fk ns){n0:Nod}(hn:n0∈ns)(name:AD)(ino i:Int):Br i (Bk ns n0.ino name ino)+Da i n0.entries=Br i ns+Da i (DP n0.entries name ino):=Ug h hn (Ok name ino) i
theorem Uj{ns:List Nod}(p:Int)(name:AD)(ino:Int)(h:∃r rest,ns=r::rest/\r.ino=1/\r.kind=2/\r.parent=1):∃r rest,Bk ns p name ino=r::rest/\r.ino=1/\r.kind=2/\r.parent=1:=by
 obtain⟨r,rest,rfl,h1,h2,h3⟩:=h;have:=Uh p name ino r;exact⟨_,_,rfl,this.ino.trans h1,this.kind.trans h2,this.parent.trans h3⟩
def b1(p:Prop)[Decidable p]:Nat:=if p then 1 else 0
theorem YY{es:List BQ}(hs:JK es){name:AD}{e:BQ}(h:Ek es name=some e)(i:Int):Da i (DP es name 0)+b1 (e.2=i)=Da i es:=by
 rw[M2,SB (SA hs h),SC];rfl
theorem Uk{es:List BQ}{name:AD}(h:Ek es name=none){ino:Int}(h0:ino≠0)(i:Int):Da i (DP es name ino)=Da i es+b1 (ino=i):=by
 rw[SB (Mb es name h0),SC,S9 h];rfl
theorem lD{es:List BQ}(hs:JK es){name:AD}{e:BQ}(h:Ek es name=some e){ino:Int}(h0:ino≠0)(i:Int):Da i (DP es name ino)+b1 (e.2=i)=Da i es+b1 (ino=i):=by
 rw[SB (Mb es name h0),SB (SA hs h),SC,SC];show Da i _+b1 (ino=i)+b1 (e.2=i)=Da i _+b1 (e.2=i)+b1 (ino=i);omega
theorem QA{es:List BQ}{name:AD}{ino:Int}{e:BQ}(h:e∈DP es name ino):e∈es\/(e=(name,ino)/\ino≠0):=by
 by_cases h0:ino=0
 ·subst h0;rw[M2]at h;exact .inl (List.mem_filter.1 h).1
 rcases List.mem_cons.1 ((Mb es name h0).mem_iff.1 h)with h|h
 ·exact .inr ⟨h,h0⟩
 exact .inl (List.mem_filter.1 h).1
theorem QB{es:List BQ}{name:AD}{ino:Int}{e:BQ}(h:e∈es)(hn:e.1≠name):e∈DP es name ino:=by
 have hw:e∈Ga name es:=List.mem_filter.2 ⟨h,by simpa using hn⟩;by_cases h0:ino=0
 ·subst h0;rw[M2];exact hw
 exact(Mb es name h0).mem_iff.2 (List.mem_cons_of_mem _ hw)
theorem YZ{es:List BQ}{name:AD}{ino:Int}(h0:ino≠0):(name,ino)∈DP es name ino:=(Mb es name h0).mem_iff.2 (by simp)
theorem QC{p:Prop}[Decidable p](h:p):b1 p=1:=if_pos h
theorem O2{p:Prop}[Decidable p](h:¬p):b1 p=0:=if_neg h
theorem VD.cnt_next{d:Dvc}(h:VD d){i:Int}(hi:d.next<=i):Br i d.nodes=0:=by
 apply Classical.byContradiction;intro hc;obtain⟨n,hn,e,he,rfl⟩:=Q8.1 (Nat.pos_of_ne_zero hc);obtain⟨m,hm,e2⟩:=(h.ent n hn e he).2.2;have:=h.lt m hm;omega
theorem VD.make{d:Dvc}(h:VD d){n0:Nod}(hn0:n0∈d.nodes)(hk:n0.kind=2){name:AD}(hname:FC name=true)(hnew:Ek n0.entries name=none){n:Nod}(hp:J4 n=true)(hlen:d.nodes.length<16)(hnx:d.next<1073741824)(hfull:n0.entries.length<12):
    VD ⟨d.next+1,Bk d.nodes n0.ino name d.next++[Gv n d.next n0.ino]⟩:=by
 have hnext0:d.next≠0:=by have:=h.next2;omega
 have hcnt:∀i,Br i (Bk d.nodes n0.ino name d.next++[Gv n d.next n0.ino])=Br i d.nodes+b1 (d.next=i):=by
  intro i;have h1:=Q9 h.asc hn0 name d.next i;rw[Uk hnew hnext0]at h1;rw[Ue,Oj];have h2:Da i (Gv n d.next n0.ino).entries=0:=rfl;have h3:Br i []=0:=rfl;omega
 have hmem:∀m,m∈Bk d.nodes n0.ino name d.next++[Gv n d.next n0.ino]->(∃n'∈d.nodes,AsWas n0.ino name d.next n' m)\/m=Gv n d.next n0.ino:=by
  intro m hm;rcases List.mem_append.1 hm with hm|hm
  ·exact .inl (Hb hm)
  exact .inr (by simpa using hm)
 have hto:∀n'∈d.nodes,∃m∈Bk d.nodes n0.ino name d.next++[Gv n d.next n0.ino],AsWas n0.ino name d.next n' m:=fun n' hn'=>by
  obtain⟨m,hm,hw⟩:=ND n0.ino name d.next hn';exact⟨m,List.mem_append_left _ hm,hw⟩
 have hold:∀{n' m:Nod} {e:BQ},AsWas n0.ino name d.next n' m->n'∈d.nodes->e∈n'.entries->e∈m.entries:=by
  intro n' m e hw hn' he;rw[hw.ents];split
  ·rename_i heq;obtain rfl:=El h.asc hn' hn0 heq;exact QB he (S8 hnew e he)
  exact he
 refine⟨?_,?_,?_,?_,?_,?_,?_,?_,?_,?_,?_,?_,?_,?_,?_⟩
 ·show(Bk d.nodes n0.ino name d.next++[Gv n d.next n0.ino]).length<=16;rw[List.length_append,Ui];simp;omega
 ·show 2<=d.next+1;have:=h.next2;omega
 ·show d.next+1<=1073741824;omega
 ·obtain⟨r,rest,hr,h1⟩:=Uj n0.ino name d.next h.root;exact⟨r,rest++[Gv n d.next n0.ino],by show _++_=_;rw[hr];rfl,h1⟩
 ·refine List.pairwise_append.2 ⟨Ol h.asc _ _ _,by simp,fun a ha b hb=>?_⟩;obtain⟨n',hn',hw⟩:=Hb ha;simp at hb;subst hb;have:=h.lt n' hn';rw[hw.ino];exact this
 ·intro m hm;show m.ino<d.next+1;rcases hmem m hm with⟨n',hn',hw⟩|rfl
  ·have:=h.lt n' hn';rw[hw.ino];omega
  show d.next<d.next+1;omega
 ·intro m hm;rcases hmem m hm with⟨n',hn',hw⟩|rfl
  ·rw[hw.plain];exact h.plain n' hn'
  exact hp
 ·intro m hm hk';rcases hmem m hm with⟨n',hn',hw⟩|rfl
  ·rw[hw.kind]at hk';obtain⟨h1,h2⟩:=h.leaf n' hn' hk';refine⟨hw.parent.trans h1,?_⟩;rw[hw.ents,if_neg,h2];intro e;obtain rfl:=El h.asc hn' hn0 e;exact hk' hk
  exact⟨if_neg hk',rfl⟩
 ·intro m hm;rcases hmem m hm with⟨n',hn',hw⟩|rfl
  ·rw[hw.ents];split
   ·rename_i heq;obtain rfl:=El h.asc hn' hn0 heq;rw[(Mb _ name hnext0).length_eq,List.length_cons,S9 hnew];omega
   exact h.many n' hn'
  exact BG _
 ·intro m hm;rcases hmem m hm with⟨n',hn',hw⟩|rfl
  ·rw[hw.ents];split
   ·exact Oi (h.sorted n' hn') _ _
   exact h.sorted n' hn'
  exact List.Pairwise.nil
 ·intro m hm e he;rcases hmem m hm with⟨n',hn',hw⟩|rfl
  ·have key:(e∈n'.entries)\/e=(name,d.next):=by
      rw[hw.ents]at he;split at he
      ·rcases QA he with h1|h1
       ·exact .inl h1
       exact .inr h1.1
      exact .inl he
   rcases key with h1|rfl
   ·obtain⟨k1,k2,q,hq,k3⟩:=h.ent n' hn' e h1;obtain⟨m',hm',hw'⟩:=hto q hq;exact⟨k1,k2,m',hm',hw'.ino.trans k3⟩
   exact⟨hname,by show d.next≠1;have:=h.next2;omega,Gv n d.next n0.ino,by simp,rfl⟩
  cases he
 ·intro m hm h1;rw[hcnt];rcases hmem m hm with⟨n',hn',hw⟩|rfl
  ·have:=h.link n' hn' (by rw[<-hw.ino];exact h1);rw[hw.ino];omega
  have:b1 (d.next=(Gv n d.next n0.ino).ino)=1:=QC rfl;omega
 ·intro m hm h1 h2;rw[hcnt];rcases hmem m hm with⟨n',hn',hw⟩|rfl
  ·have:=h.one n' hn' (by rw[<-hw.ino];exact h1) (by rw[<-hw.kind];exact h2);rw[hw.ino,this,O2 (by have:=h.lt n' hn';omega)]
  have e1:b1 (d.next=(Gv n d.next n0.ino).ino)=1:=QC rfl;have e2:Br (Gv n d.next n0.ino).ino d.nodes=0:=h.cnt_next (Int.le_refl _);omega
 ·intro m hm h1 h2;rcases hmem m hm with⟨n',hn',hw⟩|rfl
  ·obtain⟨p,hp',k1,e,he,k2⟩:=h.par n' hn' (by rw[<-hw.ino];exact h1) (by rw[<-hw.kind];exact h2);obtain⟨q,hq,hwq⟩:=hto p hp';exact⟨q,hq,by rw[hwq.ino,hw.parent];exact k1,e,hold hwq hp' he,by rw[hw.ino];exact k2⟩
  obtain⟨q,hq,hwq⟩:=hto n0 hn0;refine⟨q,hq,?_,(name,d.next),?_,rfl⟩
  ·rw[hwq.ino];exact(if_pos h2).symm
  rw[hwq.ents,if_pos rfl];exact YZ hnext0
 obtain⟨rk,hrk⟩:=h.rank;refine⟨fun i=>if i=d.next then rk n0.ino+1 else rk i,?_⟩;intro m hm h1 h2;rcases hmem m hm with⟨n',hn',hw⟩|rfl
 ·have hlt:=h.lt n' hn';have h1':n'.ino≠1:=by rw[<-hw.ino];exact h1
  have h2':n'.kind=2:=by rw[<-hw.kind];exact h2
  obtain⟨p,hp',k1,_⟩:=h.par n' hn' h1' h2';have hlp:=h.lt p hp';simp only;rw[hw.ino,hw.parent,if_neg (by omega),if_neg (by omega)];exact hrk n' hn' h1' h2'
 have e1:(Gv n d.next n0.ino).parent=n0.ino:=if_pos h2;have e2:(Gv n d.next n0.ino).ino=d.next:=rfl;have hl:=h.lt n0 hn0;simp only;rw[e1,e2,if_pos rfl,if_neg (by omega)];omega
theorem VD.linked{d:Dvc}(h:VD d){n0 a:Nod}(hn0:n0∈d.nodes)(hk:n0.kind=2)(ha:a∈d.nodes)(hka:a.kind≠2){name:AD}(hname:FC name=true)(hnew:Ek n0.entries name=none)(hfull:n0.entries.length<12):
    VD ⟨d.next,Bk d.nodes n0.ino name a.ino⟩:=by
 have ha0:a.ino≠0:=by have:=h.pos ha;omega
 have ha1:a.ino≠1:=fun e=>hka (h.isRoot ha e).1
 have hcnt:∀i,Br i (Bk d.nodes n0.ino name a.ino)=Br i d.nodes+b1 (a.ino=i):=by
  intro i;have h1:=Q9 h.asc hn0 name a.ino i;rw[Uk hnew ha0]at h1;omega
 have hto:=fun n' (hn':n'∈d.nodes)=>ND n0.ino name a.ino hn'
 have hold:∀{n' m:Nod} {e:BQ},AsWas n0.ino name a.ino n' m->n'∈d.nodes->e∈n'.entries->e∈m.entries:=by
  intro n' m e hw hn' he;rw[hw.ents];split
  ·rename_i heq;obtain rfl:=El h.asc hn' hn0 heq;exact QB he (S8 hnew e he)
  exact he
 refine⟨by rw[Ui];exact h.len,h.next2,h.nextM,Uj _ _ _ h.root,Ol h.asc _ _ _,?_,?_,?_,?_,?_,?_,?_,?_,?_,?_⟩
 ·intro m hm;obtain⟨n',hn',hw⟩:=Hb hm;rw[hw.ino];exact h.lt n' hn'
 ·intro m hm;obtain⟨n',hn',hw⟩:=Hb hm;rw[hw.plain];exact h.plain n' hn'
 ·intro m hm hk';obtain⟨n',hn',hw⟩:=Hb hm;rw[hw.kind]at hk';obtain⟨h1,h2⟩:=h.leaf n' hn' hk';refine⟨hw.parent.trans h1,?_⟩;rw[hw.ents,if_neg,h2];intro e;obtain rfl:=El h.asc hn' hn0 e;exact hk' hk
 ·intro m hm;obtain⟨n',hn',hw⟩:=Hb hm;rw[hw.ents];split
  ·rename_i heq;obtain rfl:=El h.asc hn' hn0 heq;rw[(Mb _ name ha0).length_eq,List.length_cons,S9 hnew];omega
  exact h.many n' hn'
 ·intro m hm;obtain⟨n',hn',hw⟩:=Hb hm;rw[hw.ents];split
  ·exact Oi (h.sorted n' hn') _ _
  exact h.sorted n' hn'
 ·intro m hm e he;obtain⟨n',hn',hw⟩:=Hb hm
  have key:(e∈n'.entries)\/e=(name,a.ino):=by
   rw[hw.ents]at he;split at he
   ·rcases QA he with h1|h1
    ·exact .inl h1
    exact .inr h1.1
   exact .inl he
  rcases key with h1|rfl
  ·obtain⟨k1,k2,q,hq,k3⟩:=h.ent n' hn' e h1;obtain⟨m',hm',hw'⟩:=hto q hq;exact⟨k1,k2,m',hm',hw'.ino.trans k3⟩
  obtain⟨m',hm',hw'⟩:=hto a ha;exact⟨hname,ha1,m',hm',hw'.ino⟩
 ·intro m hm h1;obtain⟨n',hn',hw⟩:=Hb hm;rw[hcnt,hw.ino];have:=h.link n' hn' (by rw[<-hw.ino];exact h1);omega
 ·intro m hm h1 h2;obtain⟨n',hn',hw⟩:=Hb hm;rw[hcnt,hw.ino,h.one n' hn' (by rw[<-hw.ino];exact h1) (by rw[<-hw.kind];exact h2),O2];intro e;obtain rfl:=El h.asc hn' ha e.symm;exact hka (by rw[<-hw.kind];exact h2)
 ·intro m hm h1 h2;obtain⟨n',hn',hw⟩:=Hb hm;obtain⟨p,hp',k1,e,he,k2⟩:=h.par n' hn' (by rw[<-hw.ino];exact h1) (by rw[<-hw.kind];exact h2);obtain⟨q,hq,hwq⟩:=hto p hp';exact⟨q,hq,by rw[hwq.ino,hw.parent];exact k1,e,hold hwq hp' he,by rw[hw.ino];exact k2⟩
 obtain⟨rk,hrk⟩:=h.rank;refine⟨rk,fun m hm h1 h2=>?_⟩;obtain⟨n',hn',hw⟩:=Hb hm;rw[hw.ino,hw.parent];exact hrk n' hn' (by rw[<-hw.ino];exact h1) (by rw[<-hw.kind];exact h2)
def Gw(mode uid gid:Int)(n:Nod):Nod:={n with mode:=mode,uid:=uid,gid:=gid}
theorem VD.attrs{d:Dvc}(h:VD d){n0:Nod}(hn0:n0∈d.nodes)(mode uid gid:Int)(hp:J4 (Gw mode uid gid n0)=true):VD ⟨d.next,DJ d.nodes n0.ino (Gw mode uid gid)⟩:=by
 have hsame:∀n:Nod,(if n.ino=n0.ino then Gw mode uid gid n else n).ino=n.ino/\(if n.ino=n0.ino then Gw mode uid gid n else n).kind=n.kind/\(if n.ino=n0.ino then Gw mode uid gid n else n).parent=n.parent/\(if n.ino=n0.ino then Gw mode uid gid n else n).entries=n.entries:=by
  intro n;split<;>exact⟨rfl,rfl,rfl,rfl⟩
 have hcnt:∀i,Br i (DJ d.nodes n0.ino (Gw mode uid gid))=Br i d.nodes:=by
  intro i;have h1:Br i (DJ d.nodes n0.ino (Gw mode uid gid))+Da i n0.entries=Br i d.nodes+Da i n0.entries:=Ug h.asc hn0 (Gw mode uid gid) i;omega
 have hto:∀n∈d.nodes,∃m∈DJ d.nodes n0.ino (Gw mode uid gid),m.ino=n.ino/\m.kind=n.kind/\m.parent=n.parent/\m.entries=n.entries:=fun n hn=>⟨_,KW.2 ⟨n,hn,rfl⟩,hsame n⟩;refine⟨by simpa[DJ]using h.len,h.next2,h.nextM,?_,YX h.asc _ (fun _=>rfl),?_,?_,?_,?_,?_,?_,?_,?_,?_,?_⟩
 ·obtain⟨r,rest,hr,h1,h2,h3⟩:=h.root;obtain⟨s1,s2,s3,_⟩:=hsame r;refine⟨_,_,by show DJ d.nodes _ _=_;rw[hr];rfl,s1.trans h1,s2.trans h2,s3.trans h3⟩
 ·intro m hm;obtain⟨n,hn,rfl⟩:=KW.1 hm;rw[(hsame n).1];exact h.lt n hn
 ·intro m hm;obtain⟨n,hn,rfl⟩:=KW.1 hm;split
  ·rename_i e;obtain rfl:=El h.asc hn hn0 e;exact hp
  exact h.plain n hn
 ·intro m hm hk;obtain⟨n,hn,rfl⟩:=KW.1 hm;obtain⟨s1,s2,s3,s4⟩:=hsame n;rw[s2]at hk;rw[s3,s4];exact h.leaf n hn hk
 ·intro m hm;obtain⟨n,hn,rfl⟩:=KW.1 hm;rw[(hsame n).2.2.2];exact h.many n hn
 ·intro m hm;obtain⟨n,hn,rfl⟩:=KW.1 hm;rw[(hsame n).2.2.2];exact h.sorted n hn
 ·intro m hm e he;obtain⟨n,hn,rfl⟩:=KW.1 hm;rw[(hsame n).2.2.2]at he;obtain⟨k1,k2,q,hq,k3⟩:=h.ent n hn e he;obtain⟨m',hm',s1,_⟩:=hto q hq;exact⟨k1,k2,m',hm',s1.trans k3⟩
 ·intro m hm h1;obtain⟨n,hn,rfl⟩:=KW.1 hm;rw[(hsame n).1]at h1 ⊢;rw[hcnt];exact h.link n hn h1
 ·intro m hm h1 h2;obtain⟨n,hn,rfl⟩:=KW.1 hm;rw[(hsame n).1]at h1 ⊢;rw[(hsame n).2.1]at h2;rw[hcnt];exact h.one n hn h1 h2
 ·intro m hm h1 h2;obtain⟨n,hn,rfl⟩:=KW.1 hm;obtain⟨s1,s2,s3,s4⟩:=hsame n;rw[s1]at h1 ⊢;rw[s2]at h2;rw[s3];obtain⟨p,hp',k1,e,he,k2⟩:=h.par n hn h1 h2;obtain⟨q,hq,t1,_,_,t4⟩:=hto p hp';exact⟨q,hq,t1.trans k1,e,by rw[t4];exact he,k2⟩
 obtain⟨rk,hrk⟩:=h.rank;refine⟨rk,fun m hm h1 h2=>?_⟩;obtain⟨n,hn,rfl⟩:=KW.1 hm;obtain⟨s1,s2,s3,s4⟩:=hsame n;rw[s1]at h1 ⊢;rw[s2]at h2;rw[s3];exact hrk n hn h1 h2
end Go.Proofs.YtbgnigjfkbmceaaGreatDoor
namespace Go.Proofs.YtbgnigjfkbmceaaGreatDoor
def CK(ns:List Nod)(i:Int):List Nod:=ns.filter fun m=>decide (m.ino≠i\/0<Br i ns)
theorem QD{ns:List Nod}{i:Int}{m:Nod}:m∈CK ns i↔m∈ns/\(m.ino≠i\/0<Br i ns):=by
 unfold CK;rw[List.mem_filter,decide_eq_true_iff]
theorem Ya{ns:List Nod}{p:Nod->Bool}(h:∀m∈ns,p m=false->m.entries=[])(i:Int):Br i (ns.filter p)=Br i ns:=by
 induction ns with
 |nil=>rfl
 |cons x r ih=>
   rw[List.filter_cons];have ih':=ih fun m hm=>h m (by simp[hm])
   cases hp:p x with
   |true=>simp only[if_true];rw[Oj,Oj,ih']
   |false=>
     simp only[Bool.false_eq_true,if_false];rw[Oj,h x (by simp) hp,ih'];simp[Da]
theorem Ul{es:List BQ}(hs:JK es){a b:BQ}(ha:a∈es)(hb:b∈es)(e:a.1=b.1):a=b:=by
 induction es with
 |nil=>cases ha
 |cons x r ih=>
   obtain⟨h1,h2⟩:=List.pairwise_cons.1 hs;rcases List.mem_cons.1 ha with rfl|ha
   ·rcases List.mem_cons.1 hb with rfl|hb
    ·rfl
    exact absurd e (Q6 (h1 b hb))
   rcases List.mem_cons.1 hb with hb|hb
   ·subst hb;exact absurd e.symm (Q6 (h1 a (by assumption)))
   exact ih h2 (by assumption) hb
theorem VD.removed{d:Dvc}(h:VD d){n0 a:Nod}(hn0:n0∈d.nodes)(ha:a∈d.nodes)(hae:a.entries=[]){name:AD}{e0:BQ}(he0:Ek n0.entries name=some e0)(hea:e0.2=a.ino):
    VD ⟨d.next,CK (Bk d.nodes n0.ino name 0) a.ino⟩:=by
 obtain⟨hem,hen⟩:=LX he0;have ha1:a.ino≠1:=by rw[<-hea];exact(h.ent n0 hn0 e0 hem).2.1
 have hk:n0.kind=2:=h.dirOf hn0 hem
 have hna:n0.ino≠a.ino:=fun e=>by
  obtain rfl:=El h.asc hn0 ha e;rw[hae]at hem;cases hem
 have hcnt1:∀i,Br i (Bk d.nodes n0.ino name 0)+b1 (a.ino=i)=Br i d.nodes:=by
  intro i;have h1:=Q9 h.asc hn0 name 0 i;have h2:=YY (h.sorted n0 hn0) he0 i;rw[hea]at h2;omega
 have hcnt:∀i,Br i (CK (Bk d.nodes n0.ino name 0) a.ino)=Br i (Bk d.nodes n0.ino name 0):=by
  refine fun i=>Ya (fun m hm hp=>?_) i;have hp':=of_decide_eq_false hp;obtain⟨n',hn',hw⟩:=Hb hm;have hmi:m.ino=a.ino:=Classical.byContradiction fun h=>hp' (.inl h);obtain rfl:=El h.asc hn' ha (hw.ino.symm.trans hmi);rw[hw.ents,if_neg (fun e=>hna e.symm),hae]
 have hkeep:∀{m:Nod},m∈Bk d.nodes n0.ino name 0->(m.ino=a.ino->0<Br a.ino (Bk d.nodes n0.ino name 0))->m∈CK (Bk d.nodes n0.ino name 0) a.ino:=by
  intro m hm hc;refine QD.2 ⟨hm,?_⟩;by_cases e:m.ino=a.ino
  ·exact .inr (hc e)
  exact .inl e
 have hfrom:∀{m:Nod},m∈CK (Bk d.nodes n0.ino name 0) a.ino->(∃n'∈d.nodes,AsWas n0.ino name 0 n' m)/\m∈Bk d.nodes n0.ino name 0/\(m.ino≠a.ino\/0<Br a.ino (Bk d.nodes n0.ino name 0)):=by
  intro m hm;obtain⟨h1,h2⟩:=QD.1 hm;exact⟨Hb h1,h1,h2⟩
 have hsub:∀{n' m:Nod} {e:BQ},AsWas n0.ino name 0 n' m->e∈m.entries->e∈n'.entries:=by
  intro n' m e hw he;rw[hw.ents]at he;split at he
  ·rcases QA he with h1|h1
   ·exact h1
   exact absurd rfl h1.2
  exact he
 refine⟨?_,h.next2,h.nextM,?_,?_,?_,?_,?_,?_,?_,?_,?_,?_,?_,?_⟩
 ·have h1:(CK (Bk d.nodes n0.ino name 0) a.ino).length<=(Bk d.nodes n0.ino name 0).length:=List.length_filter_le _ _;rw[Ui]at h1;exact Nat.le_trans h1 h.len
 ·obtain⟨r,rest,hr,h1,h2,h3⟩:=Uj n0.ino name 0 h.root;refine⟨r,rest.filter fun m=>decide (m.ino≠a.ino\/0<Br a.ino (Bk d.nodes n0.ino name 0)),?_,h1,h2,h3⟩;show CK (Bk d.nodes n0.ino name 0) a.ino=_;unfold CK
  conv=>lhs;rw[hr]
  rw[List.filter_cons,if_pos (decide_eq_true (.inl (by rw[h1];exact fun e=>ha1 e.symm))),hr]
 ·exact List.Pairwise.filter _ (Ol h.asc _ _ _)
 ·intro m hm;obtain⟨⟨n',hn',hw⟩,_⟩:=hfrom hm;rw[hw.ino];exact h.lt n' hn'
 ·intro m hm;obtain⟨⟨n',hn',hw⟩,_⟩:=hfrom hm;rw[hw.plain];exact h.plain n' hn'
 ·intro m hm hk';obtain⟨⟨n',hn',hw⟩,_⟩:=hfrom hm;rw[hw.kind]at hk';obtain⟨h1,h2⟩:=h.leaf n' hn' hk';refine⟨hw.parent.trans h1,?_⟩;rw[hw.ents,if_neg,h2];intro e;obtain rfl:=El h.asc hn' hn0 e;exact hk' hk
 ·intro m hm;obtain⟨⟨n',hn',hw⟩,_⟩:=hfrom hm;rw[hw.ents];split
  ·rw[M2];exact Nat.le_trans (List.length_filter_le _ _) (h.many n' hn')
  exact h.many n' hn'
 ·intro m hm;obtain⟨⟨n',hn',hw⟩,_⟩:=hfrom hm;rw[hw.ents];split
  ·exact Oi (h.sorted n' hn') _ _
  exact h.sorted n' hn'
 ·intro m hm e he;obtain⟨⟨n',hn',hw⟩,hm1,_⟩:=hfrom hm;obtain⟨k1,k2,q,hq,k3⟩:=h.ent n' hn' e (hsub hw he);obtain⟨m',hm',hw'⟩:=ND n0.ino name 0 hq;refine⟨k1,k2,m',hkeep hm' (fun e1=>Q8.2 ⟨m,hm1,e,he,?_⟩),hw'.ino.trans k3⟩;rw[<-k3,<-hw'.ino,e1]
 ·intro m hm h1;rw[hcnt];obtain⟨⟨n',hn',hw⟩,_,h2⟩:=hfrom hm;have h3:=hcnt1 m.ino;by_cases e:m.ino=a.ino
  ·rw[e]at h2 ⊢;rcases h2 with h2|h2
   ·exact absurd rfl h2
   exact h2
  rw[O2 (fun h=>e h.symm)]at h3;have:=h.link n' hn' (by rw[<-hw.ino];exact h1);rw[<-hw.ino]at this;omega
 ·intro m hm h1 h4;rw[hcnt];obtain⟨⟨n',hn',hw⟩,_,h2⟩:=hfrom hm;have h3:=hcnt1 m.ino;have h5:=h.one n' hn' (by rw[<-hw.ino];exact h1) (by rw[<-hw.kind];exact h4);rw[<-hw.ino]at h5;by_cases e:m.ino=a.ino
  ·exfalso;rw[QC e.symm]at h3;rcases h2 with h2|h2
   ·exact h2 e
   rw[<-e]at h2;omega
  rw[O2 (fun h=>e h.symm)]at h3;omega
 ·intro m hm h1 h4;obtain⟨⟨n',hn',hw⟩,_,h2⟩:=hfrom hm;obtain⟨p,hp',k1,e,he,k2⟩:=h.par n' hn' (by rw[<-hw.ino];exact h1) (by rw[<-hw.kind];exact h4);obtain⟨q,hq,hwq⟩:=ND n0.ino name 0 hp'
  have hpa:p.ino≠a.ino:=fun e'=>by
   obtain rfl:=El h.asc hp' ha e';rw[hae]at he;cases he
  have hna':n'.ino≠a.ino:=fun e'=>by
   have h3:=hcnt1 m.ino;have h5:=h.one n' hn' (by rw[<-hw.ino];exact h1) (by rw[<-hw.kind];exact h4);rw[<-hw.ino]at h5 e';rw[QC e'.symm]at h3;rcases h2 with h2|h2
   ·exact h2 e'
   rw[<-e']at h2;omega
  refine⟨q,hkeep hq (fun e'=>absurd (hwq.ino.symm.trans e') hpa),by rw[hwq.ino,hw.parent];exact k1,e,?_,by rw[hw.ino];exact k2⟩;rw[hwq.ents];split
  ·rename_i heq;obtain rfl:=El h.asc hp' hn0 heq;refine QB he fun hnm=>?_;have:=Ul (h.sorted p hp') he hem (hnm.trans hen.symm);rw[this,hea]at k2;exact hna' k2.symm
  exact he
 obtain⟨rk,hrk⟩:=h.rank;refine⟨rk,fun m hm h1 h2=>?_⟩;obtain⟨⟨n',hn',hw⟩,_⟩:=hfrom hm;rw[hw.ino,hw.parent];exact hrk n' hn' (by rw[<-hw.ino];exact h1) (by rw[<-hw.kind];exact h2)
end Go.Proofs.YtbgnigjfkbmceaaGreatDoor
namespace Go.Proofs.YtbgnigjfkbmceaaGreatDoor
theorem Yb:∀(xs l:List Int),xs.Nodup->(∀x∈xs,x∈l)->xs.length<=l.length
 |[],_,_,_=>BG _
 |x::xs,l,hd,hs=>by
   obtain⟨h1,h2⟩:=List.nodup_cons.1 hd;have hx:x∈l:=hs x (by simp);have ih:=Yb xs (l.erase x) h2 fun y hy=>(List.mem_erase_of_ne (fun e:y=x=>h1 (e ▸ hy))).2 (hs y (by simp[hy]));have hl:=List.length_erase_of_mem hx;have hp:0<l.length:=List.length_pos_of_mem hx;simp only[List.length_cons];omega
def QE(ns:List Nod):Nat->Int->Int->Prop
 |0,x,y=>x=y
 |k+1,x,y=>∃n∈ns,n.ino=x/\n.ino≠1/\n.kind=2/\QE ns k n.parent y
def KX(ns:List Nod)(x y:Int):Prop:=∃k,QE ns k x y
theorem Yc{ns:List Nod}{rk:Int->Nat}(hrk:∀n∈ns,n.ino≠1->n.kind=2->rk n.parent<rk n.ino):∀(k:Nat) (x y:Int),QE ns k x y->∃l:List Int,l.length=k/\l.Nodup/\∀z∈l,(∃n∈ns,n.ino=z)/\rk y<rk z/\rk z<=rk x
 |0,_,_,_=>⟨[],rfl,List.nodup_nil,by simp⟩
 |k+1,x,y,h=>by
   obtain⟨n,hn,rfl,h1,h2,h3⟩:=h;obtain⟨l,e,hd,hl⟩:=Yc hrk k _ _ h3;have hlt:=hrk n hn h1 h2
   have hy:rk y<=rk n.parent:=by
    cases l with
    |nil=>
      have hk:k=0:=by simpa using e.symm
      subst hk;have:n.parent=y:=h3;rw[this];exact As _
    |cons z l=>
      have:=hl z (by simp);omega
   refine⟨n.ino::l,by simp[e],List.nodup_cons.2 ⟨fun hm=>?_,hd⟩,?_⟩
   ·have:=(hl _ hm).2.2;omega
   intro z hz;rcases List.mem_cons.1 hz with rfl|hz
   ·exact⟨⟨n,hn,rfl⟩,by omega,As _⟩
   obtain⟨q1,q2,q3⟩:=hl z hz;exact⟨q1,q2,by omega⟩
theorem VD.anc_len{d:Dvc}(h:VD d){k:Nat}{x:Int}{a:Nod}(ha:a∈d.nodes)(hk:QE d.nodes k x a.ino):k+1<=d.nodes.length:=by
 obtain⟨rk,hrk⟩:=h.rank;obtain⟨l,e,hd,hl⟩:=Yc hrk k x a.ino hk
 have:=Yb (a.ino::l) (d.nodes.map (·.ino)) (List.nodup_cons.2 ⟨fun hm=>by have:=(hl _ hm).2.1;omega,hd⟩) (fun z hz=>by
  rcases List.mem_cons.1 hz with rfl|hz
  ·exact List.mem_map.2 ⟨a,ha,rfl⟩
  obtain⟨n,hn,e⟩:=(hl z hz).1
  exact List.mem_map.2 ⟨n,hn,e⟩)
 simp only[List.length_cons,List.length_map]at this;omega
def Gx(p1 p2:Int)(name name2:AD)(a:Int)(n:Nod):List BQ:=
 let es:=if n.ino=p1 then DP n.entries name 0 else n.entries
 if n.ino=p2 then DP es name2 a else es
def M3(p1 p2:Int)(name name2:AD)(a:Int)(n:Nod):Nod:=
 {n with entries:=Gx p1 p2 name name2 a n,parent:=if n.ino=a/\n.kind=2 then p2 else n.parent}
def FT(ns:List Nod)(p1 p2:Int)(name name2:AD)(a:Int):List Nod:=ns.map (M3 p1 p2 name name2 a)
def LY(p:Int)(n:Nod):Nod:=if n.kind=2 then{n with parent:=p}else n
theorem Yd(ns:List Nod)(p1 p2:Int)(name name2:AD)(a:Int):DJ (Bk (Bk ns p1 name 0) p2 name2 a) a (LY p2)=FT ns p1 p2 name name2 a:=by
 unfold Bk DJ FT;rw[List.map_map,List.map_map];apply List.map_congr_left;intro n _;obtain⟨ino,kind,mode,uid,gid,parent,target,entries⟩:=n;simp only[Function.comp];unfold M3 Gx Ok LY;by_cases h1:ino=p1<;>by_cases h2:ino=p2<;>by_cases h3:ino=a<;>by_cases h4:kind=2<;>simp[h1,h2,h3,h4]<;>(try simp_all)
theorem lE{es:List BQ}{name name2:AD}(h:name≠name2):Ek (Ga name es) name2=Ek es name2:=by
 unfold Ek Ga;rw[List.find?_filter]
 congr 1
 funext e
 by_cases h2:e.1=name2
 ·have:e.1≠name:=fun e'=>h (e'.symm.trans h2);simp[h2];intro e';exact h e'.symm
 simp[h2]
end Go.Proofs.YtbgnigjfkbmceaaGreatDoor
namespace Go.Proofs.YtbgnigjfkbmceaaGreatDoor
section
open Go.RowKit
variable {p1 p2:Int}{name name2:AD}{a:Int}{n:Nod}
theorem lF{e:BQ}(h:e∈Gx p1 p2 name name2 a n):e∈n.entries\/(n.ino=p2/\e=(name2,a)):=by
 unfold Gx at h
 have base:∀{x:BQ},x∈(if n.ino=p1 then DP n.entries name 0 else n.entries)->x∈n.entries:=by
  intro x hx;split at hx
  ·rcases QA hx with h1|h1
   ·exact h1
   exact absurd rfl h1.2
  exact hx
 simp only at h;split at h
 ·rename_i h2;rcases QA h with h1|h1
  ·exact .inl (base h1)
  exact .inr ⟨h2,h1.1⟩
 exact .inl (base h)
theorem lG{e:BQ}(h:e∈n.entries)(h1:n.ino=p1->e.1≠name)(h2:n.ino=p2->e.1≠name2):e∈Gx p1 p2 name name2 a n:=by
 unfold Gx
 have base:e∈(if n.ino=p1 then DP n.entries name 0 else n.entries):=by
  split
  ·rename_i e1;exact QB h (h1 e1)
  exact h
 simp only;split
 ·rename_i e2;exact QB base (h2 e2)
 exact base
theorem lH(h:n.ino=p2)(ha:a≠0):(name2,a)∈Gx p1 p2 name name2 a n:=by
 unfold Gx;simp only[h,if_true];exact YZ ha
theorem lJ(h:JK n.entries):JK (Gx p1 p2 name name2 a n):=by
 unfold Gx
 have base:JK (if n.ino=p1 then DP n.entries name 0 else n.entries):=by
  split
  ·exact Oi h _ _
  exact h
 simp only;split
 ·exact Oi base _ _
 exact base
end
open Classical in
noncomputable def QF (S:Int->Prop) (rk:Int->Nat) (c:Nat) (x:Int):Nat:=if S x then rk x+c else rk x
theorem Um{S:Int->Prop}{rk:Int->Nat}{c:Nat}{x:Int}(h:S x):QF S rk c x=rk x+c:=by unfold QF;rw[if_pos h]
theorem Un{S:Int->Prop}{rk:Int->Nat}{c:Nat}{x:Int}(h:¬S x):QF S rk c x=rk x:=by unfold QF;rw[if_neg h]
theorem VD.renamed{d:Dvc}(h:VD d){n1 n2 a:Nod}(hn1:n1∈d.nodes)(hn2:n2∈d.nodes)(ha:a∈d.nodes)(hk2:n2.kind=2){name name2:AD}{e1:BQ}(he1:Ek n1.entries name=some e1)(hea:e1.2=a.ino)
    (hname2:FC name2=true) (hdiff:n1.ino=n2.ino->name≠name2) (hanc:a.kind=2->¬KX d.nodes n2.ino a.ino) {oi:Int}
    (ho:(Ek n2.entries name2=none/\(n2.entries.length<12\/n1.ino=n2.ino)/\oi=0)\/(∃eo o,Ek n2.entries name2=some eo/\o∈d.nodes/\eo.2=oi/\o.ino=oi/\oi≠a.ino/\o.entries=[])):
    VD ⟨d.next,CK (FT d.nodes n1.ino n2.ino name name2 a.ino) oi⟩:=by
 obtain⟨hem,hen⟩:=LX he1;have ha1:a.ino≠1:=by rw[<-hea];exact(h.ent n1 hn1 e1 hem).2.1
 have ha0:a.ino≠0:=by have:=h.pos ha;omega
 have hoa:oi≠a.ino:=by
  rcases ho with⟨_,_,h1⟩|⟨_,_,_,_,_,_,h1,_⟩
  ·omega
  exact h1
 have ho1:oi≠1:=by
  rcases ho with⟨_,_,h1⟩|⟨eo,o,h1,_,h2,_⟩
  ·omega
  obtain⟨q1,_⟩:=LX h1;rw[<-h2];exact(h.ent n2 hn2 eo q1).2.1
 have hoe:∀m∈d.nodes,m.ino=oi->m.entries=[]:=by
  intro m hm e;rcases ho with⟨_,_,h1⟩|⟨eo,o,_,h1,_,h2,_,h3⟩
  ·have:=h.pos hm;omega
  obtain rfl:=El h.asc hm h1 (by omega);exact h3
 have hm2:=ND n1.ino name 0 hn2;obtain⟨m2,hm2,hw2⟩:=hm2
 have hf2:Ek m2.entries name2=Ek n2.entries name2:=by
  rw[hw2.ents];split
  ·rename_i e;rw[M2,lE (hdiff e.symm)]
  rfl
 have hasc1:=Ol h.asc n1.ino name 0;have hasc2:=Ol hasc1 n2.ino name2 a.ino
 have hsort2:JK m2.entries:=by
  rw[hw2.ents];split
  ·exact Oi (h.sorted n2 hn2) _ _
  exact h.sorted n2 hn2
 have hcntR:∀i,1<=i->Br i (FT d.nodes n1.ino n2.ino name name2 a.ino)+b1 (oi=i)=Br i d.nodes:=by
  intro i hi;have c1:=Q9 h.asc hn1 name 0 i;have c2:=YY (h.sorted n1 hn1) he1 i;rw[hea]at c2;have c3:=Q9 hasc1 hm2 name2 a.ino i;rw[hw2.ino]at c3;obtain⟨m',hm',hw'⟩:=ND n1.ino name 0 ha;obtain⟨m'',hm'',hw''⟩:=ND (ns:=Bk d.nodes n1.ino name 0) n2.ino name2 a.ino hm';have c4:=Ug hasc2 hm'' (LY n2.ino) i;have e4:(LY n2.ino m'').entries=m''.entries:=by unfold LY;split<;>rfl
  rw[e4,hw''.ino,hw'.ino,Yd]at c4;rcases ho with⟨h1,_,h2⟩|⟨eo,o,h1,_,h2,_⟩
  ·have c5:=Uk (hf2.trans h1) ha0 i;rw[O2 (show¬oi=i by omega)];omega
  have c5:=lD hsort2 (hf2.trans h1) ha0 i;rw[h2]at c5;omega
 have hmem:∀{m:Nod},m∈CK (FT d.nodes n1.ino n2.ino name name2 a.ino) oi->(∃n∈d.nodes,m=M3 n1.ino n2.ino name name2 a.ino n)/\m∈FT d.nodes n1.ino n2.ino name name2 a.ino/\(m.ino≠oi\/0<Br oi (FT d.nodes n1.ino n2.ino name name2 a.ino)):=by
  intro m hm;obtain⟨q1,q2⟩:=QD.1 hm;obtain⟨n,hn,e⟩:=List.mem_map.1 q1;exact⟨⟨n,hn,e.symm⟩,q1,q2⟩
 have hkeep:∀{n:Nod},n∈d.nodes->(n.ino=oi->0<Br oi (FT d.nodes n1.ino n2.ino name name2 a.ino))->M3 n1.ino n2.ino name name2 a.ino n∈CK (FT d.nodes n1.ino n2.ino name name2 a.ino) oi:=by
  intro n hn hc;refine QD.2 ⟨List.mem_map.2 ⟨n,hn,rfl⟩,?_⟩;by_cases e:n.ino=oi
  ·exact .inr (hc e)
  exact .inl e
 have hcnt:∀i,Br i (CK (FT d.nodes n1.ino n2.ino name name2 a.ino) oi)=Br i (FT d.nodes n1.ino n2.ino name name2 a.ino):=by
  refine fun i=>Ya (fun m hm hp=>?_) i;have hp':=of_decide_eq_false hp;obtain⟨n,hn,rfl⟩:=List.mem_map.1 hm;have hmi:n.ino=oi:=Classical.byContradiction fun h=>hp' (.inl h);have h0:=hoe n hn hmi
  have q1:n.ino≠n1.ino:=fun e=>by
   obtain rfl:=El h.asc hn hn1 e;rw[h0]at hem;cases hem
  have q2:n.ino≠n2.ino:=fun e=>by
   obtain rfl:=El h.asc hn hn2 e;rcases ho with⟨_,_,h1⟩|⟨eo,o,h1,_⟩
   ·have:=h.pos hn;omega
   obtain⟨q,_⟩:=LX h1;rw[h0]at q;cases q
  show Gx n1.ino n2.ino name name2 a.ino n=[];unfold Gx;simp only[q1,q2,if_false];exact h0
 have hdo:∀{n:Nod},n∈d.nodes->n.ino≠1->n.kind=2->(n.ino≠oi\/0<Br oi (FT d.nodes n1.ino n2.ino name name2 a.ino))->n.ino≠oi:=by
  intro n hn h1 h2 hc e;rcases hc with hc|hc
  ·exact hc e
  have c1:=h.one n hn h1 h2;have c2:=hcntR n.ino (h.pos hn);rw[QC e.symm]at c2;rw[<-e]at hc;omega
 refine⟨?_,h.next2,h.nextM,?_,?_,?_,?_,?_,?_,?_,?_,?_,?_,?_,?_⟩
 ·have q1:(CK (FT d.nodes n1.ino n2.ino name name2 a.ino) oi).length<=(FT d.nodes n1.ino n2.ino name name2 a.ino).length:=List.length_filter_le _ _;have q2:(FT d.nodes n1.ino n2.ino name name2 a.ino).length=d.nodes.length:=by simp[FT]
  have:=h.len;show(CK _ _).length<=16;omega
 ·obtain⟨r,rest,hr,h1,h2,h3⟩:=h.root;refine⟨M3 n1.ino n2.ino name name2 a.ino r,(rest.map (M3 n1.ino n2.ino name name2 a.ino)).filter fun m=>decide (m.ino≠oi\/0<Br oi (FT d.nodes n1.ino n2.ino name name2 a.ino)),?_,h1,h2,?_⟩
  ·show CK (FT d.nodes n1.ino n2.ino name name2 a.ino) oi=_;have e:FT d.nodes n1.ino n2.ino name name2 a.ino=M3 n1.ino n2.ino name name2 a.ino r::rest.map (M3 n1.ino n2.ino name name2 a.ino):=by unfold FT;rw[hr];rfl
   unfold CK
   conv=>lhs;arg 2;rw[e]
   rw[List.filter_cons,if_pos (decide_eq_true (.inl (by show r.ino≠oi;rw[h1];exact fun e=>ho1 e.symm)))]
  show(if r.ino=a.ino/\r.kind=2 then n2.ino else r.parent)=1;rw[if_neg (fun e=>ha1 (by rw[<-e.1];exact h1))];exact h3
 ·refine List.Pairwise.filter _ ?_;show Fk (FT d.nodes n1.ino n2.ino name name2 a.ino);rw[Uf]
  have e:(FT d.nodes n1.ino n2.ino name name2 a.ino).map (·.ino)=d.nodes.map (·.ino):=by
   unfold FT;rw[List.map_map];rfl
  rw[e,<-Uf];exact h.asc
 ·intro m hm;obtain⟨⟨n,hn,rfl⟩,_⟩:=hmem hm;exact h.lt n hn
 ·intro m hm;obtain⟨⟨n,hn,rfl⟩,_⟩:=hmem hm;exact h.plain n hn
 ·intro m hm hk;obtain⟨⟨n,hn,rfl⟩,_⟩:=hmem hm;have hk':n.kind≠2:=hk;obtain⟨q1,q2⟩:=h.leaf n hn hk';refine⟨?_,?_⟩
  ·show(if n.ino=a.ino/\n.kind=2 then n2.ino else n.parent)=0;rw[if_neg (fun e=>hk' e.2)];exact q1
  show Gx n1.ino n2.ino name name2 a.ino n=[]
  have r1:n.ino≠n1.ino:=fun e=>by
   obtain rfl:=El h.asc hn hn1 e;rw[q2]at hem;cases hem
  have r2:n.ino≠n2.ino:=fun e=>by
   obtain rfl:=El h.asc hn hn2 e;exact hk' hk2
  unfold Gx;simp only[r1,r2,if_false];exact q2
 ·intro m hm;obtain⟨⟨n,hn,rfl⟩,_⟩:=hmem hm;show(Gx n1.ino n2.ino name name2 a.ino n).length<=12;by_cases q2:n.ino=n2.ino
  ·obtain rfl:=El h.asc hn hn2 q2
   have e2:Gx n1.ino n.ino name name2 a.ino n=DP m2.entries name2 a.ino:=by
    unfold Gx;simp only[if_true];rw[hw2.ents]
   rw[e2,(Mb _ name2 ha0).length_eq,List.length_cons];rcases ho with⟨h1,h2,_⟩|⟨eo,o,h1,_⟩
   ·rw[S9 (hf2.trans h1),hw2.ents];rcases h2 with h2|h2
    ·split
     ·rw[M2];have:(Ga name n.entries).length<=n.entries.length:=List.length_filter_le _ _;omega
     omega
    rw[if_pos h2.symm,M2];obtain rfl:=El h.asc hn1 hn h2;have:=(SA (h.sorted n1 hn1) he1).length_eq;rw[List.length_cons]at this;have:=h.many n1 hn1;omega
   have c1:=(SA hsort2 (hf2.trans h1)).length_eq;rw[List.length_cons]at c1
   have c2:m2.entries.length<=n.entries.length:=by
    rw[hw2.ents];split
    ·rw[M2];exact List.length_filter_le _ _
    exact As _
   have:=h.many n hn;omega
  unfold Gx;simp only[q2,if_false];split
  ·rw[M2];exact Nat.le_trans (List.length_filter_le _ _) (h.many n hn)
  exact h.many n hn
 ·intro m hm;obtain⟨⟨n,hn,rfl⟩,_⟩:=hmem hm;exact lJ (h.sorted n hn)
 ·intro m hm e he;obtain⟨⟨n,hn,rfl⟩,hmR,_⟩:=hmem hm;have he':e∈Gx n1.ino n2.ino name name2 a.ino n:=he;rcases lF he' with q|⟨_,rfl⟩
  ·obtain⟨k1,k2,x,hx,k3⟩:=h.ent n hn e q;refine⟨k1,k2,_,hkeep hx (fun e1=>Q8.2 ⟨_,hmR,e,he,?_⟩),k3⟩;rw[<-k3,e1]
  exact⟨hname2,ha1,_,hkeep ha (fun e1=>absurd e1.symm hoa),rfl⟩
 ·intro m hm h1;rw[hcnt];obtain⟨⟨n,hn,rfl⟩,_,hc⟩:=hmem hm;have h1':n.ino≠1:=h1;show 0<Br n.ino _;have c1:=hcntR n.ino (h.pos hn);by_cases e:n.ino=oi
  ·rcases hc with hc|hc
   ·exact absurd e hc
   rw[e];exact hc
  rw[O2 (fun h=>e h.symm)]at c1;have:=h.link n hn h1';omega
 ·intro m hm h1 h2;rw[hcnt];obtain⟨⟨n,hn,rfl⟩,_,hc⟩:=hmem hm;have h1':n.ino≠1:=h1;have h2':n.kind=2:=h2;show Br n.ino _=1;have c1:=hcntR n.ino (h.pos hn);rw[O2 (fun e=>hdo hn h1' h2' hc e.symm)]at c1;have:=h.one n hn h1' h2';omega
 ·intro m hm h1 h2;obtain⟨⟨n,hn,rfl⟩,_,hc⟩:=hmem hm;have h1':n.ino≠1:=h1;have h2':n.kind=2:=h2;have hno:=hdo hn h1' h2' hc;by_cases hna:n.ino=a.ino
  ·refine⟨_,hkeep hn2 (fun e=>?_),?_,(name2,a.ino),lH rfl ha0,hna.symm⟩
   ·exfalso;rcases ho with⟨_,_,q⟩|⟨eo,o,q,_⟩
    ·have:=h.pos hn2;omega
    obtain⟨q1,_⟩:=LX q;rw[hoe n2 hn2 e]at q1;cases q1
   show n2.ino=if n.ino=a.ino/\n.kind=2 then n2.ino else n.parent
   rw[if_pos ⟨hna,h2'⟩]
  obtain⟨p,hp,k1,e,he,k2⟩:=h.par n hn h1' h2';refine⟨_,hkeep hp (fun e'=>?_),?_,e,lG he (fun e' hnm=>?_) (fun e' hnm=>?_),k2⟩
  ·exfalso;rw[hoe p hp e']at he;cases he
  ·show p.ino=if n.ino=a.ino/\n.kind=2 then n2.ino else n.parent
   rw[if_neg (fun q=>hna q.1)];exact k1
  ·obtain rfl:=El h.asc hp hn1 e';have:=Ul (h.sorted p hp) he hem (hnm.trans hen.symm);rw[this,hea]at k2;exact hna k2.symm
  obtain rfl:=El h.asc hp hn2 e';rcases ho with⟨q,_⟩|⟨eo,o,q,_,q2,_⟩
  ·exact S8 q e he hnm
  obtain⟨r1,r2⟩:=LX q;have:=Ul (h.sorted p hp) he r1 (hnm.trans r2.symm);rw[this,q2]at k2;exact hno k2.symm
 obtain⟨rk,hrk⟩:=h.rank;by_cases hka:a.kind=2
 ·have hS:=hanc hka;refine⟨QF (fun x=>KX d.nodes x a.ino) rk (rk n2.ino+1),fun m hm h1 h2=>?_⟩;obtain⟨⟨n,hn,rfl⟩,_,_⟩:=hmem hm;have h1':n.ino≠1:=h1;have h2':n.kind=2:=h2;have eP:(M3 n1.ino n2.ino name name2 a.ino n).parent=if n.ino=a.ino/\n.kind=2 then n2.ino else n.parent:=rfl
  have eI:(M3 n1.ino n2.ino name name2 a.ino n).ino=n.ino:=rfl;rw[eP,eI];by_cases hna:n.ino=a.ino
  ·rw[if_pos ⟨hna,h2'⟩,Un (S:=fun x=>KX d.nodes x a.ino) hS,Um (S:=fun x=>KX d.nodes x a.ino) (show KX d.nodes n.ino a.ino from⟨0,hna⟩)];omega
  have hlt:=hrk n hn h1' h2';rw[if_neg (fun q=>hna q.1)];by_cases hA:KX d.nodes n.ino a.ino
  ·have hP:KX d.nodes n.parent a.ino:=by
      obtain⟨k,hk⟩:=hA
      cases k with
      |zero=>exact absurd hk hna
      |succ k=>
        obtain⟨n',hn',e1,_,_,q⟩:=hk;obtain rfl:=El h.asc hn' hn e1;exact⟨k,q⟩
   rw[Um (S:=fun x=>KX d.nodes x a.ino) hP,Um (S:=fun x=>KX d.nodes x a.ino) hA];omega
  have hP:¬KX d.nodes n.parent a.ino:=fun⟨k,hk⟩=>hA ⟨k+1,n,hn,rfl,h1',h2',hk⟩;rw[Un (S:=fun x=>KX d.nodes x a.ino) hP,Un (S:=fun x=>KX d.nodes x a.ino) hA];exact hlt
 refine⟨rk,fun m hm h1 h2=>?_⟩;obtain⟨⟨n,hn,rfl⟩,_,_⟩:=hmem hm;have h2':n.kind=2:=h2;show rk (if n.ino=a.ino/\n.kind=2 then n2.ino else n.parent)<rk n.ino
 rw[if_neg (fun q=>hka (by
  obtain rfl:=El h.asc hn ha q.1
  exact q.2))]
 exact hrk n hn h1 h2'
section
open Go.RowKit
theorem lK(n:Nat):∀j,FM [] n j=some (n+j):=fun j=>by simp[FM]
theorem Om{bx:List (List AV)}{n:Nat}(hn:bx.length=n)(f:AR)(q:Nat)(d:Dvc)(ns:List Nod)(cap cap1:Nat):Back bx [] [DB f q d 1 cap cap1,NB ns cap1] (bx++[DB f q d (n+1) cap cap1,NB ns cap1]):=by
 subst hn;refine⟨by simp,fun i row _ h=>?_,fun k i row h=>by simp at h,fun k row h=>?_⟩
 ·rw[DD (AZ.1 h).1];exact h
 rw[Er (by omega),show bx.length+k - bx.length=k by omega];simp only[List.length_nil,Nat.zero_add]at h
 match k,h with
 |0,h=>injection h with h;subst h;rw[KV (lK _ 1)];rfl
 |1,h=>injection h with h;subst h;rw[K0];rfl
 |k+2,h=>simp at h
theorem On{bx:List (List AV)}{i0 i1:Nat}(h0:i0<bx.length)(h1:i1<bx.length)(hne:i0≠i1)(f:AR)(q:Nat)(d:Dvc)(ns:List Nod)(cap cap1 cap1':Nat):
    Back bx [i0,i1] [DB f q d 1 cap cap1,NB ns cap1'] ((bx.set i0 (DB f q d i1 cap cap1)).set i1 (NB ns cap1')):=by
 refine⟨by simp,fun i row hi h=>?_,fun k i row h hr=>?_,fun k row h=>by simp at h⟩
 ·simp only[List.mem_cons,List.not_mem_nil,or_false,not_or]at hi;rw[List.getElem?_set_ne (Ne.symm hi.2),List.getElem?_set_ne (Ne.symm hi.1)];exact h
 match k,h,hr with
 |0,h,hr=>
   simp at h hr;subst h;subst hr;rw[List.getElem?_set_ne (Ne.symm hne),List.getElem?_set_self h0,KV (g:=FM [i0,i1] bx.length) (j:=1) (j':=i1) rfl]
 |1,h,hr=>
   simp at h hr;subst h;subst hr;rw[List.getElem?_set_self (by simpa using h1),K0]
 |k+2,h,_=>simp at h
theorem Uo{bx:List (List AV)}{n i0 i1:Nat}(hn:bx.length=n)(h0:i0<n)(h1:i1<n)(hne:i0≠i1)(f:AR)(q:Nat)(d:Dvc)(ns ns':List Nod)(a:A8)(l cap0 cap cap1 cap2:Nat):
    Back bx [i0,i1] [DB f q d 4 cap cap2,NB ns cap1,[.bs 0 0 2 l cap0],AB a,NB ns' cap2] ((bx.set i0 (DB f q d (n+2) cap cap2)).set i1 (NB ns cap1)++[[.bs i0 0 2 l cap0],AB a,NB ns' cap2]):=by
 subst hn;have hl:((bx.set i0 (DB f q d (bx.length+2) cap cap2)).set i1 (NB ns cap1)).length=bx.length:=by simp
 refine⟨by simp,fun i row hi h=>?_,fun k i row h hr=>?_,fun k row h=>?_⟩
 ·simp only[List.mem_cons,List.not_mem_nil,or_false,not_or]at hi;rw[DD (by rw[hl];exact(AZ.1 h).1),List.getElem?_set_ne (Ne.symm hi.2),List.getElem?_set_ne (Ne.symm hi.1)];exact h
 ·match k,h,hr with
  |0,h,hr=>
    simp at h hr;subst h;subst hr;rw[DD (by rw[hl];exact h0),List.getElem?_set_ne (Ne.symm hne),List.getElem?_set_self h0,KV (g:=FM [i0,i1] bx.length) (j:=4) (j':=bx.length+2) rfl]
  |1,h,hr=>
    simp at h hr;subst h;subst hr;rw[DD (by rw[hl];exact h1),List.getElem?_set_self (by simpa using h1),K0]
  |k+2,h,_=>simp at h
 rw[Er (by rw[hl];omega),hl,show bx.length+k - bx.length=k by omega]
 match k,h with
 |0,h=>injection h with h;subst h;rfl
 |1,h=>injection h with h;subst h;rfl
 |2,h=>injection h with h;subst h;rw[K0];rfl
 |k+3,h=>rw[List.getElem?_eq_none (by simp;omega)]at h;cases h
theorem Up{bx:List (List AV)}{n i0 i1:Nat}(hn:bx.length=n)(h0:i0<n)(h1:i1<n)(hne:i0≠i1)(f:AR)(q:Nat)(d:Dvc)(ns:List Nod)(a:A8)(l cap0 cap cap1 cap1':Nat):
    Back bx [i0,i1] [DB f q d 1 cap cap1,NB ns cap1',[.bs 0 0 2 l cap0],AB a] ((bx.set i0 (DB f q d i1 cap cap1)).set i1 (NB ns cap1')++[[.bs i0 0 2 l cap0],AB a]):=by
 subst hn;have hl:((bx.set i0 (DB f q d i1 cap cap1)).set i1 (NB ns cap1')).length=bx.length:=by simp
 refine⟨by simp,fun i row hi h=>?_,fun k i row h hr=>?_,fun k row h=>?_⟩
 ·simp only[List.mem_cons,List.not_mem_nil,or_false,not_or]at hi;rw[DD (by rw[hl];exact(AZ.1 h).1),List.getElem?_set_ne (Ne.symm hi.2),List.getElem?_set_ne (Ne.symm hi.1)];exact h
 ·match k,h,hr with
  |0,h,hr=>
    simp at h hr;subst h;subst hr;rw[DD (by rw[hl];exact h0),List.getElem?_set_ne (Ne.symm hne),List.getElem?_set_self h0,KV (g:=FM [i0,i1] bx.length) (j:=1) (j':=i1) rfl]
  |1,h,hr=>
    simp at h hr;subst h;subst hr;rw[DD (by rw[hl];exact h1),List.getElem?_set_self (by simpa using h1),K0]
  |k+2,h,_=>simp at h
 rw[Er (by rw[hl];omega),hl,show bx.length+k - bx.length=k by omega]
 match k,h with
 |0,h=>injection h with h;subst h;rfl
 |1,h=>injection h with h;subst h;rfl
 |k+2,h=>rw[List.getElem?_eq_none (by simp;omega)]at h;cases h
theorem Ye{f:AR}{q:Nat}{d d':Dvc}(hn:d'.next=d.next)(hl:d'.nodes.length=d.nodes.length)(j cap cap1:Nat):DB f q d j cap cap1=DB (f.set q d') q d' j cap cap1:=by
 unfold DB JJ L7;rw[List.map_set,List.set_set,hn,hl]
theorem NE{n:Nat}{bx:List (List AV)}{k i j:Nat}{f:AR}{q:Nat}{d d':Dvc}{cap cap0 cap1:Nat}(hq:q<f.length)(hn:d'.next=d.next)(hl:d'.nodes.length=d.nodes.length)(hc:f.length<=cap)(ka:d'.nodes.length<=cap1)(hni:n<=i)(hnj:n<=j)
    (hi:bx[i]?=some (DB f q d j cap cap1)) (hj:bx[j]?=some (NB d'.nodes cap1)):KQ n (Ey n bx (k+2)) [.bs i 0 2 f.length cap0]=Ap (f.set q d'):=by
 have:Nat.blt i n=false:=by rw[<-Bool.not_eq_true,Nat.blt_eq];omega
 have key:=NA (n:=n) (bx:=bx) (k:=k) (i:=i) (j:=j) (f:=f.set q d') (K:=q) (d:=d') (cap:=cap) (cap0:=cap0) (cap1:=cap1) (by simp[hq]) (by simpa using hc) ka hni hnj (by rw[hi,Ye hn hl]) hj;rw[List.length_set]at key;have key2:AV.agg [Fc (Ey n bx (k+2)) (.bs i 0 2 f.length cap0)]=AV.agg (Ap (f.set q d')):=key;have e:KQ n (Ey n bx (k+2)) [.bs i 0 2 f.length cap0]=[Fc (Ey n bx (k+2)) (.bs i 0 2 f.length cap0)]:=by simp only[KQ,Ho,this]
 rw[e];injection key2
structure FlsV(f:AR):Prop where
 few:f.length<=3
 vd:∀d∈f,VD d
theorem FlsV.b{f:AR}(h:FlsV f):FlsB f:=⟨by have:=h.few;omega,fun d hd=>by have:=(h.vd d hd).len;omega,fun d hd n hn=>by have:=(h.vd d hd).many n hn;omega⟩
theorem QG{ns:List Nod}(h:Fk ns){i:Nat}{n:Nod}(hi:ns[i]?=some n)(g:Nod->Nod):ns.set i (g n)=DJ ns n.ino g:=by
 apply List.ext_getElem?;intro k;unfold DJ;rw[List.getElem?_map,List.getElem?_set];have hil:=(AZ.1 hi).1;split
 ·rename_i e;subst e;rw[hi];simp[hil]
 rename_i e
 cases hk:ns[k]? with
 |none=>rfl
 |some m=>
   have:m.ino≠n.ino:=by
    intro em;obtain⟨l1,e1⟩:=AZ.1 hi;obtain⟨l2,e2⟩:=AZ.1 hk;have hp:=List.pairwise_iff_getElem.1 h;rcases Nat.lt_or_gt_of_ne e with hlt|hlt
    ·have:=hp i k l1 l2 hlt;rw[e1,e2]at this;omega
    have:=hp k i l2 l1 hlt;rw[e1,e2]at this;omega
   simp[this]
def K1(f:AR)(q:Nat)(g:List Nod->List Nod):AR:=f.modify q fun d=>{d with nodes:=g d.nodes}
theorem KY{f:AR}{q:Nat}{d:Dvc}(h:f[q]?=some d)(g:List Nod->List Nod):K1 f q g=f.set q {d with nodes:=g d.nodes}:=by
 apply List.ext_getElem?;intro k;unfold K1;rw[List.getElem?_modify,List.getElem?_set];split
 ·rename_i e;subst e;rw[h];simp[(AZ.1 h).1]
 simp
theorem L9{f:AR}{dir:A8}{name:AD}(h:Cr f dir name=0):∃(q i:Nat) (d:Dvc) (n0:Nod),dir.1=(q:Int)/\f[q]?=some d/\d.nodes[i]?=some n0/\n0.ino=dir.2/\JH f dir=(i:Int)/\C5 f dir=some n0/\n0.kind=2/\FC name=true:=by
 rcases MR f dir with⟨_,h2⟩|⟨q,i,d,n,h1,h2,h3,h4,h5,h6⟩
 ·simp[Cr,h2]at h
 refine⟨q,i,d,n,h1,h2,h3,h4,h5,h6,?_⟩;simp only[Cr,h6]at h;split at h
 ·rename_i hk;split at h
  ·rename_i hn;exact⟨hk,hn⟩
  omega
 omega
def Cs(R:Fj):AV:= .tup [.agg (Ap R.1), .sl 7 (R.2.1.map FE) none, .v (.int .i64 R.2.2)]
theorem Em(e:Int):LeA (.tup [.agg [.v (.slice none 0 0)], .v (.slice none 0 0), .v (.int .i64 e)]) (Cs ([],[],e)):=(by repeat (first|exact A6 _|exact LeA.nil _|exact LeL.refl _|refine LeA.agg ?_|refine LeA.tup ?_|exact LeL.nil|refine LeL.cons ?_ ?_|exact LeA.any _))
def FU(f:AR)(dir:A8)(name:AD)(a:A8):Fj:=
 if Cr f dir name≠0 then([],[],Cr f dir name)else if Dl f a=false then([],[],2)else if a.1≠dir.1 then([],[],18)else if(AY f a).kind=2 then([],[],1)else
 if(AJ f dir name).2=0 then([],[],17)else if MT f dir=true then([],[],28)else(K1 f dir.1.toNat fun ns=>Bk ns dir.2 name a.2,[(dir,name,(0,0),a)],0)
section
theorem lL(f:AR)(dir:A8)(name:AD)(a:A8)(hv:FlsV f)(hs:name.size<=100000):AFn prog 172 [.agg (Ap f), .agg (AB dir), .v (.string name), .agg (AB a)] (fun r=>r=Cs (FU f dir name a)):=by
 have hf:=hv.b;refine enter Tryz.func172 rfl rfl rfl rfl rfl 0 rfl ?_;refine Fe (h:=b_ (h:=Ck (h:=a_ (h:=Ay (h:=q_ (J2 (h:=?_)))))));refine AK (OY f dir name hf hs) ?_;refine Gs (h:=?_);refine A3 rfl (fun kd ka=>?_) (fun kd ka=>?_)
 ·refine w_ (MP (h:=DY (h:=?_)));refine AO (r:=Cs (FU f dir name a)) none (h5:=?_) (h6:=⟨rfl,rfl,rfl⟩);rw[FU,if_pos (by omega)];exact Em _
 refine AG (C9 (h:=?_));refine AK (G0 f a hf) ?_;refine HQ (h:=?_);refine A3 rfl (fun ke kc=>?_) (fun ke kc=>?_)
 ·refine Fh (h:=?_);refine AO (r:=Cs (FU f dir name a)) none (h5:=?_) (h6:=⟨rfl,rfl,rfl⟩);rw[FU,if_neg (by omega),if_pos kc];exact Em _
 refine DF (h:=CG (h:=e_ (?_)));refine A3 rfl (fun kh kf=>?_) (fun kh kf=>?_)
 ·refine Fh (h:=?_);refine AO (r:=Cs (FU f dir name a)) none (h5:=?_) (h6:=⟨rfl,rfl,rfl⟩);rw[FU,if_neg (by omega),if_neg (by simp[kc]),if_pos (by omega)];exact Em _
 refine DF (h:=BO (h:=?_));refine A3 rfl (fun kl kg=>?_) (fun kl kg=>?_)
 ·refine Fh (h:=?_);refine AO (r:=Cs (FU f dir name a)) none (h5:=?_) (h6:=⟨rfl,rfl,rfl⟩);rw[FU,if_neg (by omega),if_neg (by simp[kc]),if_neg (by omega),if_pos kg];exact Em _
 refine FA (h:=J2 (h:=?_));refine AK (LV f dir name hf) ?_;refine EU (h:=Cl (h:=BO (h:=?_)));refine A3 rfl (fun ko kk=>?_) (fun ko kk=>?_)
 ·refine Fh (h:=?_);refine AO (r:=Cs (FU f dir name a)) none (h5:=?_) (h6:=⟨rfl,rfl,rfl⟩);rw[FU,if_neg (by omega),if_neg (by simp[kc]),if_neg (by omega),if_neg kg,if_pos kk];exact Em _
 refine FA (h:=C9 (h:=?_));refine AK (Tr f dir hf) ?_;refine e_ (?_);refine A3 rfl (fun kq km=>?_) (fun kq km=>?_)
 ·refine Fh (h:=?_);refine AO (r:=Cs (FU f dir name a)) none (h5:=?_) (h6:=⟨rfl,rfl,rfl⟩);rw[FU,if_neg (by omega),if_neg (by simp[kc]),if_neg (by omega),if_neg kg,if_neg kk,if_pos km];exact Em _
 obtain⟨q,i,d,n0,hdq,hq,hn0,ft,om,fg,hk0,hnm⟩:=L9 (name:=name) (dir:=dir) (f:=f) (by omega);have hil:=(AZ.1 hn0).1;have hql:=(AZ.1 hq).1;refine AG (Bw (h:=?_));refine A7 (Bo [] rfl (.cons _ _ _ _ _ rfl (A6 _) .nil) (by decide) .nil (Og f q d hf hq (by omega)) ?_);rintro r bc tc ⟨rfl,cap,cap1,yk,yz,rfl,rfl⟩;refine⟨rfl,_,(Om (n:=6) rfl f q d d.nodes cap cap1:Back _ [] _ [_,_,_,_,_,_,_,_]),?_⟩;refine CP (h:=J2 (h:=Ac (h:=?_)));refine A7 (Bo [6,7] rfl (.cons _ _ _ _ _ rfl (A6 _) (.cons _ _ _ _ _ rfl (A6 _) (.cons _ _ _ _ _ rfl (A6 _) (.cons _ _ _ _ _ rfl (A6 _) .nil)))) (by decide) (.cons _ _ _ _ _ rfl (KV (by rfl) _ _ _ _ _) (.cons _ _ _ _ _ rfl (K0 _ _ _) .nil)) (Q5 f q d n0 i dir name a.2 cap cap1 hf hq hdq om hn0 yk yz) ?_);rintro r bc tc ⟨rfl,rfl,rfl⟩;refine⟨rfl,_,(On (Bl rfl) (Bl rfl) (by decide) f q d _ cap cap1 cap1:Back _ [6,7] _ [_,_,_,_,_,_,_,_,_]),?_⟩;refine e_ (?_);refine BD (fun t=>t=⟨look [(8, .bp 3 0),(9, .sl 7 [FE (dir,name,(0,0),a)] none),(10, .v (.int .i64 0))],⟨[Ap f,AB dir,AB a,Ap (f.set q {d with nodes:=d.nodes.set i {n0 with entries:=DP n0.entries name a.2}})],[]⟩⟩) ?_ ?_
 ·refine BJ ([(0,Ap f),(1,AB dir),(2,AB a),(6,DB f q d 7 cap cap1),(7,NB (d.nodes.set i {n0 with entries:=DP n0.entries name a.2}) cap1),(8,[.bs 6 0 2 f.length cap])]) 9 (h:=A9 0 (h:=A9 1 (h:=AE 2 (h:=?_))));refine CE 3 rfl (fun _ hS=>JC (y:= .agg (AB (0,0))) (E3 ⟨rfl,rfl⟩) (by repeat (first|exact A6 _|exact LeA.nil _|exact LeL.refl _|refine LeA.agg ⟨rfl,rfl⟩|refine LeA.tup ⟨rfl,rfl⟩|exact LeL.nil|refine LeL.cons ⟨rfl,rfl⟩ ⟨rfl,rfl⟩|exact LeA.any _)) ⟨rfl,rfl⟩) ?_;refine A9 4 (h:=?_);refine c_ 5 rfl (AX (Ns dir name (0,0) a) ?_);rintro r rfl;refine o_ (h:=Ax 6 (h:=B8 7 (h:=B8 8 (h:=z_ (h:=?_)))));refine AT ?_;exact⟨_,rfl,Jm 4 2 rfl (by show[_,_,_,KQ 4 (Ey 4 _ 2) [.bs 6 0 2 f.length cap]]=_;rw[NE (k:=0) (i:=6) (j:=7) (d:=d) (d':={d with nodes:=d.nodes.set i {n0 with entries:=DP n0.entries name a.2}}) hql rfl (by simp) yk (by simpa using yz) (by decide) (by decide) rfl rfl];rfl) (.cons _ _ _ _ rfl (A6 _) (.cons _ _ _ _ rfl (A6 _) (.cons _ _ _ _ rfl (A6 _) .nil)))⟩
 rintro t rfl;refine BH (?_);refine A4 ?_;rw[FU,if_neg (by omega),if_neg (by simp[kc]),if_neg (by omega),if_neg kg,if_neg kk,if_neg (by simp[km]),hdq,Int.toNat_natCast,KY hq,<-ft];unfold Bk;rw[<-QG (hv.vd d (Aj hq)).asc hn0];rfl
end
theorem QH{f:AR}{dir:A8}{name:AD}{n0:Nod}(hn:C5 f dir=some n0)(hk:n0.kind=2)(h:(AJ f dir name).2=0):∃e,Ek n0.entries name=some e/\AJ f dir name=((dir.1,e.2),0):=by
 unfold AJ at h ⊢;rw[hn]at h ⊢;simp only[hk,if_true]at h ⊢;unfold Ek;split at h
 ·exact absurd h (by decide)
 rename_i e he;exact⟨e,he,rfl⟩
def entS(ns:List Nod)(i:Nat)(n0:Nod)(name:AD)(ino:Int):List Nod:=ns.set i {n0 with entries:=DP n0.entries name ino}
theorem KZ(ns:List Nod)(i:Nat)(n0:Nod)(name:AD)(ino:Int):(entS ns i n0 name ino).length=ns.length:=by simp[entS]
theorem Uq(es:List BQ)(name:AD)(ino:Int):(DP es name ino).length<=es.length+1:=by
 by_cases h:ino=0
 ·subst h;rw[M2];have:(Ga name es).length<=es.length:=List.length_filter_le _ _;omega
 rw[(Mb es name h).length_eq,List.length_cons];have:(Ga name es).length<=es.length:=List.length_filter_le _ _;omega
theorem FlsB.set_{f:AR}(hf:FlsB f){q:Nat}{d':Dvc}(hn:d'.nodes.length<=1000)(he:∀n∈d'.nodes,n.entries.length<=1000):FlsB (f.set q d'):=by
 refine⟨by simpa using hf.few,fun d hd=>?_,fun d hd n hn'=>?_⟩
 ·rcases List.mem_or_eq_of_mem_set hd with h|h
  ·exact hf.nodes d h
  rw[h];exact hn
 rcases List.mem_or_eq_of_mem_set hd with h|h
 ·exact hf.ents d h n hn'
 subst h;exact he n hn'
theorem FlsV.entS{f:AR}(hv:FlsV f){q:Nat}{d:Dvc}(hq:f[q]?=some d){i:Nat}{n0:Nod}(hn:d.nodes[i]?=some n0)(name:AD)(ino:Int):FlsB (f.set q {d with nodes:=entS d.nodes i n0 name ino}):=by
 have hd:=hv.vd d (Aj hq);refine hv.b.set_ ?_ ?_
 ·show(Go.Proofs.YtbgnigjfkbmceaaGreatDoor.entS d.nodes i n0 name ino).length<=1000;rw[KZ];have:=hd.len;omega
 intro m hm;rcases List.mem_or_eq_of_mem_set hm with h|h
 ·have:=hd.many m h;omega
 rw[h];have:=Uq n0.entries name ino;have:=hd.many n0 (Aj hn);show(DP n0.entries name ino).length<=1000;omega
theorem Oo{d:Dvc}(hd:VD d){i:Nat}{n0:Nod}(hn:d.nodes[i]?=some n0)(name:AD)(ino:Int):entS d.nodes i n0 name ino=Bk d.nodes n0.ino name ino:=by
 unfold entS Bk;rw[<-QG hd.asc hn];rfl
theorem Yf{f:AR}{a:A8}{q:Nat}{d:Dvc}(ha:a.1=(q:Int))(hq:f[q]?=some d):L4 f a=if(d.nodes.any fun n=>n.ino==a.2)then Br a.2 d.nodes else 0:=by
 unfold L4 C5;rw[ha,Nn,hq];simp only
 cases h:d.nodes.find? (fun n=>n.ino==a.2)with
 |none=>
   have:d.nodes.any (fun n=>n.ino==a.2)=false:=by
    rw[List.any_eq_false];exact List.find?_eq_none.1 h
   simp[this]
 |some n=>
   have:d.nodes.any (fun n=>n.ino==a.2)=true:=by
    have h2:=List.find?_some h;exact List.any_eq_true.2 ⟨n,List.mem_of_find?_eq_some h,h2⟩
   simp[this]
theorem lM{f:AR}{a:A8}{q:Nat}{d:Dvc}(ha:a.1=(q:Int))(hq:f[q]?=some d)(hl:0<L4 f a):CK d.nodes a.2=d.nodes:=by
 rw[Yf ha hq]at hl;split at hl
 ·unfold CK;rw[List.filter_eq_self];intro m _;exact decide_eq_true (.inr hl)
 omega
theorem drop_zero{f:AR}{a:A8}{q:Nat}{d:Dvc}(ha:a.1=(q:Int))(hq:f[q]?=some d)(hl:L4 f a=0):CK d.nodes a.2=E8 a.2 d.nodes:=by
 rw[Yf ha hq]at hl;unfold CK E8;apply List.filter_congr;intro m hm;split at hl
 ·rw[hl,Bool.eq_iff_iff];simp
 rename_i h
 have hne:m.ino≠a.2:=by
  intro e;exact h (List.any_eq_true.2 ⟨m,hm,by simpa using e⟩)
 rw[Bool.eq_iff_iff];simp[hne]
theorem Ur{ns:List Nod}{m:Nod}{i:Int}(hm:m∈ns)(h:m.ino≠i):0<(E8 i ns).length:=List.length_pos_of_mem (List.mem_filter.2 ⟨hm,by simpa using h⟩)
theorem Yg{d:Dvc}(hd:VD d){i:Nat}{n0:Nod}(hn:d.nodes[i]?=some n0)(name:AD)(ino:Int):∃m∈entS d.nodes i n0 name ino,m.ino=1:=by
 obtain⟨r,hr,h1,_⟩:=hd.rootMem;rw[Oo hd hn];obtain⟨m,hm,hw⟩:=ND n0.ino name ino hr;exact⟨m,hm,hw.ino.trans h1⟩
theorem Us(f:AR)(q:Nat)(d d':Dvc)(a:A8)(cap cap1:Nat)(hf:FlsB (f.set q d'))(hq:q<f.length)(ha:a.1=(q:Int))(hcap:f.length<=cap)(hcap1:d'.nodes.length<=cap1)(hne:0<(E8 a.2 d'.nodes).length)(hn:d'.next=d.next)(hl:d'.nodes.length=d.nodes.length):
    ACall prog 234 [.agg [.bs 0 0 2 f.length cap], .agg (AB a)] [DB f q d 1 cap cap1,NB d'.nodes cap1] (fun r b t=>t=[]/\r= .tup []/\((CK d'.nodes a.2=d'.nodes/\b=[DB f q d 1 cap cap1,NB d'.nodes cap1,[.bs 0 0 2 f.length cap],AB a])\/(CK d'.nodes a.2=E8 a.2 d'.nodes/\∃cap2,(E8 a.2 d'.nodes).length<=cap2/\b=[DB f q {d' with nodes:=E8 a.2 d'.nodes} 4 cap cap2,NB d'.nodes cap1,[.bs 0 0 2 f.length cap],AB a,NB (E8 a.2 d'.nodes) cap2]))):=by
 have hq':(f.set q d')[q]?=some d':=by simp[hq]
 have key:=l8 (f.set q d') q d' a cap cap1 hf hq' ha (by simpa using hcap) hcap1 hne;rw[List.length_set,<-Ye hn hl]at key;refine key.mono fun r b t ⟨h1,h2,h3⟩=>⟨h1,h2,?_⟩;rcases h3 with⟨h4,h5⟩|⟨h4,cap2,h5,h6⟩
 ·exact .inl ⟨lM ha hq' h4,h5⟩
 refine .inr ⟨drop_zero ha hq' h4,cap2,h5,?_⟩;rw[UT]at h6;exact h6
def JL(f:AR)(dir:A8)(name:AD):Fj:=
 if Cr f dir name≠0 then([],[],Cr f dir name)else if(AJ f dir name).2≠0 then([],[],(AJ f dir name).2)else if AU f (AJ f dir name).1=true then([],[],21)else
 (K1 f dir.1.toNat fun ns=>CK (Bk ns dir.2 name 0) (AJ f dir name).1.2,[(dir,name,(AJ f dir name).1,(0,0))],0)
def Hc(f:AR)(dir:A8)(name:AD):Fj:=
 if Cr f dir name≠0 then([],[],Cr f dir name)else if(AJ f dir name).2≠0 then([],[],(AJ f dir name).2)else if AU f (AJ f dir name).1=false then([],[],20)else if N2 f (AJ f dir name).1=false then([],[],39)else
 (K1 f dir.1.toNat fun ns=>CK (Bk ns dir.2 name 0) (AJ f dir name).1.2,[(dir,name,(AJ f dir name).1,(0,0))],0)
section
theorem lN(f:AR)(dir:A8)(name:AD)(hv:FlsV f)(hs:name.size<=100000):AFn prog 173 [.agg (Ap f), .agg (AB dir), .v (.string name)] (fun r=>r=Cs (JL f dir name)):=by
 have hf:=hv.b;refine enter Tryz.func173 rfl rfl rfl rfl rfl 0 rfl ?_;refine Ef (h:=a_ (h:=Ay (h:=q_ (J2 (h:=?_)))));refine AK (OY f dir name hf hs) ?_;refine Gs (h:=?_);refine A3 rfl (fun kd ka=>?_) (fun kd ka=>?_)
 ·refine w_ (MP (h:=DY (h:=?_)));refine AO (r:=Cs (JL f dir name)) none (h5:=?_) (h6:=⟨rfl,rfl,rfl⟩);rw[JL,if_pos (by omega)];exact Em _
 refine AG (J2 (h:=?_));refine AK (LV f dir name hf) ?_;refine Js (h:=?_);refine A3 rfl (fun ke kc=>?_) (fun ke kc=>?_)
 ·refine w_ (MP (h:=DY (h:=?_)));refine AO (r:=Cs (JL f dir name)) none (h5:=?_) (h6:=⟨rfl,rfl,rfl⟩);rw[JL,if_neg (by omega),if_pos (by omega)];exact Em _
 have hlk:(AJ f dir name).2=0:=by omega
 refine FA (h:=C9 (h:=?_));refine AK (LT f (AJ f dir name).1 hf) ?_;refine e_ (?_);refine A3 rfl (fun kh kf=>?_) (fun kh kf=>?_)
 ·refine Fh (h:=?_);refine AO (r:=Cs (JL f dir name)) none (h5:=?_) (h6:=⟨rfl,rfl,rfl⟩);rw[JL,if_neg (by omega),if_neg (by omega),if_pos kf];exact Em _
 obtain⟨q,i,d,n0,hdq,hq,hn0,ft,om,fg,hk0,hnm⟩:=L9 (name:=name) (dir:=dir) (f:=f) (by omega);have hil:=(AZ.1 hn0).1;have hql:=(AZ.1 hq).1;have hvd:=hv.vd d (Aj hq);obtain⟨e,he,hle⟩:=QH fg hk0 hlk;have hat1:(AJ f dir name).1.1=(q:Int):=by rw[hle];exact hdq
 have pu:(AJ f dir name).1.2≠1:=by rw[hle];exact(hvd.ent n0 (Aj hn0) e (LX he).1).2.1
 have hxl:(entS d.nodes i n0 name 0).length=d.nodes.length:=KZ _ _ _ _ _
 have hkp:0<(E8 (AJ f dir name).1.2 (entS d.nodes i n0 name 0)).length:=by
  obtain⟨m,hm,hm1⟩:=Yg hvd hn0 name 0;exact Ur hm (by rw[hm1];exact pu.symm)
 refine AG (Bw (h:=?_));refine A7 (Bo [] rfl (.cons _ _ _ _ _ rfl (A6 _) .nil) (by decide) .nil (Og f q d hf hq (by omega)) ?_);rintro r bc tc ⟨rfl,cap,cap1,yk,yz,rfl,rfl⟩;refine⟨rfl,_,(Om (n:=4) rfl f q d d.nodes cap cap1:Back _ [] _ [_,_,_,_,_,_]),?_⟩;refine CP (h:=J2 (h:=?_));refine A7 (Bo [4,5] rfl (.cons _ _ _ _ _ rfl (A6 _) (.cons _ _ _ _ _ rfl (A6 _) (.cons _ _ _ _ _ rfl (A6 _) (.cons _ _ _ _ _ rfl (A6 _) .nil)))) (by decide) (.cons _ _ _ _ _ rfl (KV (by rfl) _ _ _ _ _) (.cons _ _ _ _ _ rfl (K0 _ _ _) .nil)) (Q5 f q d n0 i dir name 0 cap cap1 hf hq hdq om hn0 yk yz) ?_);rintro r bc tc ⟨rfl,rfl,rfl⟩;refine⟨rfl,_,(On (Bl rfl) (Bl rfl) (by decide) f q d (entS d.nodes i n0 name 0) cap cap1 cap1:Back _ [4,5] _ [_,_,_,_,_,_,_]),?_⟩;refine e_ (C9 (h:=?_));refine A7 (Bo [4,5] rfl (.cons _ _ _ _ _ rfl (A6 _) (.cons _ _ _ _ _ rfl (A6 _) .nil)) (by decide) (.cons _ _ _ _ _ rfl (KV (by rfl) _ _ _ _ _) (.cons _ _ _ _ _ rfl (K0 _ _ _) .nil)) (Us f q d {d with nodes:=entS d.nodes i n0 name 0} (AJ f dir name).1 cap cap1 (hv.entS hq hn0 name 0) hql hat1 yk (by rw[KZ];exact yz) hkp rfl hxl) ?_);rintro r bc tc ⟨rfl,rfl,⟨hns,rfl⟩|⟨hns,cap2,hcap2,rfl⟩⟩
 ·refine⟨rfl,_,(Up (n:=7) rfl (by decide) (by decide) (by decide) f q d (entS d.nodes i n0 name 0) (AJ f dir name).1 f.length cap cap cap1 cap1:Back _ [4,5] _ [_,_,_,_,_,_,_,_,_]),?_⟩;have hx1:(entS d.nodes i n0 name 0).length<=cap1:=by omega
  refine e_ (?_);refine BD (fun t=>t=⟨look [(6, .bp 2 0),(7, .sl 7 [FE (dir,name,(AJ f dir name).1,(0,0))] none),(8, .v (.int .i64 0))],⟨[Ap f,AB dir,Ap (f.set q {d with nodes:=CK (entS d.nodes i n0 name 0) (AJ f dir name).1.2})],[]⟩⟩) ?_ ?_
  ·refine BJ ([(0,Ap f),(1,AB dir),(3,AB (AJ f dir name).1),(6,[.bs 4 0 2 f.length cap])]) 9 (h:=A9 0 (h:=A9 1 (h:=AE 2 (h:=A9 3 (h:=?_)))));refine CE 4 rfl (fun _ hS=>JC (y:= .agg (AB (0,0))) (E3 ⟨rfl,rfl⟩) (by repeat (first|exact A6 _|exact LeA.nil _|exact LeL.refl _|refine LeA.agg ⟨rfl,rfl⟩|refine LeA.tup ⟨rfl,rfl⟩|exact LeL.nil|refine LeL.cons ⟨rfl,rfl⟩ ⟨rfl,rfl⟩|exact LeA.any _)) ⟨rfl,rfl⟩) ?_;refine c_ 5 rfl (AX (Ns dir name (AJ f dir name).1 (0,0)) ?_);rintro r rfl;refine o_ (h:=Ax 6 (h:=B8 7 (h:=B8 8 (h:=z_ (h:=?_)))));refine AT ?_;refine⟨_,rfl,?_⟩;rw[show CK (entS d.nodes i n0 name 0) (AJ f dir name).1.2=_ from hns];exact Jm 3 2 rfl (congrArg (fun x=>[Ap f,AB dir,x]) (NE (k:=0) (i:=4) (j:=5) (d:=d) (d':={d with nodes:=entS d.nodes i n0 name 0}) hql rfl hxl yk hx1 (Bl rfl) (Bl rfl) rfl rfl)) (.cons _ _ _ _ rfl (A6 _) (.cons _ _ _ _ rfl (A6 _) (.cons _ _ _ _ rfl (A6 _) .nil)))
  rintro t rfl;refine BH (?_);refine A4 ?_;rw[JL,if_neg (by omega),if_neg (by omega),if_neg (by simp[kf]),hdq,Int.toNat_natCast,KY hq,<-ft,<-Oo (hv.vd d (Aj hq)) hn0];rfl
 refine⟨rfl,_,(Uo (n:=7) rfl (by decide) (by decide) (by decide) f q {d with nodes:=E8 (AJ f dir name).1.2 (entS d.nodes i n0 name 0)} (entS d.nodes i n0 name 0) (E8 (AJ f dir name).1.2 (entS d.nodes i n0 name 0)) (AJ f dir name).1 f.length cap cap cap1 cap2:Back _ [4,5] _ [_,_,_,_,_,_,_,_,_,_]),?_⟩;refine e_ (?_);refine BD (fun t=>t=⟨look [(6, .bp 2 0),(7, .sl 7 [FE (dir,name,(AJ f dir name).1,(0,0))] none),(8, .v (.int .i64 0))],⟨[Ap f,AB dir,Ap (f.set q {d with nodes:=CK (entS d.nodes i n0 name 0) (AJ f dir name).1.2})],[]⟩⟩) ?_ ?_
 ·refine BJ ([(0,Ap f),(1,AB dir),(3,AB (AJ f dir name).1),(6,[.bs 4 0 2 f.length cap])]) 9 (h:=A9 0 (h:=A9 1 (h:=AE 2 (h:=A9 3 (h:=?_)))));refine CE 4 rfl (fun _ hS=>JC (y:= .agg (AB (0,0))) (E3 ⟨rfl,rfl⟩) (by repeat (first|exact A6 _|exact LeA.nil _|exact LeL.refl _|refine LeA.agg ⟨rfl,rfl⟩|refine LeA.tup ⟨rfl,rfl⟩|exact LeL.nil|refine LeL.cons ⟨rfl,rfl⟩ ⟨rfl,rfl⟩|exact LeA.any _)) ⟨rfl,rfl⟩) ?_;refine c_ 5 rfl (AX (Ns dir name (AJ f dir name).1 (0,0)) ?_);rintro r rfl;refine o_ (h:=Ax 6 (h:=B8 7 (h:=B8 8 (h:=z_ (h:=?_)))));refine AT ?_;refine⟨_,rfl,?_⟩;rw[show CK (entS d.nodes i n0 name 0) (AJ f dir name).1.2=_ from hns];exact Jm 3 2 rfl (congrArg (fun x=>[Ap f,AB dir,x]) (NE (k:=0) (i:=4) (j:=9) (d:={d with nodes:=E8 (AJ f dir name).1.2 (entS d.nodes i n0 name 0)}) (d':={d with nodes:=E8 (AJ f dir name).1.2 (entS d.nodes i n0 name 0)}) hql rfl rfl yk hcap2 (Bl rfl) (Bl rfl) rfl rfl)) (.cons _ _ _ _ rfl (A6 _) (.cons _ _ _ _ rfl (A6 _) (.cons _ _ _ _ rfl (A6 _) .nil)))
 rintro t rfl;refine BH (?_);refine A4 ?_;rw[JL,if_neg (by omega),if_neg (by omega),if_neg (by simp[kf]),hdq,Int.toNat_natCast,KY hq,<-ft,<-Oo (hv.vd d (Aj hq)) hn0];rfl
theorem lO(f:AR)(dir:A8)(name:AD)(hv:FlsV f)(hs:name.size<=100000):AFn prog 174 [.agg (Ap f), .agg (AB dir), .v (.string name)] (fun r=>r=Cs (Hc f dir name)):=by
 have hf:=hv.b;refine enter Tryz.func174 rfl rfl rfl rfl rfl 0 rfl ?_;refine Ef (h:=a_ (h:=Ay (h:=q_ (J2 (h:=?_)))));refine AK (OY f dir name hf hs) ?_;refine Gs (h:=?_);refine A3 rfl (fun kd ka=>?_) (fun kd ka=>?_)
 ·refine w_ (MP (h:=DY (h:=?_)));refine AO (r:=Cs (Hc f dir name)) none (h5:=?_) (h6:=⟨rfl,rfl,rfl⟩);rw[Hc,if_pos (by omega)];exact Em _
 refine AG (J2 (h:=?_));refine AK (LV f dir name hf) ?_;refine Js (h:=?_);refine A3 rfl (fun ke kc=>?_) (fun ke kc=>?_)
 ·refine w_ (MP (h:=DY (h:=?_)));refine AO (r:=Cs (Hc f dir name)) none (h5:=?_) (h6:=⟨rfl,rfl,rfl⟩);rw[Hc,if_neg (by omega),if_pos (by omega)];exact Em _
 have hlk:(AJ f dir name).2=0:=by omega
 refine FA (h:=C9 (h:=?_));refine AK (LT f (AJ f dir name).1 hf) ?_;refine CY (h:=?_);refine A3 rfl (fun kh kf=>?_) (fun kh kf=>?_)
 ·refine Fh (h:=?_);refine AO (r:=Cs (Hc f dir name)) none (h5:=?_) (h6:=⟨rfl,rfl,rfl⟩);rw[Hc,if_neg (by omega),if_neg (by omega),if_pos kf];exact Em _
 refine FA (h:=C9 (h:=?_));refine AK (XZ f (AJ f dir name).1 hf) ?_;refine CY (h:=?_);refine A3 rfl (fun kl kg=>?_) (fun kl kg=>?_)
 ·refine Fh (h:=?_);refine AO (r:=Cs (Hc f dir name)) none (h5:=?_) (h6:=⟨rfl,rfl,rfl⟩);rw[Hc,if_neg (by omega),if_neg (by omega),if_neg (by simp[kf]),if_pos kg];exact Em _
 obtain⟨q,i,d,n0,hdq,hq,hn0,ft,om,fg,hk0,hnm⟩:=L9 (name:=name) (dir:=dir) (f:=f) (by omega);have hil:=(AZ.1 hn0).1;have hql:=(AZ.1 hq).1;have hvd:=hv.vd d (Aj hq);obtain⟨e,he,hle⟩:=QH fg hk0 hlk;have hat1:(AJ f dir name).1.1=(q:Int):=by rw[hle];exact hdq
 have pu:(AJ f dir name).1.2≠1:=by rw[hle];exact(hvd.ent n0 (Aj hn0) e (LX he).1).2.1
 have hxl:(entS d.nodes i n0 name 0).length=d.nodes.length:=KZ _ _ _ _ _
 have hkp:0<(E8 (AJ f dir name).1.2 (entS d.nodes i n0 name 0)).length:=by
  obtain⟨m,hm,hm1⟩:=Yg hvd hn0 name 0;exact Ur hm (by rw[hm1];exact pu.symm)
 refine AG (Bw (h:=?_));refine A7 (Bo [] rfl (.cons _ _ _ _ _ rfl (A6 _) .nil) (by decide) .nil (Og f q d hf hq (by omega)) ?_);rintro r bc tc ⟨rfl,cap,cap1,yk,yz,rfl,rfl⟩;refine⟨rfl,_,(Om (n:=4) rfl f q d d.nodes cap cap1:Back _ [] _ [_,_,_,_,_,_]),?_⟩;refine CP (h:=J2 (h:=?_));refine A7 (Bo [4,5] rfl (.cons _ _ _ _ _ rfl (A6 _) (.cons _ _ _ _ _ rfl (A6 _) (.cons _ _ _ _ _ rfl (A6 _) (.cons _ _ _ _ _ rfl (A6 _) .nil)))) (by decide) (.cons _ _ _ _ _ rfl (KV (by rfl) _ _ _ _ _) (.cons _ _ _ _ _ rfl (K0 _ _ _) .nil)) (Q5 f q d n0 i dir name 0 cap cap1 hf hq hdq om hn0 yk yz) ?_);rintro r bc tc ⟨rfl,rfl,rfl⟩;refine⟨rfl,_,(On (Bl rfl) (Bl rfl) (by decide) f q d (entS d.nodes i n0 name 0) cap cap1 cap1:Back _ [4,5] _ [_,_,_,_,_,_,_]),?_⟩;refine e_ (C9 (h:=?_));refine A7 (Bo [4,5] rfl (.cons _ _ _ _ _ rfl (A6 _) (.cons _ _ _ _ _ rfl (A6 _) .nil)) (by decide) (.cons _ _ _ _ _ rfl (KV (by rfl) _ _ _ _ _) (.cons _ _ _ _ _ rfl (K0 _ _ _) .nil)) (Us f q d {d with nodes:=entS d.nodes i n0 name 0} (AJ f dir name).1 cap cap1 (hv.entS hq hn0 name 0) hql hat1 yk (by rw[KZ];exact yz) hkp rfl hxl) ?_);rintro r bc tc ⟨rfl,rfl,⟨hns,rfl⟩|⟨hns,cap2,hcap2,rfl⟩⟩
 ·refine⟨rfl,_,(Up (n:=7) rfl (by decide) (by decide) (by decide) f q d (entS d.nodes i n0 name 0) (AJ f dir name).1 f.length cap cap cap1 cap1:Back _ [4,5] _ [_,_,_,_,_,_,_,_,_]),?_⟩;have hx1:(entS d.nodes i n0 name 0).length<=cap1:=by omega
  refine e_ (?_);refine BD (fun t=>t=⟨look [(6, .bp 2 0),(7, .sl 7 [FE (dir,name,(AJ f dir name).1,(0,0))] none),(8, .v (.int .i64 0))],⟨[Ap f,AB dir,Ap (f.set q {d with nodes:=CK (entS d.nodes i n0 name 0) (AJ f dir name).1.2})],[]⟩⟩) ?_ ?_
  ·refine BJ ([(0,Ap f),(1,AB dir),(3,AB (AJ f dir name).1),(6,[.bs 4 0 2 f.length cap])]) 9 (h:=A9 0 (h:=A9 1 (h:=AE 2 (h:=A9 3 (h:=?_)))));refine CE 4 rfl (fun _ hS=>JC (y:= .agg (AB (0,0))) (E3 ⟨rfl,rfl⟩) (by repeat (first|exact A6 _|exact LeA.nil _|exact LeL.refl _|refine LeA.agg ⟨rfl,rfl⟩|refine LeA.tup ⟨rfl,rfl⟩|exact LeL.nil|refine LeL.cons ⟨rfl,rfl⟩ ⟨rfl,rfl⟩|exact LeA.any _)) ⟨rfl,rfl⟩) ?_;refine c_ 5 rfl (AX (Ns dir name (AJ f dir name).1 (0,0)) ?_);rintro r rfl;refine o_ (h:=Ax 6 (h:=B8 7 (h:=B8 8 (h:=z_ (h:=?_)))));refine AT ?_;refine⟨_,rfl,?_⟩;rw[show CK (entS d.nodes i n0 name 0) (AJ f dir name).1.2=_ from hns];exact Jm 3 2 rfl (congrArg (fun x=>[Ap f,AB dir,x]) (NE (k:=0) (i:=4) (j:=5) (d:=d) (d':={d with nodes:=entS d.nodes i n0 name 0}) hql rfl hxl yk hx1 (Bl rfl) (Bl rfl) rfl rfl)) (.cons _ _ _ _ rfl (A6 _) (.cons _ _ _ _ rfl (A6 _) (.cons _ _ _ _ rfl (A6 _) .nil)))
  rintro t rfl;refine BH (?_);refine A4 ?_;rw[Hc,if_neg (by omega),if_neg (by omega),if_neg (by simp[kf]),if_neg (by simp[kg]),hdq,Int.toNat_natCast,KY hq,<-ft,<-Oo (hv.vd d (Aj hq)) hn0];rfl
 refine⟨rfl,_,(Uo (n:=7) rfl (by decide) (by decide) (by decide) f q {d with nodes:=E8 (AJ f dir name).1.2 (entS d.nodes i n0 name 0)} (entS d.nodes i n0 name 0) (E8 (AJ f dir name).1.2 (entS d.nodes i n0 name 0)) (AJ f dir name).1 f.length cap cap cap1 cap2:Back _ [4,5] _ [_,_,_,_,_,_,_,_,_,_]),?_⟩;refine e_ (?_);refine BD (fun t=>t=⟨look [(6, .bp 2 0),(7, .sl 7 [FE (dir,name,(AJ f dir name).1,(0,0))] none),(8, .v (.int .i64 0))],⟨[Ap f,AB dir,Ap (f.set q {d with nodes:=CK (entS d.nodes i n0 name 0) (AJ f dir name).1.2})],[]⟩⟩) ?_ ?_
 ·refine BJ ([(0,Ap f),(1,AB dir),(3,AB (AJ f dir name).1),(6,[.bs 4 0 2 f.length cap])]) 9 (h:=A9 0 (h:=A9 1 (h:=AE 2 (h:=A9 3 (h:=?_)))));refine CE 4 rfl (fun _ hS=>JC (y:= .agg (AB (0,0))) (E3 ⟨rfl,rfl⟩) (by repeat (first|exact A6 _|exact LeA.nil _|exact LeL.refl _|refine LeA.agg ⟨rfl,rfl⟩|refine LeA.tup ⟨rfl,rfl⟩|exact LeL.nil|refine LeL.cons ⟨rfl,rfl⟩ ⟨rfl,rfl⟩|exact LeA.any _)) ⟨rfl,rfl⟩) ?_;refine c_ 5 rfl (AX (Ns dir name (AJ f dir name).1 (0,0)) ?_);rintro r rfl;refine o_ (h:=Ax 6 (h:=B8 7 (h:=B8 8 (h:=z_ (h:=?_)))));refine AT ?_;refine⟨_,rfl,?_⟩;rw[show CK (entS d.nodes i n0 name 0) (AJ f dir name).1.2=_ from hns];exact Jm 3 2 rfl (congrArg (fun x=>[Ap f,AB dir,x]) (NE (k:=0) (i:=4) (j:=9) (d:={d with nodes:=E8 (AJ f dir name).1.2 (entS d.nodes i n0 name 0)}) (d':={d with nodes:=E8 (AJ f dir name).1.2 (entS d.nodes i n0 name 0)}) hql rfl rfl yk hcap2 (Bl rfl) (Bl rfl) rfl rfl)) (.cons _ _ _ _ rfl (A6 _) (.cons _ _ _ _ rfl (A6 _) (.cons _ _ _ _ rfl (A6 _) .nil)))
 rintro t rfl;refine BH (?_);refine A4 ?_;rw[Hc,if_neg (by omega),if_neg (by omega),if_neg (by simp[kf]),if_neg (by simp[kg]),hdq,Int.toNat_natCast,KY hq,<-ft,<-Oo (hv.vd d (Aj hq)) hn0];rfl
end
section
variable {P:Program}{N:Dim}{ops:Array Oper}{Q:Exit->AS->Prop}{S:AH->Prop}{tl:Nat}
def Yh(ops:Array Oper)(tl:Nat):Bool:=Qo ops tl
end
section
variable {P:Program}{N:Dim}{Q:Exit->AS->Prop}{l:List Oper}{S:AH->Prop}{tl:Nat}{fuel:Nat}{listed:Array Bool}{m:List (Nat×AV)}{h:AH}{op:Op}{ty:TypeId}{pos:String}{af:Array Edge}{gd:Option (Nat×Bool)}
theorem lP{i d:Nat}{x:AV}(hi:l[i]?=some ⟨some d,op,ty,pos,af,gd⟩)(hd:Nat.blt d N.n=true)(htl:(Yh l.toArray tl&&Qn l.toArray listed&& !Nat.ble tl i&&Region.free .any l.toArray listed i&&(Region.ready .any l.toArray listed).contains i)=true)
    (hw:Cv l.toArray (look m) ⟨some d,op,ty,pos,af,gd⟩=some true) (hst:∀h,S h->AStep P ⟨some d,op,ty,pos,af,gd⟩ (CD (look m)) h (fun x' h'=>x'=x/\h'=h)) (hS:S h)
    (H:AAny P N l.toArray Q S tl fuel (listed.setIfInBounds i true) ⟨look ((d,x)::m),h⟩):AAny P N l.toArray Q S tl (fuel+1) listed ⟨look m,h⟩:=by
 simp only[Bool.and_eq_true,Bool.not_eq_true']at htl;obtain⟨⟨⟨⟨t1,t0⟩,t2⟩,t3⟩,t4⟩:=htl;exact AAny.first3 (oi:=⟨some d,op,ty,pos,af,gd⟩) (Ln hi) hd t1 t2 fuel listed ⟨look m,h⟩ (WM t0) (Region.free_spec (Ln hi) t3) (List.contains_iff_mem.1 t4) (.inl ⟨hw,hst⟩) hS H
end
theorem J6{P:Program}{N:Dim}{Q:Exit->AS->Prop}{l:List Oper}{S:AH->Prop}{tl:Nat}{fuel:Nat}{listed:Array Bool}{m:List (Nat×AV)}{h:AH}{op:Op}{ty:TypeId}{pos:String}{af:Array Edge}{gd:Option (Nat×Bool)}(i:Nat){d:Nat}{x:AV}(hi:l[i]?=some ⟨some d,op,ty,pos,af,gd⟩)(hst:∀h,S h->AStep P ⟨some d,op,ty,pos,af,gd⟩ (CD (look m)) h (fun x' h'=>x'=x/\h'=h))(H:AAny P N l.toArray Q S tl fuel (listed.setIfInBounds i true) ⟨look ((d,x)::m),h⟩)(hd:Nat.blt d N.n=true:=by rfl)(htl:(Yh l.toArray tl&&Qn l.toArray listed&& !Nat.ble tl i&&Region.free .any l.toArray listed i&&(Region.ready .any l.toArray listed).contains i)=true:=by kernel_rfl)(hw:Cv l.toArray (look m) ⟨some d,op,ty,pos,af,gd⟩=some true:=by first|rfl|exact Ag rfl rfl (CM ‹_›)|exact Ag rfl rfl (CN ‹_›)|exact Ag rfl rfl (by simp[*]))(hS:S h:=by repeat (first|exact OT _|refine OU rfl ?_)):AAny P N l.toArray Q S tl (fuel+1) listed ⟨look m,h⟩:=lP hi hd htl hw hst hS H
end
end Go.Proofs.YtbgnigjfkbmceaaGreatDoor
