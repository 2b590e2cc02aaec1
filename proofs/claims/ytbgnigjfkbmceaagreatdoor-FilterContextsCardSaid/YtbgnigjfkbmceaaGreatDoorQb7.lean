/-
  Part 7 of the proof of FilterContextsP: what the statement's proof uses of the texts in wip/tpl.
-/
import Derived.Maps.AppendAt
import Derived.OwnWalk
import Derived.Lib.Strings
import Derived.Lib.IndexLaws
import Derived.Lib.LastIndexByte
import Derived.Lib.IndexAny
import Derived.Lib.Hide
import Derived.Test.YtbgnigjfkbmceaaGreatDoorProg
import Derived.WalkKit
import Derived.WalkSpells
import Derived.WalkLawsBesides
import Derived.Deep.QuietTactic
import Derived.BigQuiet
import Derived.Outline
import Derived.Test.YtbgnigjfkbmceaaGreatDoorQb6
open Go.Proofs.Tryz (prog)
set_option maxRecDepth 10000
set_option maxHeartbeats 4000000
set_option linter.unusedVariables false
set_option linter.unusedSimpArgs false
namespace Go.Proofs.YtbgnigjfkbmceaaGreatDoor.Old
open Go.RowKit
def flat{α:Type}(sz:Nat)(cell:α→Nat→Value)(xs:List α):List Value:=xs.flatMap fun x=>(List.range sz).map (cell x)
section
variable {α:Type}{sz:Nat}{cell:α→Nat→Value}
theorem flat_length(xs:List α):(flat sz cell xs).length=xs.length * sz:=by
 induction xs with
 |nil=>simp[flat]
 |cons x xs ih=>
   unfold flat at ih ⊢;rw[List.flatMap_cons,List.length_append,ih];simp[Nat.add_mul,Nat.add_comm]
theorem Wu(xs ys:List α):flat sz cell (xs++ys)=flat sz cell xs++flat sz cell ys:=by simp[flat]
theorem flat_get(xs:List α):∀(i j:Nat) (x:α),xs[i]?=some x→j<sz→(flat sz cell xs)[i * sz+j]?=some (cell x j):=by
 induction xs with
 |nil=>intro i j x h;simp at h
 |cons y ys ih=>
   intro i j x h hj;have e:flat sz cell (y::ys)=(List.range sz).map (cell y)++flat sz cell ys:=by simp[flat]
   rw[e]
   cases i with
   |zero=>
     simp at h;subst h;rw[CT (by simpa using hj)];simp[hj]
   |succ i=>
     rw[DC (by simp[Nat.add_mul];omega)];simp only[List.getElem?_cons_succ]at h;have:=ih i j x h hj;rw[←this]
     congr 1
     simp[Nat.add_mul];omega
theorem SL(xs:List α)(hsz:0<sz){k:Nat}{u:Value}(h:(flat sz cell xs)[k]?=some u):∃x,xs[k / sz]?=some x∧u=cell x (k % sz):=by
 have hk:k<xs.length * sz:=by
  have:=(Al.1 h).1
  rwa [flat_length]at this
 have hq:k / sz<xs.length:=(Nat.div_lt_iff_lt_mul hsz).2 hk;have hx:xs[k / sz]?=some xs[k / sz]:=BV hq;have:=flat_get (cell:=cell) xs (k / sz) (k % sz) _ hx (Nat.mod_lt _ hsz);rw[Nat.mul_comm,Nat.div_add_mod,h]at this;injection this with this;exact⟨_,hx,this⟩
def Ones(w:World)(v:Value):Prop:=∀(g:Nat) (cs:Array Value) (t:TypeId),v.ownBlock=some g→w.heap[g]?=some (.cells cs t (0,0))→∀u∈cs.toList,u.oneCell'=true
theorem Ones.of_block{w w':World}{v:Value}(h:Ones w v)(hb:∀g,v.ownBlock=some g→w'.heap[g]?=w.heap[g]?):Ones w' v:=fun g cs t hg hc=>h g cs t hg ((hb g hg).symm.trans hc)
theorem Ones.nil_(w:World):Ones w (.slice none 0 0):=fun g cs t hg=>by simp[Value.ownBlock]at hg
def OwnL(sz:Nat)(cell:α→Nat→Value)(E:TypeId)(w:World)(base:Nat)(v:Value)(xs:List α):Prop:=
 w.ownsRow base E sz v xs.length (flat sz cell xs)∧Ones w v
theorem OwnL.nil_(E:TypeId)(w:World)(base:Nat):OwnL sz cell E w base (.slice none 0 0) []:=⟨World.ownsRow_nil w base E sz,Ones.nil_ w⟩
theorem OwnL.kept{E:TypeId}{w w':World}{base:Nat}{v:Value}{xs:List α}(h:OwnL sz cell E w base v xs){row:Option Nat}(hg:w.grownBy w' row)(hne:v.ownBlock=none∨v.ownBlock≠row):OwnL sz cell E w' base v xs:=by
 refine⟨World.ownsRow.kept h.1 hg hne,h.2.of_block fun g hb=>hg.block g (World.ownsRow.lt h.1 g hb).2 ?_⟩;rcases hne with e|e
 ·rw[e]at hb;cases hb
 rw[←hb];exact e
theorem OwnL.alloc{E:TypeId}{w:World}{base:Nat}{v:Value}{xs:List α}(h:OwnL sz cell E w base v xs)(o:Obj):OwnL sz cell E (w.alloc o) base v xs:=
 ⟨World.ownsRow.alloc h.1 o,h.2.of_block fun g hb=>heap_alloc_old w o (World.ownsRow.lt h.1 g hb).2⟩
theorem OwnL.below{E:TypeId}{w w':World}{base:Nat}{v:Value}{xs:List α}(h:OwnL sz cell E w base v xs)(hb:Below w.heap.size w w'):OwnL sz cell E w' base v xs:=
 h.kept (Kz hb none) (by cases v.ownBlock<;>simp)
theorem OwnL.set_{E:TypeId}{w:World}{base:Nat}{v:Value}{xs:List α}(h:OwnL sz cell E w base v xs){p:Addr}(hp:v.ownBlock≠some p.block)(u:Value):OwnL sz cell E (w.setCell p u) base v xs:=
 h.kept (row:=some p.block) ⟨rfl,rfl,rfl,by simp[World.setCell],fun k _ hne=>Below.heap_setCell w p u k (fun e=>hne (by rw[e]))⟩ (.inr hp)
theorem OwnL.setb{E:TypeId}{w:World}{base:Nat}{v:Value}{xs:List α}(h:OwnL sz cell E w base v xs){p:Addr}(hp:p.block<base)(u:Value):OwnL sz cell E (w.setCell p u) base v xs:=
 h.set_ (fun e=>by have:=(World.ownsRow.lt h.1 _ e).1;omega) u
theorem OwnL.lt{E:TypeId}{w:World}{base:Nat}{v:Value}{xs:List α}(h:OwnL sz cell E w base v xs):∀k,v.ownBlock=some k→base≤k∧k<w.heap.size:=World.ownsRow.lt h.1
theorem OwnL.ne_{E:TypeId}{w:World}{base:Nat}{v:Value}{xs:List α}(h:OwnL sz cell E w base v xs){g:Nat}{t:TypeId}{cs:Array Value}(hg:w.heap[g]?=some (.cells cs t (0,0)))(hne:E≠t):v.ownBlock≠some g:=by
 rcases h.1.2 with⟨rfl,_⟩|⟨g',cap,cur,rfl,_,hh,_⟩
 ·simp[Value.ownBlock]
 intro he;have:g'=g:=by simpa[Value.ownBlock]using he
 subst this;rw[hg]at hh;injection hh with hh;injection hh with _ ht;exact hne ht.symm
theorem OwnL.form{E:TypeId}{w:World}{base:Nat}{v:Value}{xs:List α}(h:OwnL sz cell E w base v xs):∃A c,v= .slice A xs.length c:=by
 rcases h.1.2 with⟨rfl,hn⟩|⟨g,cap,cur,rfl,_⟩
 ·exact⟨none,0,by rw[hn]⟩
 exact⟨_,_,rfl⟩
theorem OwnL.list{E:TypeId}{w:World}{base:Nat}{v:Value}{xs:List α}(h:OwnL sz cell E w base v xs)(hf:xs.length≤few){D:Nat→Prop}(hD:∀b,base≤b→b<w.heap.size→D b):ListR sz cell w D v xs:=by
 rcases h.1.2 with⟨rfl,hn⟩|⟨g,cap,cur,rfl,hb,hg,hnc,_,hcs,htake⟩
 ·obtain rfl:xs=[]:=Ct hn;exact ListR.nil_
 refine⟨_,_,rfl,hnc,hf,fun _=>⟨g,0,rfl,hD g hb (Array.getElem?_eq_some_iff.1 hg).1,fun i x j hi hj=>?_⟩⟩
 have hlt:i * sz+j<xs.length * sz:=by
  have h1:=(Al.1 hi).1;have h2:(i+1) * sz≤xs.length * sz:=Nat.mul_le_mul_right sz h1;rw[Nat.add_mul]at h2;omega
 rw[Nat.zero_add,cell_of_row w g _ cur E (0,0) hg,←flat_get xs i j x hi hj,←htake,List.getElem?_take,if_pos hlt];simp
end
def Gu(T E sz bytes:Nat):Prop:=prog.underlying T=some (.slice E)∧∃i z,prog.info? E=some i∧i.zero=some z∧i.size=sz∧i.bytes=bytes∧z.cells.size=sz∧(z.cells.toList.all (·.oneCell'))=true
theorem P5{T E sz bytes:Nat}{z:Value}(hT:prog.underlying T=some (.slice E))(h:(prog.info? E).map (fun i=>(i.zero,i.size,i.bytes))=some (some z,sz,bytes))(hz:z.cells.size=sz)(h1:(z.cells.toList.all (·.oneCell'))=true):Gu T E sz bytes:=by
 refine⟨hT,?_⟩
 cases hi:prog.info? E with
 |none=>rw[hi]at h;cases h
 |some i=>
   rw[hi]at h;simp only[Option.map_some,Option.some.injEq,Prod.mk.injEq]at h;exact⟨i,z,rfl,h.1,h.2.1,h.2.2,hz,h1⟩
theorem Wv{P:Program}{w:World}{base:Nat}{t ty e:TypeId}{i:TypeInfo}{size:Nat}(ht:P.underlying t=some (.slice e))(hi:P.info? e=some i)
    {v:Value} {n:Nat} {xs:List Value} (hown:w.ownsRow base e size v n xs) (c:Nat):(Builtin.append_ #[t,t] ty #[v, .slice none 0 c]).run P w= .ok v w:=by
 rcases hown.2 with⟨rfl,rfl⟩|⟨g,cap,cur,rfl,_,_,hnc,_⟩
 ·simp[Builtin.append_,run_underlying ht,sizeOf,typeInfo,hi,Builtin.lenOf,Builtin.firstCells]
 simp[Builtin.append_,run_underlying ht,sizeOf,typeInfo,hi,Builtin.lenOf,Builtin.firstCells,hnc,storeCells]
section
variable {α:Type}{sz:Nat}{cell:α→Nat→Value}
theorem SM{z:Array Value}(h:(z.toList.all (·.oneCell'))=true){k:Nat}{u:Value}(hu:u∈Builtin.zeroCells z k):u.oneCell'=true:=by
 simp only[Builtin.zeroCells,Array.mem_map,Array.mem_range]at hu;obtain⟨i,hi2,rfl⟩:=hu
 have hpos:0<z.size:=by
  rcases Nat.eq_zero_or_pos z.size with e|e
  ·rw[e]at hi2;simp at hi2
  exact e
 have hlt:i % z.size<z.size:=Nat.mod_lt _ hpos;rw[getElem!_pos z _ hlt];exact List.all_eq_true.1 h _ (by simp)
set_option maxRecDepth 10000 in
theorem SN{w:World}{T E bytes ty:Nat}(hE:Gu T E sz bytes)(hsz:0<sz)(hby:bytes≤100000){base:Nat}{v:Value}{n:Nat}{xs:List Value}(hown:w.ownsRow base E sz v n xs)(h1:Ones w v)
    (ad:Addr) (m c:Nat) (news:List Value) (hl:news.length=m * sz) (hnews:∀j u,news[j]?=some u→w.cell? (ad.add j)=some u) (hone:∀u∈news,u.oneCell'=true) (hf:n≤1000000) (hm:m≤1000000) {v':Value} {w':World}
    (hrun:(Builtin.append_ #[T,T] ty #[v, .slice (some ad) m c]).run prog w= .ok v' w') (hnil:v'= .slice none 0 0↔v= .slice none 0 0∧m=0):Ones w' v':=by
 obtain⟨ht,i,z,hi,hz,hs,hb,hzs,hz1⟩:=hE;subst hs;have hbb:(n+m) * bytes≤2000000 * 100000:=Nat.mul_le_mul (by omega) hby;rcases hown.2 with⟨rfl,rfl⟩|⟨g,cap,cur,rfl,hbg,hg,hnc,hcm,hcs,htk⟩
 ·rcases Nat.eq_zero_or_pos m with h0|h0
  ·rw[hnil.2 ⟨rfl,h0⟩];exact Ones.nil_ _
  have hr:=run_append_nil (P:=prog) w T ty E i z ht hi hz ad m c news hl hnews h0 (by omega) (by rw[hb];rw[Nat.zero_add]at hbb;omega);have hq:=hrun.symm.trans hr;simp only[Result.ok.injEq]at hq;obtain⟨rfl,rfl⟩:=hq;intro g cs t hgg hc u hu;have:g=w.heap.size:=by simpa[Value.ownBlock]using hgg.symm
  subst this;have hn:=heap_alloc_new w.drew (.cells (news.toArray++Builtin.zeroCells z.cells (grownCap w m 0 E - m)) E);have hn':(w.drew.alloc (.cells (news.toArray++Builtin.zeroCells z.cells (grownCap w m 0 E - m)) E)).heap[w.heap.size]?=some (.cells (news.toArray++Builtin.zeroCells z.cells (grownCap w m 0 E - m)) E):=hn;rw[hn']at hc;injection hc with hc;injection hc with hc _;subst hc;rcases Array.mem_append.1 (Array.mem_toList_iff.1 hu)with h|h
  ·exact hone u (by simpa using h)
  exact SM hz1 h
 have hgc:w.heap[g]?=some (.cells cur.toList.toArray E (0,0)):=by simpa using hg
 by_cases hroom:n+m≤cap
 ·have hfit:n * i.size+news.length≤cur.size:=by
     rw[hcs,hl,←Nat.add_mul];exact Nat.mul_le_mul_right _ hroom
  have hr:=run_append_room_cells (P:=prog) w T ty E i ht hi g 0 n cap ad m c news hl hnews hone hroom (fun j hj=>by
   have:0+n * i.size+j<cur.size:=by omega
   simp only[World.cell?,hg];simp;omega) (fun j hj=>by simp[World.frozen?,hg])
  have hq:=hrun.symm.trans hr;simp only[Result.ok.injEq]at hq;obtain⟨rfl,rfl⟩:=hq;obtain⟨r1,_⟩:=M2 g E news (0+n * i.size) cur.toList w hgc;intro g' cs t hgg hc u hu;have:g'=g:=by simpa[Value.ownBlock]using hgg.symm
  subst this;rw[r1]at hc;injection hc with hc;injection hc with hc _;subst hc;rcases Ka news _ _ u (by simpa using hu)with h|h
  ·exact h1 g' cur E rfl hg u h
  exact hone u h
 have hr:=run_append_grow (P:=prog) w T ty E i z ht hi hz ⟨g,0,none⟩ n cap xs hown.1 (fun j u hj=>by
  rw[Addr.add_mid];simp only[World.cell?,hg];rw[←htk,List.getElem?_take]at hj;split at hj
  ·simpa using hj
  cases hj) ad m c news hl hnews (by omega) (by omega) (growslice_fits (by omega) (by rw[hb];omega))
 have hq:=hrun.symm.trans hr;simp only[Result.ok.injEq]at hq;obtain⟨rfl,rfl⟩:=hq;intro g' cs t hgg hc u hu;have:g'=w.heap.size:=by simpa[Value.ownBlock]using hgg.symm
 subst this;have hn':(w.drew.alloc (.cells (xs.toArray++news.toArray++Builtin.zeroCells z.cells (grownCap w (n+m) cap E - (n+m))) E)).heap[w.heap.size]?=some (.cells (xs.toArray++news.toArray++Builtin.zeroCells z.cells (grownCap w (n+m) cap E - (n+m))) E):=heap_alloc_new w.drew _;rw[hn']at hc;injection hc with hc;injection hc with hc _;subst hc;rcases Array.mem_append.1 (Array.mem_toList_iff.1 hu)with h|h
 ·rcases Array.mem_append.1 h with h|h
  ·have hx:u∈xs:=by simpa using h
   rw[←htk]at hx;exact h1 g cur E rfl hg u (List.mem_of_mem_take hx)
  exact hone u (by simpa using h)
 exact SM hz1 h
theorem Ww{w:World}{T E bytes ty:Nat}(hE:Gu T E sz bytes)(hsz:0<sz)(hby:bytes≤100000){base:Nat}{v sv:Value}{xs ys:List α}{D:Nat→Prop}(hown:OwnL sz cell E w base v xs)(hr:ListR sz cell w D sv ys)
    (h1:∀y∈ys,∀j,j<sz→(cell y j).oneCell'=true) (hf:xs.length≤1000000) (hbase:base≤w.heap.size):
    ∃v' w',(Builtin.append_ #[T,T] ty #[v,sv]).run prog w= .ok v' w'∧OwnL sz cell E w' base v' (xs++ys)∧w.grownBy w' v.ownBlock∧(v'.ownBlock=v.ownBlock∨v'.ownBlock=some w.heap.size):=by
 have hE0:=hE;obtain⟨ht,i,z,hi,hz,hs,hb,hzs,hz1⟩:=hE;obtain⟨A,c,rfl,hlc,hfew,hrow⟩:=hr;unfold few at hfew;rcases Nat.eq_zero_or_pos ys.length with h0|h0
 ·have hy:ys=[]:=Ct h0;subst hy;rcases A with _|ad
  ·exact⟨v,w,Wv ht hi hown.1 c,by simpa using hown,World.grownBy.refl w _, .inl rfl⟩
  obtain⟨v',w',hrun,h2,h3,h4,h5⟩:=run_append_own_at (P:=prog) w base T ty E i z sz bytes ht hi hz hs hb hzs hsz v xs.length _ hown.1 ad 0 c [] (by simp) (by simp) (by simp) (by unfold maxLen;omega) (by
   have:(xs.length+0) * bytes≤1000000 * 100000:=Nat.mul_le_mul (by omega) hby
   omega) hbase
  exact⟨v',w',hrun,⟨by simpa using h2,SN hE0 hsz hby hown.1 hown.2 ad 0 c [] (by simp) (by simp) (by simp) hf (by omega) hrun h4⟩,h3,h5⟩
 obtain⟨b,off,rfl,_,hcell⟩:=hrow h0
 have hcl:∀j u,(flat sz cell ys)[j]?=some u→w.cell? ((⟨b,off,none⟩:Addr).add j)=some u:=by
  intro j u hu;obtain⟨x,hx,rfl⟩:=SL ys hsz hu;have hcl:=hcell _ x (j % sz) hx (Nat.mod_lt _ hsz)
  have hm:off+j / sz * sz+j % sz=off+j:=by
   have:=Nat.div_add_mod j sz;rw[Nat.mul_comm]at this;omega
  rw[hm]at hcl;rw[Addr.add_lit];exact hcl
 have hon:∀u∈flat sz cell ys,u.oneCell'=true:=by
  intro u hu;obtain⟨k,hk⟩:=List.mem_iff_getElem?.1 hu;obtain⟨x,hx,rfl⟩:=SL ys hsz hk;exact h1 x (B1 hx) _ (Nat.mod_lt _ hsz)
 obtain⟨v',w',hrun,h2,h3,h4,h5⟩:=run_append_own_at (P:=prog) w base T ty E i z sz bytes ht hi hz hs hb hzs hsz v xs.length _ hown.1 ⟨b,off,none⟩ ys.length c (flat sz cell ys) (flat_length ys) hcl hon (by unfold maxLen;omega) (by
     have:(xs.length+ys.length) * bytes≤1100000 * 100000:=Nat.mul_le_mul (by omega) hby
     omega) hbase
 exact⟨v',w',hrun,⟨by rw[Wu,List.length_append];exact h2,SN hE0 hsz hby hown.1 hown.2 _ _ c _ (flat_length ys) hcl hon hf (by omega) hrun h4⟩,h3,h5⟩
theorem Wx{w:World}{o:Oper}{a:Act}{K:Act→World→Prop}{Q:Exit→Act→World→Prop}(s x:Operand)(T:TypeId)
    (ho:o.op= .call {callee:= .builtin .append,args:=#[s,x],argTypes:=#[T,T]}) {E bytes:Nat} (hE:Gu T E sz bytes) (hsz:0<sz) (hby:bytes≤100000)
    {base:Nat} {v sv:Value} {xs ys:List α} {D:Nat→Prop} (hs:a.eval s=v) (hx:a.eval x=sv) (hown:OwnL sz cell E w base v xs) (hr:ListR sz cell w D sv ys)
    (h1:∀y∈ys,∀j,j<sz→(cell y j).oneCell'=true) (hf:xs.length≤1000000) (hbase:base≤w.heap.size)
    (h:∀v' w',OwnL sz cell E w' base v' (xs++ys)→w.grownBy w' v.ownBlock→(v'.ownBlock=v.ownBlock∨v'.ownBlock=some w.heap.size)→K (a.put o.dst v') w'):o.wp prog a w K Q:=by
 obtain⟨v',w',hrun,h2,h3,h4⟩:=Ww (ty:=o.type) hE hsz hby hown hr h1 hf hbase;unfold Oper.wp execOp;simp only[ho,resolve,invoke,builtin,Sem.run_bind,Sem.run_pure,Result.andThen_ok,List.map_toArray,List.map_cons,List.map_nil,hs,hx,hrun];exact h v' w' h2 h3 h4
theorem P6{w:World}{ops:Array Oper}{rest:List Oper}{o:Oper}{a:Act}{Q:Exit→Act→World→Prop}(hgd:o.guard=none)(s x:Operand)(T:TypeId)
    (ho:o.op= .call {callee:= .builtin .append,args:=#[s,x],argTypes:=#[T,T]}) {E bytes:Nat} (hE:Gu T E sz bytes) (hsz:0<sz) (hby:bytes≤100000)
    {base:Nat} {v sv:Value} {xs ys:List α} {D:Nat→Prop} (hs:a.eval s=v) (hx:a.eval x=sv) (hown:OwnL sz cell E w base v xs) (hr:ListR sz cell w D sv ys)
    (h1:∀y∈ys,∀j,j<sz→(cell y j).oneCell'=true) (hf:xs.length≤1000000) (hbase:base≤w.heap.size)
    (h:∀v' w',OwnL sz cell E w' base v' (xs++ys)→w.grownBy w' v.ownBlock→(v'.ownBlock=v.ownBlock∨v'.ownBlock=some w.heap.size)→wpList prog ops Q rest (a.put o.dst v') w'):wpList prog ops Q (o::rest) a w:=
 wpList_plain hgd fun _ hK=>Wx s x T ho hE hsz hby hs hx hown hr h1 hf hbase fun v' w' h2 h3 h4=>hK _ _ (h v' w' h2 h3 h4)
theorem OwnL.mono{E:TypeId}{w:World}{base base':Nat}{v:Value}{xs:List α}(h:OwnL sz cell E w base v xs)(hb:base'≤base):OwnL sz cell E w base' v xs:=by
 refine⟨⟨h.1.1,?_⟩,h.2⟩;rcases h.1.2 with h'|⟨g,cap,cur,hv,hg,r⟩
 ·exact .inl h'
 exact .inr ⟨g,cap,cur,hv,Nat.le_trans hb hg,r⟩
theorem Wy{w:World}{ops:Array Oper}{rest:List Oper}{o:Oper}{a:Act}{Q:Exit→Act→World→Prop}(hgd:o.guard=none)(s x:Operand)(T:TypeId)
    (ho:o.op= .call {callee:= .builtin .append,args:=#[s,x],argTypes:=#[T,T]}) {E bytes:Nat} (hE:Gu T E sz bytes) (hsz:0<sz) (hby:bytes≤100000)
    (sv:Value) (ys:List α) {D:Nat→Prop} (hs:a.eval s= .slice none 0 0) (hx:a.eval x=sv) (hr:ListR sz cell w D sv ys)
    (h1:∀y∈ys,∀j,j<sz→(cell y j).oneCell'=true)
    (h:∀A c w',OwnL sz cell E w' w.heap.size (.slice A ys.length c) ys→Below w.heap.size w w'→wpList prog ops Q rest (a.put o.dst (.slice A ys.length c)) w'):wpList prog ops Q (o::rest) a w:=
 P6 hgd s x T ho hE hsz hby hs hx (OwnL.nil_ E w w.heap.size) hr h1 (by simp) (B3 _) fun v' w' h2 h3 _=>by
  rw[List.nil_append]at h2;obtain⟨A,c,rfl⟩:=h2.form;exact h A c w' h2 ⟨h3.os,h3.tape,h3.output,h3.size,fun k hk=>h3.block k hk (by simp[Value.ownBlock])⟩
theorem SO{w:World}{cs:Array Value}{t:TypeId}{x:α}{B:Nat}(hB:B=w.heap.size)(hcs:∀j,j<sz→cs[j]?=some (cell x j)){D:Nat→Prop}(hD:D w.heap.size):ListR sz cell (w.alloc (.cells cs t)) D (.slice (some ⟨B,0,none⟩) 1 1) [x]:=by
 subst hB;refine⟨_,1,rfl,B3 _,by unfold few;simp,fun _=>⟨_,_,rfl,hD,fun i y j hi hj=>?_⟩⟩
 cases i with
 |succ i=>simp at hi
 |zero=>
   simp at hi;subst hi;rw[cell_of_row (w.alloc (.cells cs t)) w.heap.size _ cs t (0,0) (heap_alloc_new w _)];simp[hcs j hj]
end
theorem Wz:Gu 149 234 2 24:=P5 (z:= .agg #[.string ⟨#[]⟩, .int .i64 0]) (by kernel_rfl) (by kernel_rfl) rfl rfl
theorem X0:Gu 146 151 8 88:=P5 (z:= .agg #[.int .i64 0, .int .i64 0, .int .i64 0, .int .i64 0, .int .i64 0, .int .i64 0, .string ⟨#[]⟩, .slice none 0 0]) (by kernel_rfl) (by kernel_rfl) rfl rfl
theorem X3:Gu 37 148 2 32:=P5 (z:= .agg #[.int .i64 0, .slice none 0 0]) (by kernel_rfl) (by kernel_rfl) rfl rfl
end Go.Proofs.YtbgnigjfkbmceaaGreatDoor.Old
namespace Go.Proofs.YtbgnigjfkbmceaaGreatDoor.Old
open Go.RowKit
def blk(v:Value):List Nat:=v.ownBlock.toList
theorem mem_blk{v:Value}{b:Nat}:b∈blk v↔v.ownBlock=some b:=by
 unfold blk;cases v.ownBlock<;>simp[eq_comm]
section
variable {α:Type}{sz:Nat}{cell:α→Nat→Value}{E:TypeId}{w w':World}{base:Nat}{v:Value}{xs:List α}
theorem OwnL.frame(h:OwnL sz cell E w base v xs){row:Option Nat}(hg:w.grownBy w' row)(hne:∀b∈blk v,some b≠row):OwnL sz cell E w' base v xs:=by
 refine h.kept hg ?_
 cases hb:v.ownBlock with
 |none=>exact .inl rfl
 |some b=>exact .inr (hne b (mem_blk.2 hb))
theorem OwnL.blk_lt(h:OwnL sz cell E w base v xs):∀b∈blk v,base≤b∧b<w.heap.size:=fun b hb=>h.lt b (mem_blk.1 hb)
theorem OwnL.not_mem(h:OwnL sz cell E w base v xs){g:Nat}{t:TypeId}{cs:Array Value}(hg:w.heap[g]?=some (.cells cs t (0,0)))(hne:E≠t):g∉blk v:=fun hm=>h.ne_ hg hne (mem_blk.1 hm)
end
def fpN(v:Value)(ys:List (Nod×Value)):List Nat:=blk v++ys.flatMap fun y=>blk y.2
def NodsAt(w:World)(base:Nat)(v:Value)(ys:List (Nod×Value)):Prop:=
 OwnL 8 nodCell 151 w base v ys∧(∀y∈ys,OwnL 2 entCell 234 w base y.2 y.1.entries∧y.1.entries.length≤few)∧(fpN v ys).Nodup
abbrev Dq:=Int×Value×List (Nod×Value)
def JW(d:Dq):Nat→Value
 |0=> .int .i64 d.1
 |_=>d.2.1
def fpD(v:Value)(L:List Dq):List Nat:=blk v++L.flatMap fun x=>fpN x.2.1 x.2.2
def DvcsAt(w:World)(base:Nat)(v:Value)(L:List Dq):Prop:=
 OwnL 2 JW 148 w base v L∧(∀x∈L,NodsAt w base x.2.1 x.2.2∧x.2.2.length≤few)∧(fpD v L).Nodup∧L.length≤few
def dvcOf(x:Dq):Dvc:=⟨x.1,x.2.2.map (·.1)⟩
def flsOf(L:List Dq):Af:=L.map dvcOf
section
variable {w w':World}{base:Nat}{v:Value}
theorem NodsAt.frame{ys:List (Nod×Value)}(h:NodsAt w base v ys){row:Option Nat}(hg:w.grownBy w' row)(hne:∀b∈fpN v ys,some b≠row):NodsAt w' base v ys:=by
 obtain⟨h1,h2,h3⟩:=h;refine⟨h1.frame hg fun b hb=>hne b (List.mem_append_left _ hb),fun y hy=>⟨(h2 y hy).1.frame hg fun b hb=>hne b (List.mem_append_right _ (List.mem_flatMap.2 ⟨y,hy,hb⟩)),(h2 y hy).2⟩,h3⟩
theorem NodsAt.fp_lt{ys:List (Nod×Value)}(h:NodsAt w base v ys):∀b∈fpN v ys,base≤b∧b<w.heap.size:=by
 intro b hb;rcases List.mem_append.1 hb with hb|hb
 ·exact h.1.blk_lt b hb
 obtain⟨y,hy,hb⟩:=List.mem_flatMap.1 hb;exact(h.2.1 y hy).1.blk_lt b hb
theorem DvcsAt.frame{L:List Dq}(h:DvcsAt w base v L){row:Option Nat}(hg:w.grownBy w' row)(hne:∀b∈fpD v L,some b≠row):DvcsAt w' base v L:=by
 obtain⟨h1,h2,h3,h4⟩:=h;refine⟨h1.frame hg fun b hb=>hne b (List.mem_append_left _ hb),fun y hy=>⟨(h2 y hy).1.frame hg fun b hb=>hne b (List.mem_append_right _ (List.mem_flatMap.2 ⟨y,hy,hb⟩)),(h2 y hy).2⟩,h3,h4⟩
theorem DvcsAt.fp_lt{L:List Dq}(h:DvcsAt w base v L):∀b∈fpD v L,base≤b∧b<w.heap.size:=by
 intro b hb;rcases List.mem_append.1 hb with hb|hb
 ·exact h.1.blk_lt b hb
 obtain⟨y,hy,hb⟩:=List.mem_flatMap.1 hb;exact(h.2.1 y hy).1.fp_lt b hb
theorem NodsAt.below{ys:List (Nod×Value)}(h:NodsAt w base v ys)(hb:Below w.heap.size w w'):NodsAt w' base v ys:=h.frame (Kz hb none) (by simp)
theorem DvcsAt.below{L:List Dq}(h:DvcsAt w base v L)(hb:Below w.heap.size w w'):DvcsAt w' base v L:=h.frame (Kz hb none) (by simp)
theorem DvcsAt.set_{L:List Dq}(h:DvcsAt w base v L){p:Addr}(hp:p.block∉fpD v L)(u:Value):DvcsAt (w.setCell p u) base v L:=
 h.frame (row:=some p.block) ⟨rfl,rfl,rfl,by simp[World.setCell],fun k _ hne=>Below.heap_setCell w p u k (fun e=>hne (by rw[e]))⟩ (fun b hb e=>hp (by injection e with e;rwa [←e]))
theorem NodsAt.set_{L:List (Nod×Value)}(h:NodsAt w base v L){p:Addr}(hp:p.block∉fpN v L)(u:Value):NodsAt (w.setCell p u) base v L:=
 h.frame (row:=some p.block) ⟨rfl,rfl,rfl,by simp[World.setCell],fun k _ hne=>Below.heap_setCell w p u k (fun e=>hne (by rw[e]))⟩ (fun b hb e=>hp (by injection e with e;rwa [←e]))
theorem DvcsAt.nil_(w:World)(base:Nat):DvcsAt w base (.slice none 0 0) []:=⟨OwnL.nil_ _ _ _,by simp,by simp[fpD,blk,Value.ownBlock],by simp⟩
theorem NodsAt.nil_(w:World)(base:Nat):NodsAt w base (.slice none 0 0) []:=⟨OwnL.nil_ _ _ _,by simp,by simp[fpN,blk,Value.ownBlock]⟩
end
end Go.Proofs.YtbgnigjfkbmceaaGreatDoor.Old
namespace Go.Proofs.YtbgnigjfkbmceaaGreatDoor.Old
open Go.RowKit
theorem X4{w:World}{b o:Nat}{x:Nod×Value}(h:∀j,j<8→w.cell? ⟨b,o+j,none⟩=some (nodCell x j)):
    w.cell? ⟨b,o,none⟩=some (.int .i64 x.1.ino)∧w.cell? ⟨b,o+1,none⟩=some (.int .i64 x.1.kind)∧w.cell? ⟨b,o+2,none⟩=some (.int .i64 x.1.mode)∧w.cell? ⟨b,o+3,none⟩=some (.int .i64 x.1.uid)∧
    w.cell? ⟨b,o+4,none⟩=some (.int .i64 x.1.gid)∧w.cell? ⟨b,o+5,none⟩=some (.int .i64 x.1.parent)∧w.cell? ⟨b,o+6,none⟩=some (.string x.1.target)∧w.cell? ⟨b,o+7,none⟩=some x.2:=
 ⟨h 0 (by omega),h 1 (by omega),h 2 (by omega),h 3 (by omega),h 4 (by omega),h 5 (by omega),h 6 (by omega),h 7 (by omega)⟩
theorem X5(y:BM)(j:Nat):(entCell y j).oneCell'=true:=by
 unfold entCell;split<;>rfl
end Go.Proofs.YtbgnigjfkbmceaaGreatDoor.Old
namespace Go.Proofs.YtbgnigjfkbmceaaGreatDoor.Old
open Go.RowKit
def JX(w:World)(v:Value)(L:List Dq)(dvv:Value)(S:Nat)(next:Int)(ns:List Nod)(k:Nat)(nvv:Value)(ys:List (Nod×Value))(wr:World):Prop:=
 ys.map (·.1)=ns.take k∧wr.heap[S]?=some (.cells #[.int .i64 next,nvv] 148 (0,0))∧NodsAt wr w.heap.size nvv ys∧DvcsAt wr w.heap.size dvv L∧(∀b∈fpN nvv ys,b∉fpD dvv L∧b≠S)∧
 wr.heap[w.heap.size]?=some (.cells #[v] 39 (0,0))∧wr.heap[w.heap.size+1]?=some (.cells #[.slice none 0 0] 39 (0,0))∧wr.heap[w.heap.size+1+1]?=some (.cells #[dvv] 39 (0,0))∧
 Below w.heap.size w wr
theorem JY{w:World}{b:Nat}{o:Obj}(h:w.heap[b]?=some o):b<w.heap.size:=by
 rcases Nat.lt_or_ge b w.heap.size with hlt|hge
 ·exact hlt
 rw[Array.getElem?_eq_none hge]at h;cases h
theorem Mt{l r:List Nat}(h1:l.Nodup)(h2:r.Nodup)(h:∀b∈l,b∉r):(l++r).Nodup:=List.nodup_append.2 ⟨h1,h2,fun a ha _ hb e=>h a ha (e ▸ hb)⟩
theorem P7(v:Value):(blk v).Nodup:=by
 unfold blk;cases v.ownBlock<;>simp
theorem SP(v:Value)(ys:List (Nod×Value))(y:Nod×Value):fpN v (ys++[y])=blk v++(ys.flatMap (fun y=>blk y.2)++blk y.2):=by simp[fpN]
theorem X6{n:Nat}(h:n≤few):n≤1000000:=by unfold few at h;omega
theorem X7{w:World}{v:Value}{L:List Dq}{dvv:Value}{S:Nat}{next:Int}{ns:List Nod}{k:Nat}{nvv:Value}{ys:List (Nod×Value)}{wr W4 W5:World}{n:Nod}{ev nvv':Value}
    (h:JX w v L dvv S next ns k nvv ys wr) (hS:S∉fpD dvv L) (hSB:w.heap.size+1+1<S) (hn:ns[k]?=some n) (hfew:n.entries.length≤few) (h4:Below wr.heap.size wr W4) (hev:OwnL 2 entCell 234 W4 (wr.heap.size+1) ev n.entries)
    (h5:W4.grownBy W5 nvv.ownBlock) (hown:OwnL 8 nodCell 151 W5 w.heap.size nvv' (ys++[(n,ev)])) (hat:nvv'.ownBlock=nvv.ownBlock∨nvv'.ownBlock=some W4.heap.size):
    JX w v L dvv S next ns (k+1) nvv' (ys++[(n,ev)]) (W5.setCell ⟨S,1,none⟩ nvv'):=by
 obtain⟨e1,e2,e3,e4,e5,e6,e7,e8,e9⟩:=h;have z:=e9.size;have z4:=h4.size;have hSl:=JY e2;have n4:=e3.below h4;have d4:=e4.below h4;have hold:∀b∈fpN nvv ys,w.heap.size≤b∧b<wr.heap.size:=e3.fp_lt;have hbn:∀b∈blk nvv,b<wr.heap.size:=fun b hb=>(hold b (List.mem_append_left _ hb)).2;have hnd:=e3.2.2;have hnd':=List.nodup_append.1 hnd;have row:∀b,b∉blk nvv→some b≠nvv.ownBlock:=fun b hb e=>hb (mem_blk.2 e.symm);have hevb:∀b∈blk ev,wr.heap.size+1≤b∧b<W4.heap.size:=hev.blk_lt
 have hnew:∀b∈blk nvv',b∈blk nvv∨b=W4.heap.size:=by
  intro b hb;rw[mem_blk]at hb;rcases hat with e|e
  ·left;rw[mem_blk,←e];exact hb
  right;rw[e]at hb;exact(Option.some.inj hb).symm
 have hent5:∀y∈ys,OwnL 2 entCell 234 W5 w.heap.size y.2 y.1.entries∧y.1.entries.length≤few:=fun y hy=>
  ⟨(n4.2.1 y hy).1.frame h5 fun b hb=>row b fun hb'=>hnd'.2.2 b hb' b (List.mem_flatMap.2 ⟨y,hy,hb⟩) rfl,(n4.2.1 y hy).2⟩
 have hev5:OwnL 2 entCell 234 W5 w.heap.size ev n.entries:=(hev.frame h5 fun b hb=>row b fun hb'=>by have:=hbn b hb';have:=(hevb b hb).1;omega).mono (by omega)
 have hfp:∀b∈fpN nvv' (ys++[(n,ev)]),b∈fpN nvv ys∨wr.heap.size≤b:=by
  intro b hb;rw[SP]at hb;rcases List.mem_append.1 hb with hb|hb
  ·rcases hnew b hb with hb|hb
   ·exact .inl (List.mem_append_left _ hb)
   right;omega
  rcases List.mem_append.1 hb with hb|hb
  ·exact .inl (List.mem_append_right _ hb)
  right;have:=(hevb b hb).1;omega
 have n5:NodsAt W5 w.heap.size nvv' (ys++[(n,ev)]):=by
  refine⟨hown,?_,?_⟩
  ·intro y hy;rcases List.mem_append.1 hy with hy|hy
   ·exact hent5 y hy
   obtain rfl:y=(n,ev):=by simpa using hy
   exact⟨hev5,hfew⟩
  rw[SP];refine Mt (P7 _) (Mt hnd'.2.1 (P7 _) ?_) ?_
  ·intro b hb hb';have:=(hold b (List.mem_append_right _ hb)).2;have:=(hevb b hb').1;omega
  intro b hb hb';rcases hnew b hb with hb1|hb1
  ·rcases List.mem_append.1 hb' with hb'|hb'
   ·exact hnd'.2.2 b hb1 b hb' rfl
   have:=hbn b hb1;have:=(hevb b hb').1;omega
  rcases List.mem_append.1 hb' with hb'|hb'
  ·have:=(hold b (List.mem_append_right _ hb')).2;omega
  have:=(hevb b hb').2;omega
 have d5:DvcsAt W5 w.heap.size dvv L:=d4.frame h5 fun b hb=>row b fun hb'=>(e5 b (List.mem_append_left _ hb')).1 hb;have o4:OwnL 8 nodCell 151 W4 w.heap.size nvv ys:=n4.1
 have box:∀(b:Nat) (cs:Array Value),wr.heap[b]?=some (.cells cs 39 (0,0))→b≠S→(W5.setCell ⟨S,1,none⟩ nvv').heap[b]?=some (.cells cs 39 (0,0)):=fun b cs hb hbS=>by
  have hb4:=BS hb h4 (JY hb);exact JV (L3 hb4 h5 (row b (o4.not_mem hb4 (by decide)))) hbS _
 have hfpS:S∉fpN nvv' (ys++[(n,ev)]):=fun hb=>by
  rcases hfp S hb with hb|hb
  ·exact(e5 S hb).2 rfl
  omega
 refine⟨?_,?_,n5.set_ hfpS _,d5.set_ hS _,?_,box _ _ e6 (by omega),box _ _ e7 (by omega),box _ _ e8 (by omega),?_⟩
 ·rw[List.map_append,e1,List.take_add_one,hn];rfl
 ·have hS4:=BS e2 h4 hSl;exact K0 (L3 hS4 h5 (row S fun hb=>(e5 S (List.mem_append_left _ hb)).2 rfl)) 1 _
 ·intro b hb;rcases hfp b hb with hb|hb
  ·exact e5 b hb
  refine⟨fun hd=>?_,by omega⟩;have:=(e4.fp_lt b hd).2;omega
 exact((e9.trans (h4.mono e9.size)).grown h5 (by omega) fun b hb=>(hold b (List.mem_append_left _ (mem_blk.2 hb))).1).setCell (by show w.heap.size≤S;omega) _
def P8(w:World)(v:Value)(f:Af)(m:Nat)(dvv:Value)(L:List Dq)(wr:World):Prop:=
 flsOf L=f.take m∧DvcsAt wr w.heap.size dvv L∧
 wr.heap[w.heap.size]?=some (.cells #[v] 39 (0,0))∧wr.heap[w.heap.size+1]?=some (.cells #[.slice none 0 0] 39 (0,0))∧wr.heap[w.heap.size+1+1]?=some (.cells #[dvv] 39 (0,0))∧
 Below w.heap.size w wr
theorem X8(v:Value)(L:List Dq)(x:Dq):fpD v (L++[x])=blk v++(L.flatMap (fun x=>fpN x.2.1 x.2.2)++fpN x.2.1 x.2.2):=by simp[fpD]
theorem X9{w:World}{v:Value}{f:Af}{m:Nat}{dvv:Value}{L:List Dq}{wr:World}(h:P8 w v f m dvv L wr)(next:Int)(ns:List Nod):
    JX w v L dvv wr.heap.size next ns 0 (.slice none 0 0) [] (wr.alloc (.cells #[.int .i64 next, .slice none 0 0] 148))∧wr.heap.size∉fpD dvv L∧w.heap.size+1+1<wr.heap.size:=by
 obtain⟨e1,e4,e6,e7,e8,e9⟩:=h;refine⟨⟨by simp,heap_alloc_new _ _,NodsAt.nil_ _ _,e4.below (Es _ _),by simp[fpN,blk,Value.ownBlock],CY e6 _,CY e7 _,CY e8 _,e9.alloc e9.size _⟩,fun hb=>?_,JY e8⟩;have:=(e4.fp_lt _ hb).2;omega
theorem XA{w:World}{v:Value}{f:Af}{m:Nat}{dvv:Value}{L:List Dq}{S:Nat}{next:Int}{ns:List Nod}{nvv:Value}{ys:List (Nod×Value)}{wr W2:World}{o:Obj}{dvv':Value}{d:Dvc}
    (h:JX w v L dvv S next ns ns.length nvv ys wr) (hf:f[m]?=some d) (hL:flsOf L=f.take m) (hnx:d.next=next) (hns:d.nodes=ns) (hfew:ns.length≤few) (hfl:f.length≤few)
    (h5:(wr.alloc o).grownBy W2 dvv.ownBlock) (hown:OwnL 2 JW 148 W2 w.heap.size dvv' (L++[(next,nvv,ys)])) (hat:dvv'.ownBlock=dvv.ownBlock∨dvv'.ownBlock=some (wr.heap.size+1)):
    P8 w v f (m+1) dvv' (L++[(next,nvv,ys)]) (W2.setCell ⟨w.heap.size+1+1,0,none⟩ dvv'):=by
 obtain⟨e1,e2,e3,e4,e5,e6,e7,e8,e9⟩:=h;have hml:=(Al.1 hf).1;have z:=e9.size;have h4:=Es wr o;have n4:=e3.below h4;have d4:=e4.below h4
 have hyl:ys.length=ns.length:=by
  have:=congrArg List.length e1
  simpa using this
 have hnd':=List.nodup_append.1 e4.2.2.1;have row:∀b,b∉blk dvv→some b≠dvv.ownBlock:=fun b hb e=>hb (mem_blk.2 e.symm)
 have hnew:∀b∈blk dvv',b∈blk dvv∨b=wr.heap.size+1:=by
  intro b hb;rw[mem_blk]at hb;rcases hat with e|e
  ·left;rw[mem_blk,←e];exact hb
  right;rw[e]at hb;exact(Option.some.inj hb).symm
 have n5:NodsAt W2 w.heap.size nvv ys:=n4.frame h5 fun b hb=>row b fun hb'=>(e5 b hb).1 (List.mem_append_left _ hb')
 have l5:∀x∈L,NodsAt W2 w.heap.size x.2.1 x.2.2∧x.2.2.length≤few:=fun x hx=>
  ⟨(d4.2.1 x hx).1.frame h5 fun b hb=>row b fun hb'=>hnd'.2.2 b hb' b (List.mem_flatMap.2 ⟨x,hx,hb⟩) rfl,(d4.2.1 x hx).2⟩
 have d5:DvcsAt W2 w.heap.size dvv' (L++[(next,nvv,ys)]):=by
  refine⟨hown,?_,?_,?_⟩
  ·intro x hx;rcases List.mem_append.1 hx with hx|hx
   ·exact l5 x hx
   obtain rfl:x=(next,nvv,ys):=by simpa using hx
   exact⟨n5,by show ys.length≤few;omega⟩
  ·rw[X8];refine Mt (P7 _) (Mt hnd'.2.1 e3.2.2 ?_) ?_
   ·exact fun b hb hb'=>(e5 b hb').1 (List.mem_append_right _ hb)
   intro b hb hb';rcases hnew b hb with hb1|hb1
   ·rcases List.mem_append.1 hb' with hb'|hb'
    ·exact hnd'.2.2 b hb1 b hb' rfl
    exact(e5 b hb').1 (List.mem_append_left _ hb1)
   rcases List.mem_append.1 hb' with hb'|hb'
   ·have:=(e4.fp_lt b (List.mem_append_right _ hb')).2;omega
   have:=(e3.fp_lt b hb').2;omega
  have hll:L.length=m:=by
   have:=congrArg List.length hL;simp[flsOf]at this;omega
  rw[List.length_append,hll];show m+1≤few;omega
 have o4:OwnL 2 JW 148 (wr.alloc o) w.heap.size dvv L:=d4.1
 have box2:∀(b:Nat) (cs:Array Value),wr.heap[b]?=some (.cells cs 39 (0,0))→W2.heap[b]?=some (.cells cs 39 (0,0)):=fun b cs hb=>
  L3 (CY hb o) h5 (row b (o4.not_mem (CY hb o) (by decide)))
 have hne:w.heap.size+1+1∉fpD dvv' (L++[(next,nvv,ys)]):=by
  intro hb;have hb8:=box2 _ _ e8;rcases List.mem_append.1 hb with hb|hb
  ·exact d5.1.not_mem hb8 (by decide) hb
  obtain⟨x,hx,hb⟩:=List.mem_flatMap.1 hb;have hx5:=(d5.2.1 x hx).1;rcases List.mem_append.1 hb with hb|hb
  ·exact hx5.1.not_mem hb8 (by decide) hb
  obtain⟨y,hy,hb⟩:=List.mem_flatMap.1 hb;exact(hx5.2.1 y hy).1.not_mem hb8 (by decide) hb
 refine⟨?_,d5.set_ hne _,JV (box2 _ _ e6) (by show _≠w.heap.size+1+1;omega) _,JV (box2 _ _ e7) (by show _≠w.heap.size+1+1;omega) _,K0 (box2 _ _ e8) 0 _,?_⟩
 ·have hd:dvcOf (next,nvv,ys)=d:=by
     unfold dvcOf;rw[e1,List.take_length,←hnx,←hns]
  unfold flsOf at hL ⊢;rw[List.map_append,hL,List.take_add_one,hf];simp[hd]
 exact((e9.trans (h4.mono e9.size)).grown h5 (by rw[World.size_alloc];omega) fun b hb=>(e4.fp_lt b (List.mem_append_left _ (mem_blk.2 hb))).1).setCell (by show w.heap.size≤w.heap.size+1+1;omega) _
end Go.Proofs.YtbgnigjfkbmceaaGreatDoor.Old
namespace Go.Proofs.YtbgnigjfkbmceaaGreatDoor.Old
open Go.RowKit
theorem XB{y:Nod×Value}(h:y.2.oneCell'=true)(j:Nat):(nodCell y j).oneCell'=true:=by
 unfold nodCell;split<;>first|rfl|exact h
theorem XC(n:Nod)(e:Value):∀j,j<8→(#[.int .i64 n.ino, .int .i64 n.kind, .int .i64 n.mode, .int .i64 n.uid, .int .i64 n.gid, .int .i64 n.parent, .string n.target,e]:Array Value)[j]?=some (nodCell (n,e) j):=by
 intro j hj
 match j,hj with
 |0,_=>rfl
 |1,_=>rfl
 |2,_=>rfl
 |3,_=>rfl
 |4,_=>rfl
 |5,_=>rfl
 |6,_=>rfl
 |7,_=>rfl
theorem XD{w:World}{v:Value}{L:List Dq}{dvv:Value}{S:Nat}{next:Int}{ns:List Nod}{k:Nat}{nvv:Value}{ys:List (Nod×Value)}{wr W4 W5:World}(h:JX w v L dvv S next ns k nvv ys wr)(h4:Below wr.heap.size wr W4)
    (h5:W4.grownBy W5 nvv.ownBlock):W5.heap[S]?=some (.cells #[.int .i64 next,nvv] 148 (0,0)):=
 L3 (BS h.2.1 h4 (JY h.2.1)) h5 (fun e=>(h.2.2.2.2.1 S (List.mem_append_left _ (mem_blk.2 e.symm))).2 rfl)
theorem SQ{α:Type}{sz:Nat}{cell:α→Nat→Value}{E:TypeId}{w:World}{base:Nat}{v:Value}{xs:List α}(h:OwnL sz cell E w base v xs){n:Nat}(hn:xs.length=n):∃A c,v= .slice A n c:=by
 subst hn;exact h.form
theorem SR{w:World}{base:Nat}{v:Value}{L:List Dq}(h:DvcsAt w base v L){b:Nat}{cs:Array Value}(hb:w.heap[b]?=some (.cells cs 39 (0,0))):b∉fpD v L:=by
 intro hm;rcases List.mem_append.1 hm with hm|hm
 ·exact h.1.not_mem hb (by decide) hm
 obtain⟨x,hx,hm⟩:=List.mem_flatMap.1 hm;have hx5:=(h.2.1 x hx).1;rcases List.mem_append.1 hm with hm|hm
 ·exact hx5.1.not_mem hb (by decide) hm
 obtain⟨y,hy,hm⟩:=List.mem_flatMap.1 hm;exact(hx5.2.1 y hy).1.not_mem hb (by decide) hm
theorem XE{w:World}{v:Value}{L:List Dq}{dvv:Value}{S:Nat}{next:Int}{ns:List Nod}{k:Nat}{nvv:Value}{ys:List (Nod×Value)}{wr W5:World}{o:Obj}(h:JX w v L dvv S next ns k nvv ys wr)
    (h5:(wr.alloc o).grownBy W5 dvv.ownBlock):W5.heap[w.heap.size+1+1]?=some (.cells #[dvv] 39 (0,0)):=
 L3 (CY h.2.2.2.2.2.2.2.1 o) h5 (fun e=>SR h.2.2.2.1 h.2.2.2.2.2.2.2.1 (List.mem_append_left _ (mem_blk.2 e.symm)))
theorem XF(nx:Int)(v:Value)(ys:List (Nod×Value)):∀j,j<2→(#[.int .i64 nx,v]:Array Value)[j]?=some (JW (nx,v,ys) j):=by
 intro j hj
 match j,hj with
 |0,_=>rfl
 |1,_=>rfl
theorem XG(nx:Int)(A:Option Addr)(n c:Nat)(ys:List (Nod×Value))(j:Nat):(JW (nx, .slice A n c,ys) j).oneCell'=true:=by
 unfold JW;split<;>rfl
set_option maxRecDepth 100000 in
set_option maxHeartbeats 2000000 in
theorem Copy_any(v:Value)(f:Af)(w:World)(hf:FlsR w (Old w) v f):
    Calls prog 182 #[v] w fun e w'=>∃dv L,e= .returned (.agg #[dv])∧DvcsAt w' w.heap.size dv L∧flsOf L=f∧Below w.heap.size w w':=by
 obtain⟨d,rfl,xs,hxf,⟨A,c,rfl,hc,hl,hr⟩,hn⟩:=hf;have hfl:f.length=xs.length:=(Ws hxf).symm;have hlf:=hl;unfold few at hl
 go_enter Tryz.func182,Tryz.ntmps182
 go_wp2_with fail
 have HX:=Lib.hid hxf;have HFL:=Lib.hid hfl;have HN:=Lib.hid hn;clear hxf hfl hn
 go_loopw [4] (fun i wr=>∃(m:Nat) (dvv:Value) (L:List Dq),m≤xs.length∧i= .int .i64 m∧P8 w (.slice A xs.length c) f m dvv L wr) (fun i _=>xs.length - (intOf i).toNat)
 case atStart=>
  refine⟨0, .slice none 0 0,[],by omega,rfl,by simp[flsOf],DvcsAt.nil_ _ _,L6 _ _ _ _,L7 _ _ _ _,L8 _ _ _ _,L5 _ _ _ _⟩
 case round=>
  obtain⟨m,dvv,L,hm,rfl,hout⟩:=hrel;have hbw:Below w.heap.size w wr:=hout.2.2.2.2.2;have c0:wr.cell? ⟨w.heap.size,0,none⟩=some (.slice A xs.length c):=by rw[Hr hout.2.2.1];rfl
  by_cases hlt:m<xs.length
  ·have hx:xs[m]?=some xs[m]:=BV hlt;obtain⟨b,off,rfl,hb,hcell⟩:=(hr.keep (Ms hbw)) (by omega);have h0:=hcell m _ 0 hx (by omega);have h1:=hcell m _ 1 hx (by omega);obtain⟨ys0,hy0,⟨A1,c1,hv1,hc1,hl1,hr1⟩,hn1⟩:=HN.out _ (B1 hx);simp only[dvcCell,hv1,Nat.add_zero]at h0 h1;have hdm:f[m]?=some xs[m].1:=by rw[←HX.out];simp[hlt]
   have HD:=Lib.hid hdm;have HY:=Lib.hid hy0;have HV:=Lib.hid hv1;have HX':=Lib.hid hx;have HN1:=Lib.hid hn1;have hl1f:=hl1;unfold few at hl1;unfold Old at hb;obtain⟨hin,hSn,hSB⟩:=X9 hout xs[m].1.next (ys0.map (·.1));have HS:=Lib.hid hSn;have HIN:=Lib.hid hin;have HOUT:=Lib.hid hout;clear hcell hdm hy0 hv1 hx hn1 hSn hin hout;generalize hnx:xs[m].1.next=nx at *;have HNX:=Lib.hid hnx;clear hnx
   go_wp2_with fail
   obtain⟨wo,hwo⟩:∃wo:World,wo=wr:=⟨_,rfl⟩;subst hwo
   go_loopw [6] (fun i wr=>∃(k:Nat) (nvv:Value) (ys:List (Nod×Value)),k≤ys0.length∧i= .int .i64 k∧JX w (.slice (some ⟨b,off,none⟩) xs.length c) L dvv wo.heap.size nx (ys0.map (·.1)) k nvv ys wr) (fun i _=>ys0.length - (intOf i).toNat)
   case atStart=>exact⟨0,_,_,by omega,rfl,HIN.out⟩
   case round=>
    obtain⟨k,nvv,ys,hk,rfl,hin⟩:=hrel;have hb2:Below w.heap.size w wr:=hin.2.2.2.2.2.2.2.2;have c0':wr.cell? ⟨w.heap.size,0,none⟩=some (.slice (some ⟨b,off,none⟩) xs.length c):=by rw[Hr hin.2.2.2.2.2.1];rfl
    have hcell':=hr.keep (Ms hb2);obtain⟨b',off',hbo,_,hcell'⟩:=hcell' (by omega);simp only[Option.some.injEq,Addr.mk.injEq,and_true]at hbo;obtain⟨rfl,rfl⟩:=hbo;have h1':=hcell' m _ 1 HX'.out (by omega);simp only[dvcCell,HV.out]at h1';clear hcell' h0 h1 c0;by_cases hkl:k<ys0.length
    ·have hy:ys0[k]?=some ys0[k]:=BV hkl;obtain⟨b1,off1,rfl,hb1,hcell1⟩:=(hr1.keep (Ms hb2)) (by omega);obtain⟨n0,n1,n2,n3,n4,n5,n6,n7⟩:=X4 (fun j hj=>hcell1 k _ j hy hj);have hev:=HN1.out _ (B1 hy);have hnk:(ys0.map (·.1))[k]?=some ys0[k].1:=by simp[hkl]
     have HNK:=Lib.hid hnk;generalize ys0[k]=y at *;obtain⟨n,ev⟩:=y;simp only at hev n0 n1 n2 n3 n4 n5 n6 n7;have hlen:=hev;obtain⟨Ae,ce,rfl,hce,hle,hre⟩:=hev;have HE:=Lib.hid hlen;have HIN2:=Lib.hid hin;have HB2:=Lib.hid hb2;have hS1:wo.heap.size<wr.heap.size:=JY hin.2.1;have hSc:wr.cell? ⟨wo.heap.size,1,none⟩=some nvv:=by rw[Hr hin.2.1];rfl
     obtain⟨An,cn,hnv⟩:=hin.2.2.1.1.form;subst hnv;have hbs:=hb2.size;clear hcell1 hnk hy hlen hre hin hb2
     go_wp2_with (first
      |(at_builtin;refine Wy (cell:=entCell) (D:=Old w) rfl (.const (.slice none 0 0)) (.tmp 43) _ rfl Wz (by omega) (by omega) (.slice Ae n.entries.length ce) n.entries rfl rfl (HE.out.keep (Ms (HB2.out.alloc (by omega) _))) (fun y _ j _=>X5 y j) ?_;intro A2 c2 w2 hown hb2;obtain⟨hbw2,hz2,k2⟩:=Wt hb2;obtain⟨k2c,k2f⟩:=Bv k2;have hSc2:=(hbw2.cell (p:=⟨wo.heap.size,1,none⟩) hS1).trans hSc;clear hb2)
      |(at_builtin;refine P6 (cell:=nodCell) (xs:=ys) (ys:=[(n, .slice A2 n.entries.length c2)]) (base:=w.heap.size) (D:=fun _=>True) (v:= .slice An ys.length cn) (sv:= .slice (some ⟨w2.heap.size,0,none⟩) 1 1) rfl (.tmp 47) (.tmp 49) _ rfl X0 (by omega) (by omega) rfl rfl (HIN2.out.2.2.1.1.below ((hbw2.setCell (p:=⟨wr.heap.size,7,none⟩) (B3 _) _).alloc (by simp[World.setCell];omega) _)) (SO (by simp[World.setCell]) (XC n _) trivial) (fun y hy j _=>by obtain rfl:=List.mem_singleton.1 hy;exact XB rfl j) (by have:=congrArg List.length HIN2.out.1;simp at this;omega) (by simp[World.setCell];omega) ?_;intro v5 w5 hown5 hg5 hat5;obtain⟨A5,c5,rfl⟩:=SQ hown5 (n:=ys.length+1) (by simp);obtain⟨k5c,k5f⟩:=Bv (XD HIN2.out (by exact(hbw2.setCell (p:=⟨wr.heap.size,7,none⟩) (B3 _) _).alloc (by simp[World.setCell];omega) _) hg5);clear k2c k2f hSc hSc2))
     go_roundw
     case rel=>exact⟨k+1,_,_,by omega,by go_num,X7 HIN2.out HS.out hSB HNK.out hle (by exact(hbw2.setCell (p:=⟨wr.heap.size,7,none⟩) (B3 _) _).alloc (by simp[World.setCell];omega) _) (by exact((hown.setb (p:=⟨wr.heap.size,7,none⟩) (by show wr.heap.size<(wr.alloc _).heap.size;simp) _).alloc _).mono (by simp)) hg5 hown5 (by simpa[World.setCell]using hat5)⟩
     case measure=>simp[intOf];omega
    have hke:k=ys0.length:=by omega
    have HK:=Lib.hid hke;have HIN2:=Lib.hid hin;have HB2:=Lib.hid hb2;obtain⟨hSc,hSf⟩:=Bv hin.2.1;have hS1:wo.heap.size<wr.heap.size:=JY hin.2.1;have hoc:wr.cell? ⟨w.heap.size+1+1,0,none⟩=some dvv:=by rw[Hr hin.2.2.2.2.2.2.2.1];rfl
    obtain⟨An,cn,hnv⟩:=hin.2.2.1.1.form;subst hnv;obtain⟨Ad,cd,hdv⟩:=hin.2.2.2.1.1.form;subst hdv;have hbs:=hb2.size;have hml:L.length≤1000000:=X6 hin.2.2.2.1.2.2.2;have hz3:w.heap.size+1+1<wr.heap.size:=JY hin.2.2.2.2.2.2.2.1;clear hke hin hb2
    go_wp2_with (at_builtin;refine P6 (cell:=JW) (xs:=L) (ys:=[(nx, .slice An ys.length cn,ys)]) (base:=w.heap.size) (D:=fun _=>True) (v:= .slice Ad L.length cd) (sv:= .slice (some ⟨wr.heap.size,0,none⟩) 1 1) rfl (.tmp 53) (.tmp 55) _ rfl X3 (by omega) (by omega) rfl rfl (HIN2.out.2.2.2.1.1.below (Es _ _)) (SO rfl (XF _ _ _) trivial) (fun y hy j _=>by obtain rfl:=List.mem_singleton.1 hy;exact XG _ _ _ _ _ j) hml (by simp;omega) ?_;intro v5 w5 hown5 hg5 hat5;obtain⟨A5,c5,rfl⟩:=SQ hown5 (n:=L.length+1) (by simp);obtain⟨k5c,k5f⟩:=Bv (XE HIN2.out hg5);clear hSc hSf hoc)
    go_roundw
    case rel=>exact⟨m+1,_,_,by omega,by go_num,XA (ns:=ys0.map (·.1)) (S:=wo.heap.size) (by have h:=HIN2.out;rw[HK.out]at h;simpa using h) HD.out HOUT.out.1 HNX.out (by simpa using HY.out.symm) (by simpa using hl1f) (by rw[HFL.out];exact hlf) hg5 hown5 (by simpa using hat5)⟩
    case measure=>simp[intOf];omega
  have hme:m=xs.length:=by omega
  have HF:Hid (flsOf L=f):=by
   have h:=hout.1;rw[hme,←HFL.out,List.take_length]at h;exact h
  have hrc1:wr.cell? ⟨w.heap.size+1+1,0,none⟩=some dvv:=by rw[Hr hout.2.2.2.2.1];rfl
  obtain⟨hrc,hrf⟩:=Bv hout.2.2.2.1;obtain⟨Ad,cd,hdv⟩:=hout.2.1.1.form;subst hdv;have HOUT:=Lib.hid hout;clear hout hme
  go_wp2_with fail
  refine bodyPost_ret (v:= .agg #[.slice Ad L.length cd]) (by simp[results,Tryz.results182,go_sem,hrc]) rfl ?_;refine⟨_,L,rfl,HOUT.out.2.1.set_ ?_ _,HF.out,hbw.setCell (by show w.heap.size≤w.heap.size+1;omega) _⟩;exact SR HOUT.out.2.1 HOUT.out.2.2.2.1
end Go.Proofs.YtbgnigjfkbmceaaGreatDoor.Old
namespace Go.Proofs.YtbgnigjfkbmceaaGreatDoor
open Go.RowKit
section
variable {St:Nat→Nat→Prop}{w:World}(hst:∀b o,St b o→b<w.heap.size)
include hst
theorem P9{α:Type}{sz:Nat}{enc:α→List AV}{cell:α×Value→Nat→Value}{Sub:α→Value→Prop}{xs:List α}{v:Value}(hsz:0<sz)(hfew:xs.length≤1000)(h:Am St w (.sl sz (xs.map enc) none) v)
    (hrow:∀x∈xs,(enc x).length=sz→∀c:Nat→Option Value,(∀j av,(enc x)[j]?=some av→∃u,c j=some u∧Am St w av u)→∃u,Sub x u∧∀j,j<sz→c j=some (cell (x,u) j)):
    ∃ys:List (α×Value),ys.map (·.1)=xs∧Old.ListR sz cell w (Old.Old w) v ys∧∀y∈ys,Sub y.1 y.2:=by
 simp only[Am]at h;obtain⟨_,A,cap,rfl,h2,h3,h4⟩:=h;rw[List.length_map]at h2;rcases Nat.eq_zero_or_pos xs.length with h0|h0
 ·obtain rfl:=Ct h0;exact⟨[],rfl,⟨A,cap,by simp,by simp,by simp,fun h=>absurd h (by simp)⟩,by simp⟩
 obtain⟨b,off,rfl,h6⟩:=h4.resolve_left (fun e=>by simp at e;subst e;simp at h0)
 have each:∀i (hi:i<xs.length),∃u,Sub xs[i] u∧∀j,j<sz→w.cell? ⟨b,off+i * sz+j,none⟩=some (cell (xs[i],u) j):=by
  intro i hi;have hr:(xs.map enc)[i]?=some (enc xs[i]):=by simp[hi]
  obtain⟨k1,k2⟩:=J9 h6 hr
  exact hrow _ (List.getElem_mem hi) k1 _ fun j av hj=>by
   obtain⟨_,u,q1,_,q2⟩:=KW k2 hj;exact⟨u,q1,q2⟩
 let g:Fin xs.length→α×Value:=fun i=>(xs[i.1],(each i.1 i.2).choose);have hg:∀i (hi:i<xs.length),(List.ofFn g)[i]?=some (xs[i],(each i hi).choose):=fun i hi=>by simp[g,hi]
 have hlen:(List.ofFn g).length=xs.length:=by simp
 have hbs:b<w.heap.size:=by
  obtain⟨k1,k2⟩:=J9 h6 (i:=0) (r:=enc xs[0]) (by simp[h0]);have:(enc xs[0])[0]?=some (enc xs[0])[0]:=BV (by omega);exact hst _ _ (KW k2 this).1
 refine⟨List.ofFn g,?_,⟨_,cap,by rw[List.length_map,hlen],by rw[hlen];exact h2,by rw[hlen];unfold Old.few;omega,fun _=>⟨b,off,rfl,hbs,fun i y j hi hj=>?_⟩⟩,fun y hy=>?_⟩
 ·apply List.ext_getElem?;intro i;rcases Nat.lt_or_ge i xs.length with hi|hi
  ·rw[List.getElem?_map,hg i hi];simp[hi]
  rw[List.getElem?_eq_none (by simpa using hi),List.getElem?_eq_none hi]
 ·have hil:i<xs.length:=by rw[←hlen];exact(Al.1 hi).1
  rw[hg i hil]at hi;injection hi with hi;subst hi;exact(each i hil).choose_spec.2 j hj
 obtain⟨i,hi⟩:=List.getElem?_of_mem hy;have hil:i<xs.length:=by rw[←hlen];exact(Al.1 hi).1
 rw[hg i hil]at hi;injection hi with hi;subst hi;exact(each i hil).choose_spec.1
theorem XH{es:List BM}{v:Value}(hfew:es.length≤1000)(h:Am St w (.sl 2 (es.map CG) none) v):Old.EntsR w (Old.Old w) v es:=by
 obtain⟨ys,h1,⟨A,c,h2,h3,h4,h5⟩,_⟩:=P9 hst (cell:=fun y:BM×Value=>Old.entCell y.1) (Sub:=fun _ _=>True) (by omega) hfew h (fun x _ _ c hc=>⟨.bool true,trivial,fun j hj=>by
  match j,hj with
  |0,_=>obtain⟨u,q1,q2⟩:=hc 0 _ rfl;simp only[Am]at q2;rw[q1,q2];rfl
  |1,_=>obtain⟨u,q1,q2⟩:=hc 1 _ rfl;simp only[Am]at q2;rw[q1,q2];rfl⟩)
 subst h1;refine⟨A,c,by rw[h2,List.length_map],by simpa using h3,by simpa using h4,fun hn=>?_⟩;obtain⟨b,off,e1,e2,e3⟩:=h5 (by simpa using hn);refine⟨b,off,e1,e2,fun i x j hi hj=>?_⟩;rw[List.getElem?_map]at hi
 cases hy:ys[i]? with
 |none=>rw[hy]at hi;cases hi
 |some y=>
   rw[hy]at hi;injection hi with hi;subst hi;exact e3 i y j hy hj
theorem XJ{ns:List Nod}{v:Value}(hfew:ns.length≤1000)(he:∀n∈ns,n.entries.length≤1000)(h:Am St w (.sl 8 (ns.map Ap) none) v):Old.NodsR w (Old.Old w) v ns:=
 P9 hst (cell:=Old.nodCell) (Sub:=fun n u=>Old.EntsR w (Old.Old w) u n.entries) (by omega) hfew h (fun x hx _ c hc=>by
  obtain⟨u0,p0,q0⟩:=hc 0 _ rfl;obtain⟨u1,p1,q1⟩:=hc 1 _ rfl;obtain⟨u2,p2,q2⟩:=hc 2 _ rfl;obtain⟨u3,p3,q3⟩:=hc 3 _ rfl;obtain⟨u4,p4,q4⟩:=hc 4 _ rfl;obtain⟨u5,p5,q5⟩:=hc 5 _ rfl;obtain⟨u6,p6,q6⟩:=hc 6 _ rfl;obtain⟨u7,p7,q7⟩:=hc 7 _ rfl;have q7':=XH hst (he x hx) q7;simp only[Am]at q0 q1 q2 q3 q4 q5 q6;subst q0 q1 q2 q3 q4 q5 q6;refine⟨u7,q7',fun j hj=>?_⟩
  match j,hj with
  |0,_=>exact p0
  |1,_=>exact p1
  |2,_=>exact p2
  |3,_=>exact p3
  |4,_=>exact p4
  |5,_=>exact p5
  |6,_=>exact p6
  |7,_=>exact p7)
theorem SS{f:Af}(hf:FlsB f){v:Value}(h:Am St w (.agg (At f)) v):Old.FlsR w (Old.Old w) v f:=by
 simp only[Am,At,BW]at h;obtain⟨ys,rfl,z,zs,rfl,h,rfl⟩:=h;have h':Am St w (.sl 2 (f.map Bo) none) z:=by simp only[Am];exact h
 refine⟨z,rfl,P9 hst (cell:=Old.dvcCell) (Sub:=fun d u=>Old.NodsR w (Old.Old w) u d.nodes) (by omega) hf.few h' (fun x hx _ c hc=>?_)⟩;obtain⟨u0,p0,q0⟩:=hc 0 _ rfl;obtain⟨u1,p1,q1⟩:=hc 1 _ rfl;have q1':=XJ hst (hf.nodes x hx) (hf.ents x hx) q1;simp only[Am]at q0;subst q0;refine⟨u1,q1',fun j hj=>?_⟩
 match j,hj with
 |0,_=>exact p0
 |1,_=>exact p1
end
theorem L9{α:Type}{sz:Nat}{cell:α→Nat→Value}{E:TypeId}{w:World}{base:Nat}{v:Value}{xs:List α}(h:Old.OwnL sz cell E w base v xs){St:Nat→Nat→Prop}(hst:∀b,v.ownBlock=some b→∀o,St b o){enc:α→List AV}(hlen:∀x∈xs,(enc x).length=sz)
    (hx:∀x∈xs,∀j av,(enc x)[j]?=some av→Am St w av (cell x j)):Am St w (.sl sz (xs.map enc) none) v:=by
 simp only[Am,true_and];obtain⟨⟨h0,h1⟩,h2⟩:=h;rcases h1 with⟨rfl,hn⟩|⟨g,cap,cur,rfl,hb,hg,hnc,hcm,hcs,htk⟩
 ·exact⟨none,0,by rw[List.length_map,hn],by rw[List.length_map,hn];exact B3 _,BR _, .inl (by rw[Ct hn];rfl)⟩
 refine⟨_,cap,by rw[List.length_map],by rw[List.length_map];exact hnc,hcm, .inr ⟨g,0,rfl,KX fun i r hi=>?_⟩⟩;rw[List.getElem?_map]at hi
 cases hy:xs[i]? with
 |none=>rw[hy]at hi;cases hi
 |some x=>
   rw[hy]at hi;injection hi with hi;subst hi;have hm:=B1 hy;refine⟨hlen x hm,Ji fun j av hj=>?_⟩;have hjl:j<sz:=by rw[←hlen x hm];exact(Al.1 hj).1
   have hil:=(Al.1 hy).1
   have hlt:i * sz+j<xs.length * sz:=by
    have h2:(i+1) * sz≤xs.length * sz:=Nat.mul_le_mul_right sz hil;rw[Nat.add_mul]at h2;omega
   have hc:cur.toList[i * sz+j]?=some (cell x j):=by
    rw[←Old.flat_get xs i j x hy hjl,←htk,List.getElem?_take,if_pos hlt]
   refine⟨hst g rfl _,cell x j,?_,h2 g cur E rfl hg _ (B1 hc),hx x hm j av hj⟩;rw[Nat.zero_add];simp only[World.cell?,hg]
   simpa using hc
theorem ST{α:Type}{sz:Nat}{cell:α→Nat→Value}{E:TypeId}{w:World}{base:Nat}{v:Value}{xs:List α}(h:Old.OwnL sz cell E w base v xs)(h0:0<xs.length){G:Gh}{rows:List (List AV)}(hp:0<sz)(hl:rows.length=xs.length)(hlen:∀r∈rows,r.length=sz)
    (hx:∀(i:Nat) (x:α) (r:List AV),xs[i]?=some x→rows[i]?=some r→∀j av,r[j]?=some av→rep G w av (cell x j)):
    ∃g cap,v= .slice (some ⟨g,0,none⟩) xs.length cap∧base≤g∧g<w.heap.size∧xs.length≤cap∧cap≤maxLen∧Lt G w g (CC sz cap rows):=by
 obtain⟨⟨h3,h1⟩,h2⟩:=h;rcases h1 with⟨rfl,hn⟩|⟨g,cap,cur,rfl,hb,hg,hnc,hcm,hcs,htk⟩
 ·omega
 refine⟨g,cap,rfl,hb,(Array.getElem?_eq_some_iff.1 hg).1,hnc,hcm,cur.toList,E,by simpa using hg,?_,h2 g cur E rfl hg⟩;have e:cur.toList=cur.toList.take (xs.length * sz)++cur.toList.drop (xs.length * sz):=(List.take_append_drop _ _).symm;rw[e];unfold CC;refine Kl ?_ ?_
 ·rw[htk];refine OT (by rw[JK hlen,hl,Old.flat_length]) fun i x hi=>?_;have hii:i=i / sz * sz+i % sz:=by rw[Nat.mul_comm];exact(Nat.div_add_mod i sz).symm
  have hk:i % sz<sz:=Nat.mod_lt _ hp;rw[hii,Me hlen hk]at hi
  cases hq:rows[i / sz]? with
  |none=>rw[hq]at hi;simp at hi
  |some r=>
    rw[hq]at hi;have hqx:i / sz<xs.length:=by rw[←hl];exact(Al.1 hq).1
    have hxx:xs[i / sz]?=some xs[i / sz]:=BV hqx;refine⟨cell xs[i / sz] (i % sz),?_,hx _ _ r hxx hq _ _ hi⟩;have:=Old.flat_get (cell:=cell) xs (i / sz) (i % sz) _ hxx hk
    rwa [←hii]at this
 have:(cur.toList.drop (xs.length * sz)).length=(cap - rows.length) * sz:=by
  rw[List.length_drop,hl,Nat.sub_mul,←hcs];simp
 rw[←this];exact Mf _
theorem XK{α β:Type}{f:α→List β}{l:List α}{i:Nat}{x:α}(hx:l[i]?=some x):l.flatMap f=(l.take i).flatMap f++(f x++(l.drop (i+1)).flatMap f):=by
 obtain⟨hi,rfl⟩:=Al.1 hx;rw[←List.flatMap_cons,←List.flatMap_append,←List.drop_eq_getElem_cons hi,List.take_append_drop]
def EP(f:Af)(K:Nat)(d:Dvc)(j cap1:Nat):List (List AV):=(f.map Bo).set K (Ff d j cap1)
theorem Mu(f:Af)(K:Nat)(d:Dvc)(j cap1:Nat):∀r∈EP f K d j cap1,r.length=2:=by
 intro r hr;rcases List.mem_or_eq_of_mem_set hr with h|h
 ·exact SF _ r h
 rw[h];rfl
theorem XL(f:Af)(K:Nat)(d:Dvc)(j cap1:Nat):(EP f K d j cap1).length=f.length:=by simp[EP]
theorem K1(f:Af)(K:Nat)(dK:Dvc)(hf:FlsB f)(hK:f[K]?=some dK)(hne:0<dK.nodes.length):
    ACall prog 182 [.agg (At f)] [] (fun r b t=>t=[]∧∃cap cap1,f.length≤cap∧dK.nodes.length≤cap1∧b=[CC 2 cap (EP f K dK 1 cap1),CC 8 cap1 (dK.nodes.map Ap)]∧r= .agg [.bs 0 0 2 f.length cap]):=by
 intro w St bl vs hr hv;have hbl:bl=[]:=by have:=hr.bxlen;simpa using this
 subst hbl;simp only[AY]at hv;obtain⟨z,zs,rfl,hz,rfl⟩:=hv;have hz':Am St w (.agg (At f)) z:=by have:=EX _ _ hz;simpa[CU,DO,At]using this
 have hF:=SS hr.stlt hf hz';refine Calls.mono (Old.Copy_any z f w hF) ?_;rintro e w' ⟨dv,L,rfl,hD,hL,hB⟩;have hsz:=hB.size;have hLl:L.length=f.length:=by rw[←hL];simp[Old.flsOf]
 have hKl:=(Al.1 hK).1
 obtain⟨x,hx,hxd⟩:∃x,L[K]?=some x∧Old.dvcOf x=dK:=by
  have h1:L[K]?=some L[K]:=BV (by omega);refine⟨_,h1,?_⟩;have:=hK;rw[←hL,Old.flsOf,List.getElem?_map,h1]at this;injection this
 have hxm:=B1 hx;obtain⟨d1,d2,d3,d4⟩:=hD;obtain⟨e1,e2,e3⟩:=d2 x hxm |>.1;have hyl:0<x.2.2.length:=by rw[←hxd]at hne;simpa[Old.dvcOf]using hne
 have form:∀{α:Type} {sz:Nat} {cell:α→Nat→Value} {E:TypeId} {base:Nat} {v:Value} {xs:List α},Old.OwnL sz cell E w' base v xs→0<xs.length→∃g cap,v= .slice (some ⟨g,0,none⟩) xs.length cap:=by
  intro α sz cell E base v xs h h0;rcases h.1.2 with⟨_,hn⟩|⟨g,cap,cur,rfl,_⟩
  ·omega
  exact⟨g,cap,rfl⟩
 obtain⟨g0,cap,hdv⟩:=form d1 (by omega);obtain⟨g1,cap1,hnv⟩:=form e1 hyl;have hb0:g0∈Old.blk dv:=Old.mem_blk.2 (by rw[hdv];rfl);have hb1:g1∈Old.blk x.2.1:=Old.mem_blk.2 (by rw[hnv];rfl);have nd:=List.nodup_append.1 d3;have hin:∀y∈L,∀b∈Old.fpN y.2.1 y.2.2,b∈L.flatMap fun x=>Old.fpN x.2.1 x.2.2:=fun y hy b hb=>List.mem_flatMap.2 ⟨y,hy,hb⟩;have h01:g0≠g1:=fun e=>nd.2.2 g0 hb0 g1 (hin x hxm g1 (List.mem_append_left _ hb1)) e;let St':Nat→Nat→Prop:=fun b o=>St b o∨(w.heap.size≤b∧b<w'.heap.size∧b≠g0∧b≠g1);let G':Gh:=⟨St',[g0,g1],[]⟩
 have hfresh:∀b∈Old.fpD dv L,b≠g0→b≠g1→∀o,St' b o:=fun b hb n0 n1 o=>by
  have:=Old.DvcsAt.fp_lt (w:=w') ⟨d1,d2,d3,d4⟩ b hb;exact .inr ⟨this.1,this.2,n0,n1⟩
 -- a list of entries that lies in blocks that stay
 have hents:∀(y:Nod×Value),Old.OwnL 2 Old.entCell 234 w' w.heap.size y.2 y.1.entries→(∀b∈Old.blk y.2,∀o,St' b o)→Am St' w' (.sl 2 (y.1.entries.map CG) none) y.2:=by
  intro y hy hb;refine L9 hy (fun b h=>hb b (Old.mem_blk.2 h)) (fun _ _=>rfl) fun e _ j av hj=>?_
  match j,hj with
  |0,hj=>injection hj with hj;subst hj;simp only[Am];rfl
  |1,hj=>injection hj with hj;subst hj;simp only[Am];rfl
 have hnod:∀(y:Nod×Value),Old.OwnL 2 Old.entCell 234 w' w.heap.size y.2 y.1.entries→(∀b∈Old.blk y.2,∀o,St' b o)→∀j av,(Ap y.1)[j]?=some av→Am St' w' av (Old.nodCell y j):=by
  intro y hy hb j av hj
  match j,hj with
  |0,hj=>injection hj with hj;subst hj;simp only[Am];rfl
  |1,hj=>injection hj with hj;subst hj;simp only[Am];rfl
  |2,hj=>injection hj with hj;subst hj;simp only[Am];rfl
  |3,hj=>injection hj with hj;subst hj;simp only[Am];rfl
  |4,hj=>injection hj with hj;subst hj;simp only[Am];rfl
  |5,hj=>injection hj with hj;subst hj;simp only[Am];rfl
  |6,hj=>injection hj with hj;subst hj;simp only[Am];rfl
  |7,hj=>injection hj with hj;subst hj;exact hents y hy hb
  |j+8,hj=>exact absurd hj (by simp[Ap])
 have hne0:∀y∈L,∀b∈Old.fpN y.2.1 y.2.2,b≠g0:=fun y hy b hb e=>nd.2.2 g0 hb0 b (hin y hy b hb) e.symm
 have hfp:∀y∈L,∀b∈Old.fpN y.2.1 y.2.2,b∈Old.fpD dv L:=fun y hy b hb=>List.mem_append_right _ (hin y hy b hb)
 -- the boxes
 obtain⟨g1',cap1',q1,q2,q3,q4,q5,q6⟩:=ST (G:=G') e1 hyl (rows:=dK.nodes.map Ap) (by omega) (by rw[←hxd];simp[Old.dvcOf]) (Hq _) (by
  intro i y r hi hri j av hj;have hnm:dK.nodes[i]?=some y.1:=by rw[←hxd,Old.dvcOf];simp[hi]
  rw[List.getElem?_map,hnm]at hri;injection hri with hri;subst hri;have hym:=B1 hi;refine F0 _ _ (hnod y (e2 y hym).1 (fun b hb=>hfresh b (hfp x hxm b (List.mem_append_right _ (List.mem_flatMap.2 ⟨y,hym,hb⟩))) (hne0 x hxm b (List.mem_append_right _ (List.mem_flatMap.2 ⟨y,hym,hb⟩))) fun e=>?_) j av hj)
  exact(List.nodup_append.1 e3).2.2 g1 hb1 b (List.mem_flatMap.2 ⟨y,hym,hb⟩) e.symm)
 rw[hnv]at q1;simp only[Value.slice.injEq,Option.some.injEq,Addr.mk.injEq,and_true,true_and]at q1;obtain⟨rfl,rfl⟩:=q1
 obtain⟨g0',cap',p1,p2,p3,p4,p5,p6⟩:=ST (G:=G') d1 (by omega) (rows:=EP f K dK 1 cap1) (by omega) (by rw[XL,hLl]) (Mu _ _ _ _ _) (by
  intro i y r hi hri j av hj;have hfi:f[i]?=some (Old.dvcOf y):=by rw[←hL,Old.flsOf,List.getElem?_map,hi];rfl
  have hym:=B1 hi;unfold EP at hri;by_cases hiK:K=i
  ·subst hiK;rw[hx]at hi;injection hi with hi;subst hi;rw[List.getElem?_set_self (by simp;omega)]at hri;injection hri with hri;subst hri
   match j,hj with
   |0,hj=>injection hj with hj;subst hj;simp only[rep];rw[←hxd];rfl
   |1,hj=>
     injection hj with hj;subst hj;simp only[rep];refine⟨g1,rfl,?_,?_,q5⟩
     ·show x.2.1=_;rw[hnv,←hxd];simp[Old.dvcOf]
     rw[←hxd];simpa[Old.dvcOf]using q4
   |j+2,hj=>exact absurd hj (by simp[Ff])
  rw[List.getElem?_set_ne hiK,List.getElem?_map,hfi]at hri;injection hri with hri;subst hri
  have hn1:∀b∈Old.fpN y.2.1 y.2.2,b≠g1:=by
   intro b hb e;subst e;have hd2:=nd.2.1;have hil:=(Al.1 hi).1;rw[XK hx]at hd2;obtain⟨c1,c2,c3⟩:=List.nodup_append.1 hd2;obtain⟨c4,c5,c6⟩:=List.nodup_append.1 c2;rcases Nat.lt_or_ge i K with hlt|hge
   ·exact c3 b (List.mem_flatMap.2 ⟨y,List.mem_iff_getElem?.2 ⟨i,by rw[List.getElem?_take,if_pos hlt];exact hi⟩,hb⟩) b (List.mem_append_left _ (List.mem_append_left _ hb1)) rfl
   exact c6 b (List.mem_append_left _ hb1) b (List.mem_flatMap.2 ⟨y,List.mem_iff_getElem?.2 ⟨i - (K+1),by rw[List.getElem?_drop,show K+1+(i - (K+1))=i by omega];exact hi⟩,hb⟩) rfl
  obtain⟨f1,f2,f3⟩:=(d2 y hym).1
  match j,hj with
  |0,hj=>injection hj with hj;subst hj;simp only[rep];rfl
  |1,hj=>
    injection hj with hj;subst hj
    have key:=L9 f1 (St:=St') (fun b h=>hfresh b (hfp y hym b (List.mem_append_left _ (Old.mem_blk.2 h))) (hne0 y hym b (List.mem_append_left _ (Old.mem_blk.2 h))) (hn1 b (List.mem_append_left _ (Old.mem_blk.2 h)))) (enc:=fun y=>Ap y.1) (fun _ _=>rfl) fun z hz j av hj=>
     hnod z (f2 z hz).1 (fun b hb=>hfresh b (hfp y hym b (List.mem_append_right _ (List.mem_flatMap.2 ⟨z,hz,hb⟩))) (hne0 y hym b (List.mem_append_right _ (List.mem_flatMap.2 ⟨z,hz,hb⟩))) (hn1 b (List.mem_append_right _ (List.mem_flatMap.2 ⟨z,hz,hb⟩)))) j av hj
    have e:((Old.dvcOf y).nodes.map Ap)=y.2.2.map fun y=>Ap y.1:=by simp[Old.dvcOf]
    rw[e];exact F0 _ _ key
  |j+2,hj=>exact absurd hj (by simp[Bo]))
 rw[hdv]at p1;simp only[Value.slice.injEq,Option.some.injEq,Addr.mk.injEq,and_true,true_and]at p1;obtain⟨rfl,rfl⟩:=p1;have hst:∀b o,St b o→b<w.heap.size:=hr.stlt;refine⟨.agg [.bs 0 0 2 f.length cap],_,_,G',⟨rfl,cap,cap1,by omega,by rw[←hxd];simpa[Old.dvcOf]using q4,rfl,rfl⟩,⟨?_,?_,?_,?_,rfl,?_,?_,?_,?_,rfl,?_,?_,?_⟩,⟨?_,?_,?_⟩,?_⟩
 ·intro i b hi;simp at hi
 ·exact⟨hB.os,hB.tape,hB.output,hB.size,fun k hk _=>hB.block k hk⟩
 ·rintro b o (h|h)
  ·have:=hst b o h;omega
  exact h.2.1
 ·rintro b o (h|h)
  ·exact .inl h
  exact .inr h.1
 ·show[g0,g1].Nodup
  simpa using h01
 ·rintro b hb o (h|h)
  ·have:=hst b o h;simp[G']at hb;rcases hb with rfl|rfl<;>omega
  simp[G']at hb;rcases hb with rfl|rfl
  ·exact h.2.2.1 rfl
  exact h.2.2.2 rfl
 ·intro b hb;simp[G']at hb;rcases hb with rfl|rfl
  ·exact .inl p2
  exact .inl q2
 ·intro i b row hi hrow
  match i,hi,hrow with
  |0,hi,hrow=>simp[G']at hi;simp at hrow;subst hi;subst hrow;exact p6
  |1,hi,hrow=>simp[G']at hi;simp at hrow;subst hi;subst hrow;exact q6
  |i+2,hi,_=>simp[G']at hi
 ·intro g n u T sz rows hg;simp[G']at hg
 ·intro g n u hg;simp[G']at hg
 ·intro g g' n n' u u' hg;simp[G']at hg
 ·exact fun b o h=>⟨.inl h,hB.cell (p:=⟨b,o,none⟩) (hst b o h)⟩
 ·intro i b hi;simp at hi
 ·intro g n u hg;simp at hg
 simp only[rep,AY];exact⟨[dv],rfl,dv,[],rfl,⟨g0,rfl,by rw[hdv,hLl],by omega,p5⟩,rfl⟩
theorem Mv(f:Nat→Option Nat):∀xs:List AV,EZ f xs=xs.map (EL f)
 |[]=>rfl
 |x::xs=>by simp[EZ,Mv f xs]
theorem PA(f:Nat→Option Nat):∀xs:List AV,F8 f xs=xs.map (Ea f)
 |[]=>rfl
 |x::xs=>by simp[F8,PA f xs]
theorem LA(g:Nat→Option (List AV)):∀xs:List AV,FZ g xs=xs.map (DR g)
 |[]=>rfl
 |x::xs=>by simp[FZ,LA g xs]
theorem LC(F:AV→AV)(h:F .any= .any)(sz cap:Nat)(rows:List (List AV)):(CC sz cap rows).map F=CC sz cap (rows.map (·.map F)):=by
 simp[CC,h,List.map_flatten]
theorem PB{n m:Nat}{xs:List AV}:BB n m xs=true↔∀x∈xs,BA n m x=true:=by
 induction xs with
 |nil=>simp[BB]
 |cons x xs ih=>simp[BB,ih]
theorem PC{n m sz cap:Nat}{rows:List (List AV)}(h:∀r∈rows,BB n m r=true):BB n m (CC sz cap rows)=true:=by
 rw[PB];intro x hx;unfold CC at hx;rcases List.mem_append.1 hx with hx|hx
 ·obtain⟨r,hr,hx⟩:=List.mem_flatten.1 hx;exact PB.1 (h r hr) x hx
 rw[(List.mem_replicate.1 hx).2];rfl
def DB(f:Af)(K:Nat)(d:Dvc)(j cap cap1:Nat):List AV:=CC 2 cap (EP f K d j cap1)
def NB(ns:List Nod)(cap1:Nat):List AV:=CC 8 cap1 (ns.map Ap)
theorem Bl{n m:Nat}{f:Af}{K:Nat}{d:Dvc}{j cap cap1:Nat}(hj:j<n):BB n m (DB f K d j cap cap1)=true:=by
 refine PC fun r hr=>?_;rcases List.mem_or_eq_of_mem_set hr with h|h
 ·obtain⟨d',_,rfl⟩:=List.mem_map.1 h;rfl
 rw[h];simp[Ff,BB,BA,hj]
theorem Bm{n m:Nat}{ns:List Nod}{cap1:Nat}:BB n m (NB ns cap1)=true:=by
 refine PC fun r hr=>?_;obtain⟨d',_,rfl⟩:=List.mem_map.1 hr;rfl
section
variable {F:AV→AV}(hany:F .any= .any)(hv:∀x,F (.v x)= .v x)(hs:∀sz rows,F (.sl sz rows none)= .sl sz rows none)
include hany hv hs
theorem PD(ns:List Nod)(cap1:Nat):(NB ns cap1).map F=NB ns cap1:=by
 unfold NB;rw[LC F hany,List.map_map]
 congr 1
 apply List.map_congr_left;intro n _;simp[Ap,hv,hs]
theorem SU(f:Af):(f.map Bo).map (·.map F)=f.map Bo:=by
 have _:=hany;rw[List.map_map];apply List.map_congr_left;intro n _;simp[Bo,hv,hs]
theorem SV(f:Af)(K:Nat)(d:Dvc){j j':Nat}(cap cap1:Nat)(hb:F (.bs j 0 8 d.nodes.length cap1)= .bs j' 0 8 d.nodes.length cap1):(DB f K d j cap cap1).map F=DB f K d j' cap cap1:=by
 unfold DB EP;rw[LC F hany,List.map_set,SU hany hv hs];simp[Ff,hv,hb]
theorem XM{f:Af}{K:Nat}{d:Dvc}{j cap cap1:Nat}(hK:f[K]?=some d)(hb:F (.bs j 0 8 d.nodes.length cap1)= .sl 8 (d.nodes.map Ap) none):(DB f K d j cap cap1).map F=CC 2 cap (f.map Bo):=by
 unfold DB EP;rw[LC F hany,List.map_set,SU hany hv hs];have e:(Ff d j cap1).map F=Bo d:=by simp[Ff,hv,hb,Bo]
 rw[e]
 congr 1
 apply List.ext_getElem?;intro i;rw[List.getElem?_set];split
 ·rename_i e1;subst e1;obtain⟨h1,h2⟩:=Al.1 hK;simp[h1,h2]
 rfl
end
theorem FE{g:Nat→Option Nat}{j j':Nat}(h:g j=some j')(f:Af)(K:Nat)(d:Dvc)(cap cap1:Nat):EZ g (DB f K d j cap cap1)=DB f K d j' cap cap1:=by
 rw[Mv];exact SV rfl (fun _=>rfl) (fun _ _=>rfl) f K d cap cap1 (by simp[EL,h])
theorem Et(g:Nat→Option Nat)(ns:List Nod)(cap1:Nat):EZ g (NB ns cap1)=NB ns cap1:=by
 rw[Mv];exact PD rfl (fun _=>rfl) (fun _ _=>rfl) ns cap1
theorem Hs{g:Nat→Option Nat}{j j':Nat}(h:g j=some j')(f:Af)(K:Nat)(d:Dvc)(cap cap1:Nat):F8 g (DB f K d j cap cap1)=DB f K d j' cap cap1:=by
 rw[PA];exact SV rfl (fun _=>rfl) (fun _ _=>rfl) f K d cap cap1 (by simp[Ea,h])
theorem Fu(g:Nat→Option Nat)(ns:List Nod)(cap1:Nat):F8 g (NB ns cap1)=NB ns cap1:=by
 rw[PA];exact PD rfl (fun _=>rfl) (fun _ _=>rfl) ns cap1
theorem XN(g:Nat→Option (List AV))(ns:List Nod)(cap1:Nat):FZ g (NB ns cap1)=NB ns cap1:=by
 rw[LA];exact PD rfl (fun _=>rfl) (fun _ _=>rfl) ns cap1
theorem LD{ns:List Nod}{cap1:Nat}(h:ns.length≤cap1):(NB ns cap1).length=cap1 * 8:=SE (Hq _) (by simpa using h)
theorem PF{g:Nat→Option (List AV)}{j sz n cap0 cap:Nat}{rows:List (List AV)}(hg:g j=some (CC sz cap rows))(hr:∀r∈rows,r.length=sz)(hn:n=rows.length)(hc:rows.length≤cap):DR g (.bs j 0 sz n cap0)= .sl sz rows none:=by
 subst hn;have hl:=SE hr hc
 have hb:Nat.ble (0+rows.length * sz) (CC sz cap rows).length=true:=by
  rw[hl,Nat.ble_eq];have:=Nat.mul_le_mul_right sz hc;omega
 simp only[DR,hg,hb,List.drop_zero];unfold CC;rw[RP hr]
theorem XO{n:Nat}{bx:List (List AV)}{k j:Nat}{ns:List Nod}{cap1:Nat}(hn:n≤j)(hj:bx[j]?=some (NB ns cap1)):D3 n bx (k+1) j=some (NB ns cap1):=by
 have:Nat.blt j n=false:=by rw[←Bool.not_eq_true,Nat.blt_eq];omega
 simp only[D3,this,hj,Option.map_some,XN]
theorem XP{n:Nat}{bx:List (List AV)}{k i j:Nat}{f:Af}{K:Nat}{d:Dvc}{cap cap1:Nat}(hK:f[K]?=some d)(hc1:d.nodes.length≤cap1)(hni:n≤i)(hnj:n≤j)(hi:bx[i]?=some (DB f K d j cap cap1))(hj:bx[j]?=some (NB d.nodes cap1)):
    D3 n bx (k+2) i=some (CC 2 cap (f.map Bo)):=by
 have:Nat.blt i n=false:=by rw[←Bool.not_eq_true,Nat.blt_eq];omega
 rw[show k+2=(k+1)+1 from rfl,D3];simp only[this,hi,Option.map_some,LA];rw[XM rfl (fun _=>rfl) (fun _ _=>rfl) hK];exact PF (XO hnj hj) (Hq _) (by simp) (by simpa using hc1)
theorem Ht{n:Nat}{bx:List (List AV)}{k i j:Nat}{f:Af}{K:Nat}{d:Dvc}{cap cap0 cap1:Nat}(hK:f[K]?=some d)(hc:f.length≤cap)(hc1:d.nodes.length≤cap1)(hni:n≤i)(hnj:n≤j)(hi:bx[i]?=some (DB f K d j cap cap1))(hj:bx[j]?=some (NB d.nodes cap1)):
    DR (D3 n bx (k+2)) (.agg [.bs i 0 2 f.length cap0])= .agg (At f):=by
 show AV.agg [DR _ _]=_;unfold At;rw[PF (XP hK hc1 hni hnj hi hj) (SF _) (by simp) (by simpa using hc)]
theorem Mw{sz cap:Nat}{rows:List (List AV)}{q k:Nat}{r:List AV}{x:AV}(hr:∀r∈rows,r.length=sz)(hq:rows[q]?=some r)(hx:r[k]?=some x):(CC sz cap rows)[0+q * sz+k]?=some x:=by
 have hk:k<sz:=by rw[←hr r (B1 hq)];exact(Al.1 hx).1
 have e:=Me hr hk (q:=q);rw[hq]at e;simp only[Option.bind_some]at e;rw[hx]at e;unfold CC;rw[Nat.zero_add,CT (Al.1 e).1];exact e
theorem XQ{sz cap:Nat}{rows:List (List AV)}{q:Nat}{r:List AV}(hr:∀r∈rows,r.length=sz)(hq:rows[q]?=some r):((CC sz cap rows).drop (0+q * sz)).take sz=r:=by
 have hrl:=hr r (B1 hq);apply List.ext_getElem?;intro k;rw[List.getElem?_take];split
 ·rename_i hk;rw[List.getElem?_drop];have hx:r[k]?=some r[k]:=BV (by omega);rw[Mw hr hq hx,hx]
 rw[List.getElem?_eq_none (by omega)]
theorem SW{sz cap:Nat}{rows:List (List AV)}{q k:Nat}{r r' cs:List AV}(hr:∀r∈rows,r.length=sz)(hq:rows[q]?=some r)(hs:SetAt r k cs r')(hne:cs≠[]):SetAt (CC sz cap rows) (0+q * sz+k) cs (CC sz cap (rows.set q r')):=by
 unfold CC;rw[Nat.zero_add,List.length_set];exact(Vq hr hq hs hne).left _
theorem PG{f:Af}{K:Nat}{d:Dvc}{j cap1:Nat}(hK:K<f.length):(EP f K d j cap1)[K]?=some (Ff d j cap1):=by
 unfold EP;rw[List.getElem?_set_self (by simpa using hK)]
theorem GP{f:Af}{K:Nat}{d:Dvc}{j cap cap1:Nat}(hK:K<f.length):(DB f K d j cap cap1)[0+K * 2+1]?=some (.bs j 0 8 d.nodes.length cap1):=Mw (Mu _ _ _ _ _) (PG hK) rfl
theorem XR{f:Af}{K:Nat}{d:Dvc}{j cap cap1:Nat}(hK:K<f.length):(DB f K d j cap cap1)[0+K * 2+0]?=some (.v (.int .i64 d.next)):=Mw (Mu _ _ _ _ _) (PG hK) rfl
theorem Gv{ns:List Nod}{cap1 i:Nat}{n:Nod}(h:ns[i]?=some n):((NB ns cap1).drop (0+i * 8)).take 8=Ap n:=XQ (Hq _) (by rw[List.getElem?_map,h];rfl)
theorem SX{ns:List Nod}{cap1 i k:Nat}{n:Nod}{x:AV}(h:ns[i]?=some n)(hx:(Ap n)[k]?=some x):(NB ns cap1)[0+i * 8+k]?=some x:=Mw (Hq _) (by rw[List.getElem?_map,h];rfl) hx
theorem PH{ns:List Nod}{cap1 i k:Nat}{n n':Nod}{cs:List AV}(h:ns[i]?=some n)(hs:SetAt (Ap n) k cs (Ap n'))(hne:cs≠[]):SetAt (NB ns cap1) (0+i * 8+k) cs (NB (ns.set i n') cap1):=by
 have key:=SW (cap:=cap1) (Hq ns) (by rw[List.getElem?_map,h];rfl) hs hne;rw[←List.map_set]at key;exact key
theorem PJ{f:Af}{K:Nat}{d d':Dvc}{j j' cap cap1 cap1' k:Nat}{cs:List AV}(hK:K<f.length)(hs:SetAt (Ff d j cap1) k cs (Ff d' j' cap1'))(hne:cs≠[]):SetAt (DB f K d j cap cap1) (0+K * 2+k) cs (DB f K d' j' cap cap1'):=by
 have key:=SW (cap:=cap) (Mu f K d j cap1) (PG hK) hs hne;unfold EP at key;rw[List.set_set]at key;exact key
theorem PK(f:Af)(K:Nat)(d d':Dvc)(j cap cap1:Nat):DB (f.set K d') K d j cap cap1=DB f K d j cap cap1:=by
 unfold DB EP;rw[List.map_set,List.set_set]
theorem LeA.tok(sz:Nat)(rows:List (List AV))(g:Option Nat):LeA (.sl sz rows g) (.sl sz rows none):=fun G w v h=>by
 cases g with
 |none=>exact h
 |some g=>simp only[rep]at h ⊢;exact h.1
section
variable {P:Program}{ev:Operand→Option AV}{h:AH}{R:AV→AH→Prop}{d:Option Tmp}{ty:TypeId}{pos:String}{af:Array Edge}{gd:Option (Nat×Bool)}
theorem DZ{T:TypeId}{x:Operand}{sz i o:Nat}{row cs:List AV}[ht:Typ P T sz true](hx:ev x=some (.bp i o))(hb:h.bx[i]?=some row)(hr:o+sz≤row.length)(he:(row.drop o).take sz=cs)(hR:R (.agg cs) h):AStep P ⟨d, .load T x,ty,pos,af,gd⟩ ev h R:=by
 subst he;exact EY hx hb (by rw[Nat.ble_eq];exact hr) hR
end
end Go.Proofs.YtbgnigjfkbmceaaGreatDoor
namespace Go.Proofs.YtbgnigjfkbmceaaGreatDoor
abbrev Bs:=List UInt8
def Dg(l:Bs):Bool:=decide (l≠[]∧l.length≤12∧l≠[46]∧l≠[46,46]∧(0:UInt8)∉l∧(47:UInt8)∉l)
theorem LE{l:Bs}:Dg l=true↔l≠[]∧l.length≤12∧l≠[46]∧l≠[46,46]∧(0:UInt8)∉l∧(47:UInt8)∉l:=decide_eq_true_iff
def C0:Bs→List Bs
 |[]=>[[]]
 |c::t=>if c=47 then[]::C0 t else match C0 t with
   |[]=>[[c]]
   |h::r=>(c::h)::r
def ne_(p:Bs):Bool:=decide (p≠[])
def Br(l:Bs):List Bs:=(C0 l).filter ne_
def Co(ps:List Bs):Bs:=ps.flatMap fun p=>47::p
theorem Mx(l:Bs):C0 l≠[]:=by
 cases l with
 |nil=>simp[C0]
 |cons c t=>
   unfold C0;split
   ·simp
   split<;>simp
theorem PL(c:UInt8)(t:Bs):C0 (c::t)=if c=47 then[]::C0 t else match C0 t with
    |[]=>[[c]]
    |h::r=>(c::h)::r:=rfl
theorem SY(u t:Bs):C0 (u++47::t)=C0 u++C0 t:=by
 induction u with
 |nil=>simp[C0]
 |cons c u ih=>
   rw[List.cons_append,PL,PL,ih];by_cases hc:c=47
   ·simp[hc]
   rw[if_neg hc,if_neg hc]
   cases h:C0 u with
   |nil=>exact absurd h (Mx u)
   |cons a r=>simp
theorem My{l:Bs}(h:(47:UInt8)∉l):C0 l=[l]:=by
 induction l with
 |nil=>rfl
 |cons c t ih=>
   simp only[List.mem_cons,not_or]at h;unfold C0;rw[if_neg (fun e=>h.1 e.symm),ih h.2]
theorem SZ{a:Bs}(h:(47:UInt8)∉a)(b:Bs):C0 (a++47::b)=a::C0 b:=by
 rw[SY,My h];rfl
theorem Fg(p:Bs)(ps:List Bs):Co (p::ps)=47::(p++Co ps):=by simp[Co]
theorem PM(ps qs:List Bs):Co (ps++qs)=Co ps++Co qs:=by simp[Co]
theorem Sa:∀(ps:List Bs) (p:Bs),(47:UInt8)∉p→(∀q∈ps,(47:UInt8)∉q)→C0 (p++Co ps)=p::ps:=by
 intro ps
 induction ps with
 |nil=>intro p hp _;simp[Co,My hp]
 |cons q ps ih=>
   intro p hp hq;rw[Fg,SZ hp,ih q (hq q (by simp)) fun x hx=>hq x (by simp[hx])]
theorem PN(l:Bs):Co (C0 l)=47::l:=by
 induction l with
 |nil=>simp[C0,Co]
 |cons c t ih=>
   unfold C0;by_cases hc:c=47
   ·rw[if_pos hc,Fg,ih,hc];rfl
   rw[if_neg hc]
   cases h:C0 t with
   |nil=>exact absurd h (Mx t)
   |cons a r=>
     rw[h]at ih;rw[Fg]at ih ⊢;simp only[List.cons.injEq,true_and]at ih;simp[ih]
theorem Hu:Br []=[]:=by simp[Br,C0,ne_]
theorem LF(u t:Bs):Br (u++47::t)=Br u++Br t:=by simp[Br,SY]
def one_(p:Bs):List Bs:=if p=[]then[]else[p]
theorem Mz{l:Bs}(h:(47:UInt8)∉l):Br l=one_ l:=by
 unfold Br one_;rw[My h];by_cases e:l=[]<;>simp[e,ne_]
theorem XS{a:Bs}(h:(47:UInt8)∉a)(b:Bs):Br (a++47::b)=one_ a++Br b:=by rw[LF,Mz h]
def PO(u:Bs):Prop:=u=[]∨∃u',u=u'++[47]
theorem Sb{u p:Bs}(hu:PO u)(hp:(47:UInt8)∉p):Br (u++p)=Br u++one_ p:=by
 rcases hu with rfl|⟨u',rfl⟩
 ·simp[Hu,Mz hp]
 have e:u'++[47]++p=u'++47::p:=by simp
 rw[e,LF,LF,Hu,Mz hp];simp
theorem XT{u p:Bs}(hu:PO u)(hp:(47:UInt8)∉p):Br (u++p++[47])=Br u++one_ p:=by
 rw[LF,Sb hu hp,Hu,List.append_nil]
def DJ(l:Bs):Bool:=decide (l=[47])||(decide (l.head?=some 47)&&(C0 l.tail).all Dg)
def LG(l:Bs):Bool:=(Br l).all Dg&&(decide (l=[47])||(decide (Br l≠[])&&decide (l=Co (Br l))))
theorem N0{p:Bs}(h:Dg p=true):(47:UInt8)∉p:=(LE.1 h).2.2.2.2.2
theorem XU{p:Bs}(h:Dg p=true):p≠[]:=(LE.1 h).1
theorem XV(l:Bs):DJ l=true↔l=[47]∨∃ps,ps≠[]∧(∀p∈ps,Dg p=true)∧l=Co ps:=by
 unfold DJ;rw[Bool.or_eq_true,Bool.and_eq_true,decide_eq_true_iff,decide_eq_true_iff];constructor
 ·rintro(h|⟨h,ha⟩)
  ·exact .inl h
  cases l with
  |nil=>simp at h
  |cons c t=>
    simp at h;subst h;exact .inr ⟨C0 t,Mx t,by simpa using ha,(PN t).symm⟩
 rintro(h|⟨ps,hne,hn,rfl⟩)
 ·exact .inl h
 cases ps with
 |nil=>exact absurd rfl hne
 |cons p ps=>
   right;rw[Fg];refine⟨rfl,?_⟩;show(C0 (p++Co ps)).all Dg=true;rw[Sa ps p (N0 (hn p (by simp))) fun q hq=>N0 (hn q (by simp[hq]))]
   simpa using hn
theorem XW{ps:List Bs}(hn:∀p∈ps,Dg p=true):Br (Co ps)=ps:=by
 cases ps with
 |nil=>simp[Co,Hu]
 |cons p ps=>
   rw[Fg];have:=LF [] (p++Co ps);rw[List.nil_append]at this;rw[this,Hu,List.nil_append];unfold Br;rw[Sa ps p (N0 (hn p (by simp))) fun q hq=>N0 (hn q (by simp[hq]))];rw[List.filter_eq_self];intro a ha
   simpa[ne_]using XU (hn a ha)
theorem XX:Br [47]=[]:=by simp[Br,C0,ne_]
theorem PP(l:Bs):LG l=DJ l:=by
 rw[Bool.eq_iff_iff,XV];unfold LG;rw[Bool.and_eq_true,Bool.or_eq_true,Bool.and_eq_true,decide_eq_true_iff,decide_eq_true_iff,decide_eq_true_iff,List.all_eq_true];constructor
 ·rintro⟨ha,h|⟨h1,h2⟩⟩
  ·exact .inl h
  exact .inr ⟨_,h1,ha,h2⟩
 rintro(rfl|⟨ps,h1,h2,rfl⟩)
 ·exact⟨by simp[XX], .inl rfl⟩
 rw[XW h2];exact⟨h2, .inr ⟨h1,rfl⟩⟩
end Go.Proofs.YtbgnigjfkbmceaaGreatDoor
namespace Go.Proofs.YtbgnigjfkbmceaaGreatDoor
def C6(xs:List AM):List Bs:=xs.map fun x=>x.data.toList
theorem PQ(x:UInt8):((x.toNat:Int)==47)=decide (x=47):=by
 rw[Bool.eq_iff_iff,beq_iff_eq,decide_eq_true_iff];constructor
 ·intro h;apply UInt8.toNat_inj.1;have:(47:UInt8).toNat=47:=rfl;omega
 rintro rfl;rfl
def Dh(l:Bs)(f k:Nat)(bs:List Bs):Prop:=(k≤l.length∧f≤k∧PO (l.take f)∧(47:UInt8)∉(l.drop f).take (k - f)∧bs=Br (l.take f))∨(k=l.length+1∧bs=Br l)
theorem XY{l:Bs}{f k:Nat}{bs:List Bs}{x:UInt8}(h:Dh l f k bs)(hx:l[k]?=some x)(hne:x≠47):Dh l f (k+1) bs:=by
 have hk:=(Al.1 hx).1;rcases h with⟨h1,h2,h3,h4,h5⟩|⟨h1,h2⟩
 ·refine .inl ⟨hk,by omega,h3,?_,h5⟩;rw[show k+1 - f=(k - f)+1 by omega,List.take_add_one];have:(l.drop f)[k - f]?=some x:=by rw[List.getElem?_drop,show f+(k - f)=k by omega];exact hx
  rw[this];simp only[Option.toList_some,List.mem_append,List.mem_singleton,not_or];exact⟨h4,fun e=>hne e.symm⟩
 omega
theorem Sc{l:Bs}{f k:Nat}(h:f≤k):l.take k=l.take f++(l.drop f).take (k - f):=by
 rw[show k=f+(k - f) by omega,List.take_add];simp
theorem XZ{l:Bs}{f k:Nat}{bs:List Bs}(h:Dh l f k bs)(hx:l[k]?=some 47):Dh l (k+1) (k+1) (bs++one_ ((l.drop f).take (k - f))):=by
 have hk:=(Al.1 hx).1;rcases h with⟨h1,h2,h3,h4,h5⟩|⟨h1,h2⟩
 ·have e:l.take (k+1)=l.take f++(l.drop f).take (k - f)++[47]:=by rw[List.take_add_one,hx,Sc h2];rfl
  refine .inl ⟨hk,B3 _, .inr ⟨_,e⟩,by simp,?_⟩;rw[e,XT h3 h4,h5]
 omega
theorem Xa{l:Bs}{f:Nat}{bs:List Bs}(h:Dh l f l.length bs):Dh l (l.length+1) (l.length+1) (bs++one_ ((l.drop f).take (l.length - f))):=by
 rcases h with⟨h1,h2,h3,h4,h5⟩|⟨h1,h2⟩
 ·refine .inr ⟨rfl,?_⟩;have e:=Sc (l:=l) h2;rw[List.take_length]at e;have h6:=Sb h3 h4;rw[←e]at h6;rw[h5];exact h6.symm
 omega
theorem Xb(l:Bs):Dh l 0 0 []:= .inl ⟨BR _,B3 _, .inl rfl,by simp,by simp[Hu]⟩
theorem N1{l:Bs}{f k:Nat}{bs:List Bs}(h:Dh l f k bs)(hk:l.length<k):bs=Br l:=by
 rcases h with⟨h1,_⟩|⟨_,h2⟩
 ·omega
 exact h2
theorem Xc{p:Bs}(h:p≠[]):one_ p=[p]:=if_neg h
theorem Xd(s:ByteArray){f k:Nat}(h:f<k)(hk:k≤s.size):(s.data.toList.drop f).take (k - f)≠[]:=by
 intro e;have:=congrArg List.length e;rw[Lib.size_eq]at hk;simp at this;simp at hk;omega
theorem Xe(s:ByteArray)(h:0<s.size):decide (s.data.toList.head?=some 47)=(((s[0]'h).toNat:Int)==47):=by
 rw[PQ];have:s.data.toList.head?=some (s[0]'h):=by rw[List.head?_eq_getElem?];exact Lib.data_getElem? s 0 h
 rw[this];simp
theorem Xf(s:ByteArray)(h:0<s.size):decide (s.data.toList.getLast?=some 47)=(((s[s.size - 1]'(by omega)).toNat:Int)==47):=by
 rw[PQ];have:s.data.toList.getLast?=some (s[s.size - 1]'(by omega)):=by rw[List.getLast?_eq_getElem?,←Lib.size_eq];exact Lib.data_getElem? s _ (by omega)
 rw[this];simp
theorem Xg{s:ByteArray}{a k a' k':Nat}{ss:List AM}(h:Dh s.data.toList a' k' (C6 ss++one_ ((s.data.toList.drop a).take (k - a))))(ho:one_ ((s.data.toList.drop a).take (k - a))=[(s.data.toList.drop a).take (k - a)]):Dh s.data.toList a' k' (C6 (ss++[s.extract a k])):=by
 rw[ho]at h
 have:C6 (ss++[s.extract a k])=C6 ss++[(s.data.toList.drop a).take (k - a)]:=by
  rw[←Lib.extract_data];simp[C6]
 rw[this];exact h
theorem Xh{s:ByteArray}{a k a' k':Nat}{bs:List Bs}(h:Dh s.data.toList a' k' (bs++one_ ((s.data.toList.drop a).take (k - a))))(ho:k≤a):Dh s.data.toList a' k' bs:=by
 rw[show k - a=0 by omega]at h
 simpa[one_]using h
theorem Sd(s:ByteArray):s.toList=s.data.toList:=Lib.toList_data s
theorem Xi(s:ByteArray):(s.toList==[46])=decide (s.data.toList=[46]):=by rw[Sd,Bool.eq_iff_iff];simp
theorem Xj(s:ByteArray):(s.toList==[46,46])=decide (s.data.toList=[46,46]):=by rw[Sd,Bool.eq_iff_iff];simp
theorem N2(s:AM):D4 s=Dg s.data.toList:=by
 have hs:=Lib.size_eq s;rw[Bool.eq_iff_iff,LE];unfold D4;by_cases h1:s.size<1∨12<s.size
 ·rw[if_pos h1];constructor
  ·intro h;cases h
  rintro⟨h2,h3,_⟩;have:0<s.data.toList.length:=List.length_pos_iff.2 h2;omega
 rw[if_neg h1,Xi,Xj];have hne:s.data.toList≠[]:=by intro e;rw[e]at hs;change s.size=0 at hs;omega
 by_cases h2:s.data.toList=[46]
 ·rw[if_pos (decide_eq_true h2)];constructor
  ·intro h;cases h
  exact fun h=>absurd h2 h.2.2.1
 rw[if_neg (by simpa using h2)];by_cases h3:s.data.toList=[46,46]
 ·rw[if_pos (decide_eq_true h3)];constructor
  ·intro h;cases h
  exact fun h=>absurd h3 h.2.2.2.1
 rw[if_neg (by simpa using h3),List.all_eq_true]
 have hb:∀c:UInt8,Gj c=true↔c≠0∧c≠47:=by
  intro c;unfold Gj;rw[Bool.and_eq_true,PQ]
  have:((c.toNat:Int)==0)=decide (c=0):=by
   rw[Bool.eq_iff_iff,beq_iff_eq,decide_eq_true_iff];constructor
   ·intro h;apply UInt8.toNat_inj.1;have:(0:UInt8).toNat=0:=rfl;omega
   rintro rfl;rfl
  rw[this];simp
 constructor
 ·intro h;exact⟨hne,by omega,h2,h3,fun h0=>((hb _).1 (h _ h0)).1 rfl,fun h0=>((hb _).1 (h _ h0)).2 rfl⟩
 rintro⟨_,_,_,_,h0,h47⟩ c hc;exact(hb c).2 ⟨fun e=>h0 (e ▸ hc),fun e=>h47 (e ▸ hc)⟩
theorem Xk(ps:List Bs)(p:Bs→Bool):(Co (ps.filter p)).length≤(Co ps).length:=by
 induction ps with
 |nil=>simp
 |cons q ps ih=>
   rw[List.filter_cons];split
   ·rw[Fg,Fg];simp;omega
   rw[Fg];simp;omega
theorem Xl(ps:List Bs)(k:Nat):(Co (ps.take k)).length≤(Co ps).length:=by
 conv=>rhs;rw[←List.take_append_drop k ps,PM]
 simp
theorem PR(l:Bs):(Co (Br l)).length≤l.length+1:=by
 have:=Xk (C0 l) ne_;rw[PN]at this
 simpa[Br]using this
theorem Xm{l p:Bs}(h:p∈Br l):p.length≤l.length:=by
 have h1:=PR l;obtain⟨a,b,e⟩:=List.append_of_mem h;rw[e,PM,Fg]at h1;simp at h1;omega
end Go.Proofs.YtbgnigjfkbmceaaGreatDoor
namespace Go.Proofs.YtbgnigjfkbmceaaGreatDoor
open Go.RowKit
def Old(w:World):Nat→Prop:=fun b=>b<w.heap.size
def Oy(w w':World):Nat→Prop:=fun b=>w.heap.size≤b∧b<w'.heap.size
def few:Nat:=65536
theorem Mr{B:Nat}{a w:World}(h:Below B a w)(n:Nat):Below B a (w.drewN n):=⟨h.os,h.tape,h.output,h.size,h.block⟩
theorem Kz{w w':World}(h:Below w.heap.size w w')(g:Option Nat):w.grownBy w' g:=⟨h.os,h.tape,h.output,h.size,fun k hk _=>h.block k hk⟩
def RowL{α:Type}(sz:Nat)(cell:α→Nat→Value)(w:World)(D:Nat→Prop)(A:Option Addr)(xs:List α):Prop:=
 0<xs.length→∃b off,A=some ⟨b,off,none⟩∧D b∧∀i x j,xs[i]?=some x→j<sz→w.cell? ⟨b,off+i * sz+j,none⟩=some (cell x j)
def ListR{α:Type}(sz:Nat)(cell:α→Nat→Value)(w:World)(D:Nat→Prop)(v:Value)(xs:List α):Prop:=
 ∃A c,v= .slice A xs.length c∧xs.length≤c∧xs.length≤few∧RowL sz cell w D A xs
section
variable {α:Type}{sz:Nat}{cell:α→Nat→Value}{w w':World}{D D':Nat→Prop}{A:Option Addr}{v:Value}{xs:List α}
theorem ListR.nil_:ListR sz cell w D (.slice none 0 0) []:=⟨none,0,rfl,B3 _,BR _,fun h=>absurd h (by simp)⟩
end
def L0(s:AM):Nat→Value
 |_=> .string s
abbrev SG:=ListR 1 L0
def D8(at_:AG):Value:= .agg #[.int .i64 at_.1, .int .i64 at_.2]
theorem JU{a b:Bool}(h:a=b):Ending.returned (.bool a)= .returned (.bool b):=by rw[h]
theorem Hr{w:World}{g:Nat}{cs:Array Value}{t:TypeId}{fz:Nat×Nat}(h:w.heap[g]?=some (.cells cs t fz))(i:Nat):w.cell? ⟨g,i,none⟩=cs[i]?:=by
 simp[World.cell?,h]
theorem Oz{w:World}{g:Nat}{cs:Array Value}{t:TypeId}(h:w.heap[g]?=some (.cells cs t (0,0)))(i:Nat):w.frozen? ⟨g,i,none⟩=false:=by
 simp[World.frozen?,h]
theorem CY{w:World}{b:Nat}{o:Obj}(h:w.heap[b]?=some o)(o':Obj):(w.alloc o').heap[b]?=some o:=by
 have hb:b<w.heap.size:=by
  rcases Nat.lt_or_ge b w.heap.size with hlt|hge
  ·exact hlt
  rw[Array.getElem?_eq_none hge]at h;cases h
 exact(Below.heap_alloc w o' b hb).trans h
theorem Bv{w:World}{g:Nat}{cs:Array Value}{t:TypeId}(h:w.heap[g]?=some (.cells cs t (0,0))):(∀i,w.cell? ⟨g,i,none⟩=cs[i]?)∧(∀i,w.frozen? ⟨g,i,none⟩=false):=
 ⟨fun i=>Hr h i,fun i=>Oz h i⟩
theorem K0{w:World}{b:Nat}{cs:Array Value}{t:TypeId}{fz:Nat×Nat}(h:w.heap[b]?=some (.cells cs t fz))(i:Nat)(u:Value):(w.setCell ⟨b,i,none⟩ u).heap[b]?=some (.cells (cs.setIfInBounds i u) t fz):=by
 simp[World.setCell,Array.getElem?_modify,h]
theorem JV{w:World}{b:Nat}{o:Obj}(h:w.heap[b]?=some o){p:Addr}(hp:b≠p.block)(u:Value):(w.setCell p u).heap[b]?=some o:=(Below.heap_setCell w p u b hp).trans h
theorem BS{w w':World}{b B:Nat}{o:Obj}(h:w.heap[b]?=some o)(hg:Below B w w')(hb:b<B):w'.heap[b]?=some o:=(hg.block b hb).trans h
theorem Es(w:World)(o1:Obj):Below w.heap.size w (w.alloc o1):=by
 exact(Below.refl _ w).alloc (B3 _) _
theorem L4(w:World)(o1:Obj):(w.alloc o1).heap.size=w.heap.size+1:=by simp
theorem Gr(w:World)(o1:Obj):(w.alloc o1).heap[w.heap.size]?=some o1:=(by have:=heap_alloc_new w o1;simpa using this)
theorem GO(w:World)(o1 o2:Obj):Below w.heap.size w ((w.alloc o1).alloc o2):=by
 exact(Es w o1).alloc (by simp<;>omega) _
theorem SH(w:World)(o1 o2:Obj):((w.alloc o1).alloc o2).heap.size=w.heap.size+2:=by simp
theorem Gs(w:World)(o1 o2:Obj):((w.alloc o1).alloc o2).heap[w.heap.size]?=some o1:=CY (Gr w o1) _
theorem Gt(w:World)(o1 o2:Obj):((w.alloc o1).alloc o2).heap[w.heap.size+1]?=some o2:=(by have:=heap_alloc_new (w.alloc o1) o2;simpa using this)
theorem L5(w:World)(o1 o2 o3:Obj):Below w.heap.size w (((w.alloc o1).alloc o2).alloc o3):=by
 exact(GO w o1 o2).alloc (by simp<;>omega) _
theorem L6(w:World)(o1 o2 o3:Obj):(((w.alloc o1).alloc o2).alloc o3).heap[w.heap.size]?=some o1:=CY (Gs w o1 o2) _
theorem L7(w:World)(o1 o2 o3:Obj):(((w.alloc o1).alloc o2).alloc o3).heap[w.heap.size+1]?=some o2:=CY (Gt w o1 o2) _
theorem L8(w:World)(o1 o2 o3:Obj):(((w.alloc o1).alloc o2).alloc o3).heap[w.heap.size+1+1]?=some o3:=(by have:=heap_alloc_new ((w.alloc o1).alloc o2) o3;simpa using this)
theorem P0(w:World)(o1 o2 o3 o4:Obj):Below w.heap.size w ((((w.alloc o1).alloc o2).alloc o3).alloc o4):=by
 exact(L5 w o1 o2 o3).alloc (by simp<;>omega) _
theorem SJ(w:World)(o1 o2 o3 o4:Obj):((((w.alloc o1).alloc o2).alloc o3).alloc o4).heap[w.heap.size]?=some o1:=CY (L6 w o1 o2 o3) _
theorem P3(w:World)(o1 o2 o3 o4:Obj):((((w.alloc o1).alloc o2).alloc o3).alloc o4).heap[w.heap.size+1]?=some o2:=CY (L7 w o1 o2 o3) _
theorem SK(w:World)(o1 o2 o3 o4:Obj):((((w.alloc o1).alloc o2).alloc o3).alloc o4).heap[w.heap.size+1+1]?=some o3:=CY (L8 w o1 o2 o3) _
theorem P4(w:World)(o1 o2 o3 o4:Obj):((((w.alloc o1).alloc o2).alloc o3).alloc o4).heap[w.heap.size+1+1+1]?=some o4:=(by have:=heap_alloc_new (((w.alloc o1).alloc o2).alloc o3) o4;simpa using this)
end Go.Proofs.YtbgnigjfkbmceaaGreatDoor
