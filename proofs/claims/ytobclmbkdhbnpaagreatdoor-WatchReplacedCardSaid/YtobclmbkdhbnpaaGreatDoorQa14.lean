/-
  Part 14 of the proof of WatchReplacedP: what the statement's proof uses of the texts in wip/tpl.
-/
import Derived.Maps.AppendAt
import Derived.StillTailTactics
import Derived.Test.YtobclmbkdhbnpaaGreatDoorQa13
open Go.Proofs.Tryz (prog)
set_option maxRecDepth 10000
set_option maxHeartbeats 4000000
set_option linter.unusedVariables false
set_option linter.unusedSimpArgs false
namespace Go.Proofs.YtobclmbkdhbnpaaGreatDoor
open Go.RowKit Go.Shelf
attribute [local go_sem] Oper.semAt_some
theorem Moves.row{own:Nat→Prop}{B:Nat}{X Y:World}(h:Moves own B X Y){base e size k:Nat}{v:Value}{xs:List Value}(hr:X.ownsRow base e size v k xs)(ho:∀b,own b→b<base):Y.ownsRow base e size v k xs:=by
 refine⟨hr.1,?_⟩;rcases hr.2 with h'|⟨g,cap,cur,hv,hg,hb,r⟩
 ·exact .inl h'
 refine .inr ⟨g,cap,cur,hv,hg,?_,r⟩;exact(h.block g (Array.getElem?_eq_some_iff.1 hb).1 (fun e=>by have:=ho g e;omega) (.inr ⟨_,hb,rfl⟩)).trans hb
theorem fN{W w1:World}{base B:Nat}{t e:TypeId}{size:Nat}{v v':Value}{k m:Nat}{xs ys:List Value}{tmp:Obj}
    (hv:Boxed W B t v) (hrow:W.ownsRow base e size v k xs) (hbase:base≤W.heap.size) (hB:B<base)
    (hown':w1.ownsRow base e size v' m ys) (hgrow:(W.alloc tmp).grownBy w1 v.ownBlock):
    Boxed w1 B t v∧Boxed (w1.setCell ⟨B,0,none⟩ v') B t v'∧(w1.setCell ⟨B,0,none⟩ v').ownsRow base e size v' m ys∧KeepsOthers W (w1.setCell ⟨B,0,none⟩ v')∧
     Below B W (w1.setCell ⟨B,0,none⟩ v')∧∀j,j<base→j≠B→(w1.setCell ⟨B,0,none⟩ v').heap[j]?=W.heap[j]?:=by
 have hne:∀j,j<base→some j≠v.ownBlock:=by
  intro j hj e;have:=World.ownsRow.lt hrow j e.symm;omega
 have hblk:∀j,j<base→w1.heap[j]?=W.heap[j]?:=fun j hj=>(hgrow.block j (by simp;omega) (hne j hj)).trans (Below.heap_alloc W tmp j (by omega));have hv1:Boxed w1 B t v:=(hblk B hB).trans hv;refine⟨hv1,hv1.set v',ownsRow_setCell_below hown' hB v',?_,?_,fun j hj hj'=>(Below.heap_setCell w1 ⟨B,0,none⟩ v' j hj').trans (hblk j hj)⟩
 ·refine((KeepsOthers.alloc W tmp).trans (KeepsOthers.of_grownBy hgrow fun j o ej hj=>?_)).trans (KeepsOthers.setCell _ _ _);rcases(hrow.alloc tmp).2 with⟨rfl,_⟩|⟨g,cap,cur,rfl,_,hgb,_⟩
  ·simp[Value.ownBlock]at ej
  obtain rfl:g=j:=by simpa[Value.ownBlock]using ej
  rw[hgb]at hj;cases hj;rfl
 have hs:=hgrow.size;simp at hs;exact⟨hgrow.os,hgrow.tape,hgrow.output,by simp[World.setCell];omega,fun j hj=>(Below.heap_setCell w1 ⟨B,0,none⟩ v' j (by show j≠B;omega)).trans (hblk j (by omega))⟩
def VG(l:Bs)(w:World)(e:Ending)(w':World):Prop:=∃(v:Value) (ss:List AE),e= .returned (.tuple #[v, .bool (decide (l.head?=some 47)), .bool (decide (l.getLast?=some 47))])∧Sr w' (Pi w w') v ss∧DU ss=By l∧Below w.heap.size w w'∧∃A c,v= .slice A ss.length c∧c≤maxLen
set_option maxRecDepth 100000 in
set_option maxHeartbeats 2000000 in
theorem fO(n:Nat)(hn:Hid (1≤n))(s:ByteArray)(w:World)(hs:s.size≤60000):
    CallsIn Fence.wide n prog 78 #[.string s] w (VG s.data.toList w):=by
 obtain⟨i0,hi,hz0,hz1,hz2⟩:=info_parts Tryz.infoStr;refine callsIn_of_wp_marks Tryz.func78 rfl trivial ?_ rfl;simp only[Tryz.ntmps78,List.size_toArray,List.length_cons,List.length_nil,Nat.reduceAdd,Nat.reduceSub,Array.replicate_succ,Array.replicate_zero,List.push_toArray,List.append_toArray,List.nil_append,List.cons_append]
 gi_wp2_with fail
 refine Dw ((callsIn_wide.2 (fK _ _)).mono ?_);rintro e w' ⟨rfl,rfl⟩
 gi_wp2_with fail
 obtain⟨WL,hWL⟩:∃WL,(w.alloc (.cells #[.slice none 0 0] 68)).alloc (.cells #[.string s] 9)=WL:=⟨_,rfl⟩;have hzL:WL.heap.size=w.heap.size+1+1:=by rw[←hWL];simp
 have hBw:Below w.heap.size w WL:=by rw[←hWL];exact Gy _ _ _
 have kR:Boxed WL w.heap.size 68 (.slice none 0 0):=by rw[←hWL];exact Hm _ _ _
 have k0:Boxed WL (w.heap.size+1) 9 (.string s):=by rw[←hWL];exact Hn _ _ _
 rw[hWL];have HZ:=Lib.hid hzL;clear hWL hzL
 refine Ty rfl hn.out (gf:=157) rfl trivial (enters_of Tryz.func157 (by kernel_rfl) rfl)
  (fM (n - 1) s (by omega) (w.heap.size+1) WL k0)
  (fun b hb=>by have:=HZ.out;omega) (fun h k=>Eq.trans k h) (fun W l o o' hl _ _=>by have:=HZ.out;exact World.putObj_heap_other (by omega)) (Below.refl _ _) (fun _=>rfl)
  (fun pre W=>∃v,Boxed W w.heap.size 68 v∧W.ownsRow WL.heap.size 9 1 v pre.length (pre.map Value.string)∧Below w.heap.size w W)
  (fun _ _ _=>False)
  (fun s X Y h hm=>by
    obtain⟨v,h1,h2,h3⟩:=h;have:=HZ.out
    exact⟨v,hm.boxed h1 (by omega),hm.row h2 (fun b hb=>by omega),hm.under h3 (Av _) (fun b hb=>by omega) (by omega)⟩)
  (fun _ _ _ _ h _=>h)
  ⟨_,kR,World.ownsRow_nil _ _ _ _,hBw⟩
  (fun x=>{tmps:=#[.string s,undef, .pointer (some ⟨w.heap.size,0,none⟩), .bool false, .bool false, .string x, .string s, .func (.func 157) #[] #[.pointer (some ⟨w.heap.size+1,0,none⟩)], .string x,undef,undef,undef,undef,undef,undef,undef,undef,undef],defers:=[]}) ?assign ?body ?done ?stop
 case assign=>
  intro l x W K hK
  gi_wp2
  exact hK
 case body=>
  rintro l pre x W ⟨v,hc,hrow,hbw⟩ hpf hsz;have hcell:=hc.cell;have HZW:=Lib.hid hsz
  have hpl:pre.length≤1000000:=by
   have h1:=hpf.length_le;have h2:=VF s.data.toList;rw[←Lib.size_eq]at h2;simp[DU]at h1;omega
  have hmx:pre.length+1≤maxLen:=by unfold maxLen;omega
  clear hsz hpf
  gi_wp2_with (gi_at_builtin;refine wpListIn_append_own _ rfl _ _ 68 rfl WL.heap.size 9 i0 (.string ⟨#[]⟩) 1 16 Tryz.underlying68 hi hz0 hz1 hz2 rfl (by decide) _ _ _ rfl (hrow.alloc _) ⟨W.heap.size,0,none⟩ 1 1 [.string x] rfl rfl (cell_one_new _ _ _) (by simp[Value.oneCell']) (by omega) (by omega) (by have:=HZW.out;simp;omega) ?_;intro v' w1 hown' hgrow _;obtain⟨g',cap',rfl⟩:=ownsRow_succ hown';obtain⟨hv1,hv2,hr2,hk2,hb2,hj2⟩:=fN hc hrow (by have:=HZW.out;omega) (by have:=HZ.out;omega) hown' hgrow;have hc1:=hv1.cell;have hf1:=hv1.frozen)
  have h1:=HZ.out;exact⟨hk2.from _,hj2 _ (by omega) (by omega),⟨_,hv2,by simpa using hr2,hbw.trans hb2⟩⟩
 case done=>
  rintro D xs W hD hS ⟨v,hc,hrow,hbw⟩ hK;have HS:=Lib.hid hS;clear hS
  obtain⟨A,cc,rfl⟩:∃A c,v= .slice A xs.length c:=by
   rcases hrow.2 with⟨rfl,hn⟩|⟨g,cap,cur,rfl,_⟩
   ·exact⟨none,0,by rw[hn]⟩
   exact⟨_,_,rfl⟩
  have hccm:cc≤maxLen:=by
   rcases hrow.2 with⟨h1,_⟩|⟨g,cap,cur,h1,h2,h3,h4,h5,_⟩
   ·injection h1 with _ _ h1;rw[h1];exact BJ _
   injection h1 with _ _ h1;rw[h1];exact h5
  have hcell:=hc.cell;have hfz:=hc.frozen
  gi_wp2_with fail
  refine wpIn_wide.2 ?_;refine wp_region_still_tail 5 (by kernel_rfl) (by kernel_rfl) ?_;simp only[List.take_succ_cons,List.take_zero,List.drop_succ_cons,List.drop_zero]
  still_step
  still_step
  still_call (Tryz.strings_HasPrefix _ _ _)
  still_step
  still_call (Tryz.strings_HasSuffix _ _ _ (by omega))
  refine wpStill_nil ?_;change wpList _ _ _ _ _ W.drew;have hc2:Boxed W.drew w.heap.size 68 (.slice A xs.length cc):=hc;have hr2:W.drew.ownsRow WL.heap.size 9 1 (.slice A xs.length cc) xs.length (xs.map Value.string):=hrow;have hb2:Below w.heap.size w W.drew:=hbw.drew;have hK2:W.drew.heap[D]?=some (.deferred (some [])):=hK;clear hc hrow hbw hK hcell hfz;generalize W.drew=W2 at *;have hcell:=hc2.cell;have hfz:=hc2.frozen
  go_wp2
  gi_wp2
  refine⟨by simp, .inl ⟨_,_,rfl,run_takeDeferred ((KeepsOthers.setCell _ _ _).same D _ hK2 rfl),?_⟩⟩;have h1:=HZ.out;have hcb:=(Hu (hc2.set (.slice A xs.length cc)) (show w.heap.size≠D by omega) (.deferred none)).cell;refine⟨.tuple #[.slice A xs.length cc, .bool (Lib.hasPrefix s.data.toList [47]), .bool (Lib.hasSuffix s.data.toList [47])],by simp[results,Tryz.f78,go_sem,hcb], .slice A xs.length cc,xs,by rw[Mk,fD],?_,HS.out,KE (hb2.setCell (p:=⟨w.heap.size,0,none⟩) (Av _) _) (by omega) _,A,cc,rfl,hccm⟩;have hrow':=ownsRow_putObj (ownsRow_setCell_below hr2 (a:=⟨w.heap.size,0,none⟩) (by show w.heap.size<_;omega) (.slice A xs.length cc)) (.deferred none) ((KeepsOthers.setCell _ _ _).same D _ hK2 rfl) rfl
  have hlen:xs.length≤few:=by
   have h2:=VF s.data.toList;rw[←HS.out,←Lib.size_eq]at h2;simp[DU]at h2;unfold few;omega
  refine OwnL.list (sz:=1) (cell:=Lu) (E:=9) (base:=WL.heap.size) ?_ hlen (fun b hb hlt=>⟨by omega,hlt⟩);unfold OwnL;rw[fE];exact hrow'
 case stop=>
  rintro D c pre W hD hSp h hK;exact h.elim
theorem fP(s:ByteArray)(w:World)(hs:s.size≤60000):Calls prog 78 #[.string s] w (VG s.data.toList w):=
 callsIn_wide.1 (fO 6 (Lib.hid (by omega)) s w hs)
end Go.Proofs.YtobclmbkdhbnpaaGreatDoor
namespace Go.Proofs.YtobclmbkdhbnpaaGreatDoor
open Go.RowKit
theorem fQ{P:Program}{St:Nat→Nat→Prop}{w:World}(hst:∀b o,St b o→b<w.heap.size){T T' sz bytes:Nat}(hE:Jh P T=some (T',sz,bytes))(hby:bytes≤100000){rows new:List (List AV)}{A:Option Addr}{cap:Nat}{y:Value}
    (hs:Ak St w (.sl sz rows none) (.slice A rows.length cap)) (hy:Ak St w (.sl sz new none) y) (hsm:rows.length+new.length≤1000000) (rt:TypeId):
    ∃(v':Value) (w':World) (N:Nat→Nat→Prop),(Builtin.append_ #[T,T] rt #[.slice A rows.length rows.length,y]).run P w= .ok v' w'∧Below w.heap.size w w'∧(∀b o,N b o→w.heap.size≤b∧b<w'.heap.size)∧Ak (fun b o=>St b o∨N b o) w' (.sl sz (rows++new) none) v':=by
 obtain⟨hu,inf,z,hinf,hz,hzs,hsz,hbts,hp⟩:=Ey hE;obtain⟨A',cap',vs,e1,e2,e3,e4,e5⟩:=KW hy;obtain⟨A0,cap0,us,f1,f2,f3,f4,f5⟩:=KW hs;injection f1 with f1a f1b f1c;subst f1a;by_cases h0:new=[]
 ·subst h0;refine⟨.slice A rows.length rows.length,w,fun _ _=>False,?_,Below.refl _ _,fun _ _ h=>h.elim,?_⟩
  ·rw[e1];rcases A' with _|ad<;>rcases A with _|ad0<;>simp[Builtin.append_,run_underlying hu,sizeOf,typeInfo,hinf,Builtin.lenOf,Builtin.firstCells,storeCells,loadCells,loadCellsFrom]
  rw[List.append_nil]
  have k:Ak St w (.sl sz rows none) (.slice A rows.length rows.length):=by
   simp only[Ak]at hs ⊢;obtain⟨_,B,c,h1,h2,h3,h4⟩:=hs;injection h1 with h1 _ _;subst h1;exact⟨trivial,_,_,rfl,Av _,Nat.le_trans h2 h3,h4⟩
  exact Fw (fun b o hb=>⟨.inl hb,rfl⟩) _ _ k
 obtain⟨b,off,q1,q2⟩:=e5 h0;subst q1;rw[e1];have hnl:0<new.length:=List.length_pos_iff.2 h0;have hnews:∀j u,vs[j]?=some u→w.cell? ((⟨b,off,none⟩:Addr).add j)=some u:=fun j u hj=>by rw[Addr.add_mid];exact q2 j u hj
 have hbt:(rows.length+new.length) * bytes≤140737488355328:=by
  have:(rows.length+new.length) * bytes≤1000000 * 100000:=Nat.mul_le_mul hsm hby;omega
 have key:∃v' w',(Builtin.append_ #[T,T] rt #[.slice A rows.length rows.length, .slice (some ⟨b,off,none⟩) new.length cap']).run P w= .ok v' w'∧w'.ownsRow w.heap.size T' sz v' (rows.length+new.length) (us++vs)∧w.grownBy w' none:=by
  by_cases hr0:rows=[]
  ·subst hr0;have hus:us=[]:=DE (by simpa using f4.1);subst hus;rcases A with _|ad
   ·obtain⟨v',w',r1,r2,r3,r4,r5⟩:=run_append_own_at (P:=P) w w.heap.size T rt T' inf z sz bytes hu hinf hz hsz hbts hzs hp (.slice none 0 0) 0 [] (World.ownsRow_nil w _ _ _) ⟨b,off,none⟩ new.length cap' vs (by rw[e4.1]) hnews e4.2.2.1 (by simp at hsm;unfold maxLen;omega) (by simpa using hbt) (Av _);exact⟨v',w',by simpa using r1,by simpa using r2,by simpa[Value.ownBlock]using r3⟩
   obtain⟨v',w',r1,r2,r3⟩:=run_append_arg_grows (P:=P) w T rt T' inf z sz bytes hu hinf hz hsz hbts hzs hp ad 0 0 [] (by simp) (by simp) ⟨b,off,none⟩ new.length cap' vs (by rw[e4.1]) hnews (by omega) (by simp at hsm;unfold maxLen;omega) (by simpa using hbt);exact⟨v',w',by simpa using r1,by simpa using r2,r3⟩
  obtain⟨b0,off0,p1,p2⟩:=f5 hr0;subst p1;exact run_append_arg_grows (P:=P) w T rt T' inf z sz bytes hu hinf hz hsz hbts hzs hp ⟨b0,off0,none⟩ rows.length rows.length us (by rw[f4.1]) (fun j u hj=>by rw[Addr.add_mid];exact p2 j u hj) ⟨b,off,none⟩ new.length cap' vs (by rw[e4.1]) hnews (by omega) (by unfold maxLen;omega) hbt
 obtain⟨v',w',r1,r2,r3⟩:=key;have hbel:Below w.heap.size w w':=⟨r3.os,r3.tape,r3.output,r3.size,fun k hk=>r3.block k hk (by simp)⟩;have hlt:=World.ownsRow.lt r2;refine⟨v',w',fun b _=>v'.ownBlock=some b,r1,hbel,fun b o hb=>hlt b hb,?_⟩;have hflat:FlatR (fun b o=>St b o∨v'.ownBlock=some b) w' sz (rows++new) (us++vs):=(f4.append e4).mono fun b o hb=>⟨.inl hb,hbel.cell (p:=⟨b,o,none⟩) (hst b o hb)⟩;rcases r2.2 with⟨c1,c2⟩|⟨gb,cp,cur,c1,c2,c3,c4,c5,c6,c7⟩
 ·omega
 subst c1;simp only[Ak];refine⟨trivial,_,cp,by rw[List.length_append],by rw[List.length_append];exact c4,c5, .inr ⟨gb,0,rfl,hflat.froR fun j u hj=>⟨.inr rfl,?_⟩⟩⟩
 have hj2:j<(rows.length+new.length) * sz:=by
  have:=(Ai.1 hj).1
  rwa [r2.1]at this
 rw[Nat.zero_add];simp only[World.cell?,c3];rw[←c7,List.getElem?_take,if_pos hj2,Array.getElem?_toList]at hj
 simpa using hj
theorem VH{a:Act}{d n:Nat}(v:Value)(hn:a.tmps.size=n)(hd:d<n):(a.put (some d) v).eval (.tmp d)=v:=by
 show(a.put (some d) v).tmps.getD d undef=v;simp[Act.put,hn,hd]
theorem fR{a:Act}{d t:Nat}(v:Value)(h:d≠t):(a.put (some d) v).eval (.tmp t)=a.eval (.tmp t):=by
 show(a.put (some d) v).tmps.getD t undef=a.tmps.getD t undef;simp[Act.put,Array.getElem?_setIfInBounds_ne h]
theorem fS{P:Program}{N:Dim}{ops:Array Oper}{Q:Exit→AS→Prop}{rest:List Oper}{l:List (Nat×AV)}{hh:AH}{d1 d2 d3:Nat}{ty1 ty2 ty3:TypeId}{pos1 pos2 pos3:String}{af1 af2 af3:Array Edge}{T:TypeId}{x hi mx y:Operand}{T' sz bytes:Nat}{rows new:List (List AV)}{tok tok':Option Nat}[hE:Elm P T T' sz bytes]{i j:Int}
    (h1:Nat.blt d1 N.n=true) (h2:Nat.blt d2 N.n=true) (h3:Nat.blt d3 N.n=true) (hne:Nat.beq d2 d1=false)
    (hx:CA (look l) x=some (.sl sz rows tok)) (hhi:CA (look l) hi=some (.v (.int .i64 i))) (hmx:CA (look l) mx=some (.v (.int .i64 j))) (hi':i=(rows.length:Int)) (hj':j=(rows.length:Int)) (hy:CA (look ((d1, .sl sz rows none)::l)) y=some (.sl sz new tok')) (hsm:rows.length+new.length≤1000000)
    (h:AL P N ops Q rest ⟨look ((d3, .sl sz (rows++new) none)::(d2, .sl sz new tok')::(d1, .sl sz rows none)::l),hh⟩):
    AL P N ops Q (⟨some d1, .slice T x none (some hi) (some mx),ty1,pos1,af1,none⟩::⟨some d2, .move y,ty2,pos2,af2,none⟩::⟨some d3, .call {callee:= .builtin .append,args:=#[.tmp d1, .tmp d2],argTypes:=#[T,T]},ty3,pos3,af3,none⟩::rest) ⟨look l,hh⟩:=by
 obtain⟨hu,inf,z,hinf,hz,hzs,hsz,hbts,hp⟩:=Ey hE.eq;intro E a w hr;obtain⟨G,g1,g2,g3,g4,g5⟩:=hr;have kx:=FD _ _ (g2.ev hx);have ki:=g2.ev hhi;have kj:=g2.ev hmx;simp only[Cl]at kx;simp only[rep]at ki kj;subst hi' hj';obtain⟨A,cap,us,e1,e2,e3,e4,e5⟩:=KW kx;rw[e1]at kx;refine wpList_plain rfl fun K hK=>?_
 have run1:(execOp a.eval ⟨some d1, .slice T x none (some hi) (some mx),ty1,pos1,af1,none⟩).run P w= .ok (.value (.slice A rows.length rows.length)) w:=by
  have hA:Option.map (fun x:Addr=>x.add 0) A=A:=by cases A with
   |none=>rfl
   |some ad=>cases ad;rfl
  have e0:(if rows.length=0 then A else Option.map (fun x:Addr=>x.add 0) A)=A:=by rw[hA];split<;>rfl
  simp[execOp,e1,ki,kj,Instr.sliceAt,Instr.slice,Instr.sliceBounds,Instr.sliceBound,asIntOf,run_underlying hu,sizeOf,typeInfo,hinf,hsz,e2,hA]
 refine Mq (E:=E) (w:=w) (R:=fun x' h'=>x'= .v (.slice A rows.length rows.length)∧h'=hh) (G:=G) ?_ ?_
 ·rw[run1];exact⟨_,_,G,⟨rfl,rfl⟩,g1,Ext.refl G w,by simp only[rep]⟩
 rintro v1 w1 ⟨x1,h1',G1,⟨rfl,rfl⟩,k1,k2,k3⟩;simp only[rep]at k3;subst k3;have kx1:Ak G1.St w1 (.sl sz rows none) (.slice A rows.length cap):=Fw k2.st _ _ kx
 have kn1:Ak G1.St w1 (.sl sz rows none) (.slice A rows.length rows.length):=by
  have:=kx1;simp only[Ak]at this ⊢;obtain⟨_,B,c,q1,q2,q3,q4⟩:=this;injection q1 with q1 _ _;subst q1;exact⟨trivial,_,_,rfl,Av _,Nat.le_trans q2 q3,q4⟩
 obtain⟨s1,s2,s3⟩:=g2.put (d:=some d1) (x:= .sl sz rows none) k2 g3 h1 (Fc _ _ kn1);apply hK;refine wpList_plain rfl fun K2 hK2=>?_;have ky:=s1.ev hy;refine Mq (E:=E) (R:=fun x' h'=>x'= .sl sz new tok'∧h'=h1') (G:=G1) (w:=w1) (r:= .ok (.value ((a.put (some d1) (.slice A rows.length rows.length)).eval y)) w1) ⟨_,_,G1,⟨rfl,rfl⟩,k1,Ext.refl G1 w1,ky⟩ ?_;rintro v2 w2 ⟨x2,h2',G2,⟨rfl,rfl⟩,m1,m2,m3⟩;obtain⟨t1,t2,t3⟩:=s1.put (d:=some d2) (x:= .sl sz new tok') m2 s2 h2 m3;have kn2:Ak G2.St w2 (.sl sz rows none) (.slice A rows.length rows.length):=Fw m2.st _ _ kn1;have ky2:=FD _ _ m3;simp only[Cl]at ky2;apply hK2;refine wpList_plain rfl fun K3 hK3=>?_;obtain⟨v',w',Nw,r1,r2,r3,r4⟩:=fQ (P:=P) m1.stlt hE.eq hE.few kn2 ky2 hsm ty3;obtain⟨u1,u2⟩:=m1.grow r2 Nw r3;have hd12:d2≠d1:=fun e=>by rw[e,Nat.beq_refl]at hne;cases hne
 have q1:((a.put (some d1) (.slice A rows.length rows.length)).put (some d2) v2).eval (.tmp d1)= .slice A rows.length rows.length:=by
  rw[fR _ hd12];exact VH _ g3 (B6 h1)
 have q2:((a.put (some d1) (.slice A rows.length rows.length)).put (some d2) v2).eval (.tmp d2)=v2:=VH _ s2 (B6 h2);refine Mq (E:=E) (R:=fun x' h'=>x'= .sl sz (rows++new) none∧h'=h2') (G:=G2) (w:=w2) ?_ ?_
 ·simp only[execOp,resolve,invoke,builtin,Sem.run_bind,Sem.run_pure,Result.andThen_ok,List.map_toArray,List.map_cons,List.map_nil,q1,q2,r1];exact⟨_,_,_,⟨rfl,rfl⟩,u1,u2,Fc _ _ r4⟩
 rintro v3 w3 ⟨x3,h3',G3,⟨rfl,rfl⟩,n1,n2,n3⟩;obtain⟨o1,o2,o3⟩:=t1.put (d:=some d3) (x:= .sl sz (rows++new) none) n2 t2 h3 n3;apply hK3;exact h E _ w3 ⟨G3,n1,o1,o2,o3.trans (t3.trans (s3.trans g4)),g5⟩
theorem VJ(s:AE)(hs:s.size≤60000):AFn prog 78 [.v (.string s)] (fun r=>r= .tup [.sl 1 ((Cd s).map Cq) none, .v (.bool (Ck s)), .v (.bool (BF s))]):=by
 intro w St bl vs hr hv;have hbl:bl=[]:=by have:=hr.bxlen;simpa using this
 subst hbl;simp only[AY,rep]at hv;obtain⟨z,zs,rfl,rfl,rfl⟩:=hv;refine(fP s w hs).mono ?_;rintro e w' ⟨v,ss,rfl,hv,hp,hB,A,c,rfl,hc⟩;obtain rfl:=R6 (ps:=ss) hp;obtain⟨k1,k2⟩:=hr.grow hB (fun b _=>Pi w w' b) (fun b _ hb=>hb);refine⟨_,_,_,_,⟨rfl,rfl,rfl⟩,k1,k2,?_⟩;simp only[rep,AY];refine⟨_,rfl,_,_,rfl,?_,_,_,rfl,rfl,_,_,rfl,rfl,rfl⟩;obtain⟨A',c',h1,h2,h3,h4⟩:=hv;injection h1 with h1 _ h1c;subst h1 h1c;simp only[Ak];refine⟨trivial,A,c,by rw[List.length_map],by rw[List.length_map];exact h2,hc,?_⟩;by_cases h0:(Cd s).length=0
 ·exact .inl (by rw[DE h0];rfl)
 obtain⟨b,off,rfl,hb,hcell⟩:=h4 (by omega);refine .inr ⟨b,off,rfl,LQ fun i r hi=>?_⟩;rw[List.getElem?_map]at hi
 cases hy:(Cd s)[i]? with
 |none=>rw[hy]at hi;cases hi
 |some x=>
   rw[hy]at hi;injection hi with hi;subst hi;refine⟨rfl,KR fun j av hj=>?_⟩
   match j,hj with
   |0,hj=>
     injection hj with hj;subst hj;exact⟨.inr hb, .string x,hcell i x 0 hy (by omega),rfl,by simp only[Ak]⟩
   |j+1,hj=>simp[Cq]at hj
def Fa(f:AT)(a:A9):Int:=match Bo f a with
 |none=>2
 |some n=>if n.kind=2 then 0 else 20
def Fu(f:AT)(a:A9)(name:AE):A9×Bool:=match Bo f a with
 |none=>((0,0),false)
 |some n=>match n.entries.find? (fun e:B1=>decide (e.1=name))with
   |none=>((0,0),false)
   |some e=>((a.1,e.2),true)
theorem fT{f:AT}{a:A9}{name:AE}(h:¬Fa f a=0):AD f a name=((0,0),Fa f a):=by
 unfold Fa at h ⊢;unfold AD
 cases hn:Bo f a with
 |none=>rfl
 |some n=>
   simp only[hn]at h ⊢;by_cases hk:n.kind=2
   ·rw[if_pos hk]at h;exact absurd rfl h
   rw[if_neg hk,if_neg hk]
theorem fU{f:AT}{a:A9}{name:AE}(h:Fa f a=0)(h2:(Fu f a name).2=false):AD f a name=((0,0),2):=by
 unfold Fa at h;unfold Fu at h2;unfold AD
 cases hn:Bo f a with
 |none=>rfl
 |some n=>
   simp only[hn]at h h2 ⊢;by_cases hk:n.kind=2
   ·rw[if_pos hk]
    cases hf:n.entries.find? (fun e:B1=>decide (e.1=name))with
    |none=>rfl
    |some e=>rw[hf]at h2;cases h2
   rw[if_neg hk]at h;exact absurd h (by decide)
theorem fV{f:AT}{a:A9}{name:AE}(h:Fa f a=0)(h2:(Fu f a name).2=true):AD f a name=((Fu f a name).1,0):=by
 unfold Fa at h;unfold Fu at h2 ⊢;unfold AD
 cases hn:Bo f a with
 |none=>rw[hn]at h2;cases h2
 |some n=>
   simp only[hn]at h h2 ⊢;by_cases hk:n.kind=2
   ·rw[if_pos hk]
    cases hf:n.entries.find? (fun e:B1=>decide (e.1=name))with
    |none=>rw[hf]at h2;cases h2
    |some e=>rfl
   rw[if_neg hk]at h;exact absurd h (by decide)
def E8(s:Spc)(fl:Bool)(w:Wk):List AV:=[.sl 2 (s.files.map Be) none, .sl 3 (s.mounts.map Co) none, .sl 1 (w.ps.map Cq) none, .v (.int .i64 w.at_.1), .v (.int .i64 w.at_.2), .v (.int .i64 w.dir.1), .v (.int .i64 w.dir.2), .v (.string w.name), .v (.bool w.missing), .v (.bool fl), .v (.int .i64 (w.links:Int))]
theorem VK(d m:AE)(hd:d.size≤1000000)(hm:m.size≤1000000):AFn prog 126 [.v (.string d), .v (.string m)] (fun r=>r= .v (.string (D7 d m))):=
 NP (us:=[.string d, .string m]) fun w=>(UB d m w hd hm).mono fun e w' h=>by
  obtain⟨h1,rfl⟩:=h;exact⟨h1,Below.refl _ _⟩
theorem fW(t:AE):AFn prog 120 [.v (.string t), .v (.string ⟨#[47]⟩)] (fun r=>r= .v (.bool (Ck t))):=
 NP (us:=[.string t, .string ⟨#[47]⟩]) fun w=>(Tryz.strings_HasPrefix t ⟨#[47]⟩ w).mono fun e w' h=>by
  obtain⟨h1,rfl⟩:=h;refine⟨?_,Below.refl _ _⟩;rw[h1];unfold Ck;rw[←Mk]
section
theorem fX(f:AT)(a:A9)(hf:FlsB f):AFn prog 111 [.agg (Al f), .agg (AB a)] (fun r=>r= .v (.int .i64 (Fa f a))):=by
 refine enter Tryz.func111 rfl rfl rfl rfl rfl 0 rfl ?_;refine w_ (b_ (h:=b_ (h:=a_ (h:=e_ (w_ (l_ (h:=l_ (h:=?_))))))));refine A7 rfl (AK (Pe f a hf) ?_);rintro r (⟨e,rfl⟩|⟨n,e,rfl⟩)
 ·skip
  refine a_ (h:=e_ (q_ (Ao (w_ (m_ (h:=?_))))))
  first|refine A7 rfl (Kf (by kernel_rfl) rfl rfl ?_)|refine A7 rfl (Kg (by kernel_rfl) rfl rfl ?_)
  refine a_ (h:=e_ (?_));refine A8 rfl (fun hb1=>?_) (fun hb1=>?_)
  ·have hc1:=bp hb1;refine w_ (a_ (h:=e_ (A6 (AR (A4 (?_))))));refine AA ?_;rw[show Fa f a=2 by simp only[Fa,e]];rfl
  have hc1:=bp hb1;exfalso;first|contradiction|omega
 skip
 refine a_ (h:=e_ (q_ (Ao (w_ (m_ (h:=?_))))))
 first|refine A7 rfl (Kf (by kernel_rfl) rfl rfl ?_)|refine A7 rfl (Kg (by kernel_rfl) rfl rfl ?_)
 refine a_ (h:=e_ (?_));refine A8 rfl (fun hb2=>?_) (fun hb2=>?_)
 ·have hc2:=bp hb2;exfalso;first|contradiction|omega
 have hc2:=bp hb2;refine w_ (m_ (h:=k_ (h:=f_ (h:=l_ (h:=BX (h:=a_ (h:=e_ (?_))))))));refine A8 rfl (fun hb3=>?_) (fun hb3=>?_)
 ·have hc3:=bp hb3;refine w_ (a_ (h:=e_ (A6 (AR (A4 (?_))))));refine AA ?_;rw[show Fa f a=20 by simp only[Fa,e];exact if_neg hc3];rfl
 have hc3:=bp hb3;refine BA (Au (t_ (w_ (a_ (h:=e_ (A6 (?_)))))));refine AA ?_;rw[show Fa f a=0 by simp only[Fa,e];exact if_pos hc3];rfl
theorem fY(f:AT)(a:A9)(name:AE)(hf:FlsB f):AFn prog 112 [.agg (Al f), .agg (AB a), .v (.string name)] (fun r=>r= .tup [.agg (AB (Fu f a name).1), .v (.bool (Fu f a name).2)]):=by
 have hen:=Kc hf a;refine enter Tryz.func112 rfl rfl rfl rfl rfl 0 rfl ?_;refine w_ (b_ (h:=b_ (h:=Af (h:=a_ (h:=e_ (w_ (l_ (h:=l_ (h:=?_)))))))));refine A7 rfl (AK (Pe f a hf) ?_);rintro r (⟨e,rfl⟩|⟨n,e,rfl⟩)
 ·skip
  refine a_ (h:=e_ (q_ (w_ (m_ (h:=?_)))))
  first|refine A7 rfl (Kf (by kernel_rfl) rfl rfl ?_)|refine A7 rfl (Kg (by kernel_rfl) rfl rfl ?_)
  refine e_ (?_);refine A8 rfl (fun hb1=>?_) (fun hb1=>?_)
  ·have hc1:=bp hb1;refine w_ (Aa (h:=s_ (h:=a_ (h:=e_ (A6 (A4 (?_)))))));refine AA ?_;rw[show Fu f a name=((0,0),false) by simp only[Fu,e]];rfl
  have hc1:=bp hb1;exfalso;first|contradiction|omega
 have hnl:n.entries.length≤1000:=by simpa[AZ,e]using hen
 refine a_ (h:=e_ (q_ (w_ (m_ (h:=?_)))))
 first|refine A7 rfl (Kf (by kernel_rfl) rfl rfl ?_)|refine A7 rfl (Kg (by kernel_rfl) rfl rfl ?_)
 refine e_ (?_);refine A8 rfl (fun hb2=>?_) (fun hb2=>?_)
 ·have hc2:=bp hb2;exfalso;first|contradiction|omega
 have hc2:=bp hb2;refine AN (q_ (w_ (m_ (h:=k_ (h:=f_ (h:=l_ (h:=n_ (h:=m_ (h:=e_ (Ao (?_)))))))))));refine Bm (fun m t=>∃j:Nat,j≤n.entries.length∧m=n.entries.length - j∧(∀i y,i<j→n.entries[i]?=some y→decide (y.1=name)=false)∧t=⟨look [(2, .v (.string name)),(4, .bp 1 0),(6, .bp 2 0),(20, .sl 2 (n.entries.map C7) none),(21, .v (.int .i64 ((n.entries.map C7).length:Int))),(22, .v (.int .i64 (j:Int)))],⟨[Al f,AB a,[.v (.int .i64 0), .v (.int .i64 0)]],[]⟩⟩) (n.entries.length) ((wk 3 0)) (⟨0,by omega,rfl,fun i y hi=>by omega,rfl⟩) ?_;rintro m t ⟨j,hj,rfl,ha,rfl⟩;refine w_ (BO (h:=e_ (q_ (?_))));refine A8 rfl (fun hb3=>?_) (fun hb3=>?_)
 ·have hc3:=bp hb3;obtain⟨hlt,x,hy,hrow, -⟩:=CF C7 hc3;refine AN (q_ (Ao (w_ (i_ (h:=l_ (h:=Af (h:=s_ (h:=e_ (w_ (f_ (h:=l_ (h:=m_ (h:=Ac (h:=e_ (?_)))))))))))))));refine A8 rfl (fun hb4=>?_) (fun hb4=>?_)
  ·have hc4:=bp hb4;refine w_ (f_ (h:=l_ (h:=f_ (h:=l_ (h:=Aa (h:=s_ (h:=a_ (h:=e_ (A6 (AR (A4 (A4 (AR (A4 (?_)))))))))))))));refine AA ?_;rw[show Fu f a name=((a.1,x.2),true) by simp only[Fu,e];rw[GM hy (by simpa using hc4) ha]];rfl
  have hc4:=bp hb4;refine BA (Au (t_ (AX (B2 (h:=m_ (h:=AW (?_)))))));refine AJ ?_;refine⟨_,_,?_,⟨j+1,by omega,rfl,EW hy ha (by simpa using hc4),rfl⟩,(wk 3 0)⟩;omega
 have hc3:=bp hb3;have e3:=Cx C7 hj hc3;subst e3;refine BU (Am (Am (BV (t_ (w_ (Aa (h:=s_ (h:=a_ (h:=e_ (A6 (?_)))))))))));refine AA ?_;rw[show Fu f a name=((0,0),false) by simp only[Fu,e];rw[GN ha]];rfl
theorem RM(f:AT)(a:A9)(name:AE)(hf:FlsB f):AFn prog 71 [.agg (Al f), .agg (AB a), .v (.string name)] (fun r=>r= .tup [.agg (AB (AD f a name).1), .v (.int .i64 (AD f a name).2)]):=by
 refine enter Tryz.func71 rfl rfl rfl rfl rfl 0 rfl ?_;refine w_ (b_ (h:=b_ (h:=Af (h:=a_ (h:=e_ (q_ (w_ (l_ (h:=l_ (h:=?_))))))))));refine A7 rfl (AK (fX f a hf) ?_);rintro r rfl;refine a_ (h:=e_ (w_ (m_ (h:=BX (h:=e_ (?_))))));refine A8 rfl (fun hb1=>?_) (fun hb1=>?_)
 ·have hc1:=bp hb1;refine w_ (Aa (h:=m_ (h:=s_ (h:=a_ (h:=e_ (A6 (A4 (?_))))))));refine AA ?_;rw[fT hc1];rfl
 have hc1:=bp hb1;refine AN (w_ (l_ (h:=l_ (h:=m_ (h:=?_)))));refine A7 rfl (AK (fY f a name hf) ?_);rintro r rfl;refine m_ (h:=x_ (h:=x_ (h:=Af (h:=s_ (h:=a_ (h:=e_ (q_ (w_ (m_ (h:=BZ (h:=e_ (?_))))))))))));refine A8 rfl (fun hb2=>?_) (fun hb2=>?_)
 ·have hc2:=bp hb2;refine w_ (Aa (h:=s_ (h:=a_ (h:=e_ (A6 (A4 (?_)))))));refine AA ?_;rw[fU hc1 (by simpa using hc2)];rfl
 have hc2:=bp hb2;refine AN (w_ (l_ (h:=s_ (h:=a_ (h:=e_ (A6 (?_)))))));refine AA ?_;rw[fV hc1 (by simpa using hc2)];rfl
theorem VL(s:Spc)(hs:SpcB s):AFn prog 79 [.agg (Ar s)] (fun r=>r= .agg (AB (D9 s))):=by
 refine enter Tryz.func79 rfl rfl rfl rfl rfl 0 rfl ?_;refine w_ (b_ (h:=Af (h:=e_ (w_ (l_ (h:=Aa (h:=?_)))))));refine A7 rfl (AK (Pc s (0,1) hs) ?_);rintro r rfl;refine s_ (h:=e_ (A6 (?_)));refine AA ?_;rfl
theorem RN(s:Spc)(fl:Bool)(w:Wk)(hs:SpcB s):AFn prog 80 [.fp (E8 s fl w)] (fun r=>r= .v (.bool (Ag s.files w.at_))):=by
 have hde:=G7 s.files w.at_;refine enter Tryz.func80 rfl rfl rfl rfl rfl 0 rfl ?_;refine w_ (a_ (h:=e_ (q_ (Bi ([]) 16 (h:=AP 0 (h:=BW 1 (h:=AQ 2 (h:=AQ 3 (h:=AF 4 (h:=AP 5 (h:=BW 6 (h:=AQ 7 (h:=AF 8 (h:=?_))))))))))))));refine Es 9 13 rfl rfl ?_ ?_
 ·refine AK (Gw s.files w.at_ hs.files) ?_;rintro r rfl;refine o_ (h:=?_);refine AP 10 (h:=BK 11 (h:=BK 12 (h:=?_)));refine c_ 13 rfl (CW (by repeat constructor) ?_);refine o_ (h:=?_);refine B8 14 rfl (B3 rfl rfl rfl rfl rfl rfl (by repeat constructor) (by repeat constructor) ?_);refine o_ (h:=BN 15 (h:=z_ (h:=t_ (w_ (m_ (h:=m_ (h:=?_)))))));refine As true rfl rfl (fun hb1=>?_) (fun hb1=>?_)
  ·have hc1:=bp hb1;refine f_ (h:=l_ (h:=Ac (h:=AU (h:=a_ (h:=e_ (A6 (?_)))))));refine AA ?_
   first|(rw[hde,hb1];rfl)|(rw[hde,hb2];rfl)
  have hc1:=bp hb1;refine A3 (h:=A3 (h:=A3 (h:=Ah (h:=a_ (h:=e_ (A6 (?_)))))));refine AA ?_
  first|(rw[hde,hb1];rfl)|(rw[hde,hb2];rfl)
 refine CW (by repeat constructor) ?_;refine o_ (h:=?_);refine c_ 9 rfl (AK (Gw s.files w.at_ hs.files) ?_);rintro r rfl;refine o_ (h:=AP 10 (h:=BK 11 (h:=BK 12 (h:=?_))));refine B8 14 rfl (B3 rfl rfl rfl rfl rfl rfl (by repeat constructor) (by repeat constructor) ?_);refine o_ (h:=BN 15 (h:=z_ (h:=t_ (w_ (m_ (h:=m_ (h:=?_)))))));refine As true rfl rfl (fun hb2=>?_) (fun hb2=>?_)
 ·have hc2:=bp hb2;refine f_ (h:=l_ (h:=Ac (h:=AU (h:=a_ (h:=e_ (A6 (?_)))))));refine AA ?_
  first|(rw[hde,hb1];rfl)|(rw[hde,hb2];rfl)
 have hc2:=bp hb2;refine A3 (h:=A3 (h:=A3 (h:=Ah (h:=a_ (h:=e_ (A6 (?_)))))));refine AA ?_
 first|(rw[hde,hb1];rfl)|(rw[hde,hb2];rfl)
theorem fZ(s:Spc)(fl sl:Bool)(w:Wk)(hs:SpcN s)(hw:∀a,(Bk s a).1.size≤1000)(hn:w.name.size≤1000000):AFn prog 82 [.fp (E8 s fl w), .v (.bool sl)] (fun r=>r= .agg (Ax (Ft s sl w))):=by
 refine enter Tryz.func82 rfl rfl rfl rfl rfl 0 rfl ?_;refine w_ (Af (h:=e_ (q_ (Bi ([(0,Ax D8)]) 17 (h:=AP 0 (h:=BW 1 (h:=AQ 2 (h:=AF 3 (h:=AP 4 (h:=BW 5 (h:=AQ 6 (h:=AF 7 (h:=AP 8 (h:=BW 9 (h:=AQ 10 (h:=AF 11 (h:=Gt 12 (h:=AP 13 (h:=Fh 14 (h:=?_))))))))))))))))))));refine c_ 15 rfl (CW (by repeat constructor) ?_);refine o_ (h:=?_);refine B8 16 rfl (B3 rfl rfl rfl rfl rfl rfl (by repeat constructor) (by repeat constructor) ?_);refine o_ (h:=z_ (h:=t_ (q_ (w_ (m_ (h:=k_ (h:=f_ (h:=l_ (h:=Ac (h:=e_ (?_)))))))))));refine A8 rfl (fun hb1=>?_) (fun hb1=>?_)
 ·have hc1:=bp hb1;refine q_ (Bi ([(0,Ax D8)]) 12 (h:=AP 0 (h:=BW 1 (h:=AQ 2 (h:=AF 3 (h:=AP 4 (h:=BW 5 (h:=AQ 6 (h:=AF 7 (h:=AQ 8 (h:=?_)))))))))));refine B8 9 rfl (B3 rfl rfl rfl rfl rfl rfl (by repeat constructor) (by repeat constructor) ?_);refine o_ (h:=AQ 10 (h:=?_));refine B8 11 rfl (B3 rfl rfl rfl rfl rfl rfl (by repeat constructor) (by repeat constructor) ?_);refine o_ (h:=z_ (h:=t_ (q_ (Bi ([(0,Ax D8)]) 12 (h:=AP 0 (h:=BW 1 (h:=AQ 2 (h:=AF 3 (h:=AQ 4 (h:=?_))))))))));refine c_ 5 rfl (Ez rfl rfl rfl ?_);refine o_ (h:=?_);refine c_ 6 rfl (AK (Qd hs w.at_) ?_);rintro r rfl;refine o_ (h:=AP 7 (h:=BK 8 (h:=BK 9 (h:=AQ 10 (h:=?_)))));refine B8 11 rfl (B3 rfl rfl rfl rfl rfl rfl (by repeat constructor) (by repeat constructor) ?_);refine o_ (h:=z_ (h:=t_ (w_ (l_ (h:=s_ (h:=e_ (A6 (A4 (?_)))))))));refine AA ?_;rw[show Ft s sl w=⟨w.at_,⟨#[]⟩,w.at_, !w.missing,sl,(Bk s w.at_).1⟩ from if_pos hc1,hc1];rfl
 have hc1:=bp hb1;refine AN (q_ (w_ (f_ (h:=l_ (h:=e_ (?_))))));refine A8 rfl (fun hb2=>?_) (fun hb2=>?_)
 ·have hc2:=bp hb2;refine AX (m_ (h:=k_ (h:=f_ (h:=l_ (h:=f_ (h:=s_ (h:=e_ (q_ (q_ (Dk 12 (h:=AP 0 (h:=BW 1 (h:=AQ 2 (h:=AF 3 (h:=AQ 4 (h:=AF 5 (h:=?_)))))))))))))))));refine c_ 6 rfl (AK (Qd hs w.dir) ?_);rintro r rfl;refine o_ (h:=AP 7 (h:=BK 8 (h:=BK 9 (h:=BN 10 (h:=BN 11 (h:=z_ (h:=t_ (w_ (m_ (h:=e_ (?_)))))))))));refine A8 rfl (fun hb3=>?_) (fun hb3=>?_)
  ·have hc3:=bp hb3;refine AX (m_ (h:=f_ (h:=l_ (h:=?_))));refine A7 rfl (AK (VK (Bk s w.dir).1 w.name (by have:=hw w.dir;omega) hn) ?_);rintro r rfl;refine f_ (h:=s_ (h:=e_ (w_ (l_ (h:=s_ (h:=e_ (A6 (?_))))))));refine AA ?_;rw[show Ft s sl w=⟨w.dir,w.name,w.at_, !w.missing,sl,D7 (Bk s w.dir).1 w.name⟩ by unfold Ft;rw[if_neg hc1,if_neg (by simp[hc2]),if_pos hc3]];rfl
  have hc3:=bp hb3;refine AN (w_ (l_ (h:=s_ (h:=e_ (A6 (?_))))));refine AA ?_;rw[show Ft s sl w=⟨w.dir,w.name,w.at_, !w.missing,sl,⟨#[]⟩⟩ by unfold Ft;rw[if_neg hc1,if_neg (by simp[hc2]),if_neg (by simp[hc3])]];rfl
 have hc2:=bp hb2;refine AN (q_ (q_ (Dk 12 (h:=AP 0 (h:=BW 1 (h:=AQ 2 (h:=AF 3 (h:=AQ 4 (h:=AF 5 (h:=?_))))))))));refine c_ 6 rfl (AK (Qd hs w.dir) ?_);rintro r rfl;refine o_ (h:=AP 7 (h:=BK 8 (h:=BK 9 (h:=BN 10 (h:=BN 11 (h:=z_ (h:=t_ (w_ (m_ (h:=e_ (?_)))))))))));refine A8 rfl (fun hb4=>?_) (fun hb4=>?_)
 ·have hc4:=bp hb4;refine AX (m_ (h:=f_ (h:=l_ (h:=?_))));refine A7 rfl (AK (VK (Bk s w.dir).1 w.name (by have:=hw w.dir;omega) hn) ?_);rintro r rfl;refine f_ (h:=s_ (h:=e_ (w_ (l_ (h:=s_ (h:=e_ (A6 (?_))))))));refine AA ?_;rw[show Ft s sl w=⟨w.dir,w.name,(0,0), !w.missing,sl,D7 (Bk s w.dir).1 w.name⟩ by unfold Ft;rw[if_neg hc1,if_pos (by simp[hc2]),if_pos hc4]];rfl
 have hc4:=bp hb4;refine AN (w_ (l_ (h:=s_ (h:=e_ (A6 (?_))))));refine AA ?_;rw[show Ft s sl w=⟨w.dir,w.name,(0,0), !w.missing,sl,⟨#[]⟩⟩ by unfold Ft;rw[if_neg hc1,if_pos (by simp[hc2]),if_neg (by simp[hc4])]];rfl
end
def OU(s:Spc)(tg:AE)(rest:List AE)(w:Wk):Wk:=⟨Cd tg++rest,if Ck tg=true then D9 s else w.at_,if Ck tg=true then(0,0)else w.dir,if Ck tg=true then⟨#[]⟩else w.name,w.missing,w.links+1⟩
theorem OV(s:Spc)(fl:Bool)(w:Wk):Aq 0 0 (E8 s fl w)=true:=rfl
section
theorem g7(s:Spc)(fl:Bool)(w:Wk)(tg:AE)(rest:List AE)(hs:SpcB s)(h8:w.links≤8)(htg:tg.size≤60000)(hrl:rest.length≤500000):NJ prog 124 [.bp 0 0, .v (.string tg), .sl 1 (rest.map Cq) none] (E8 s fl w) (fun r row'=>(w.links=8∧r= .v (.int .i64 40)∧row'=E8 s fl w)∨(w.links≠8∧r= .v (.int .i64 0)∧row'=E8 s fl (OU s tg rest w))):=by
 have hpl:=L4 tg;refine enter Tryz.func124 rfl rfl rfl rfl rfl 1 rfl ?_;refine w_ (a_ (h:=e_ (q_ (w_ (m_ (h:=k_ (h:=f_ (h:=l_ (h:=Ac (h:=e_ (?_)))))))))));refine A8 rfl (fun hb1=>?_) (fun hb1=>?_)
 ·have hc1:=bp hb1;refine w_ (a_ (h:=e_ (A6 (A4 (?_)))));refine B0 none (h5:=(AM _)) (h6:=⟨_,rfl,rfl, .inl ⟨by omega,rfl,rfl⟩⟩)
 have hc1:=bp hb1;refine AN (w_ (m_ (h:=k_ (h:=f_ (h:=l_ (h:=?_))))));refine A7 rfl (Ji rfl rfl (by omega) ?_);refine k_ (h:=f_ (h:=s_ (h:=e_ (w_ (m_ (h:=?_))))));refine A7 rfl (AK (VJ tg htg) ?_);rintro r rfl;refine m_ (h:=x_ (h:=x_ (h:=x_ (h:=a_ (h:=a_ (h:=a_ (h:=e_ (w_ (m_ (h:=m_ (h:=m_ (h:=n_ (h:=m_ (h:=n_ (h:=?_)))))))))))))));refine fS rfl rfl rfl rfl rfl rfl rfl rfl rfl rfl (by simp;omega) ?_;refine k_ (h:=f_ (h:=s_ (h:=e_ (q_ (w_ (m_ (h:=?_)))))));refine A7 rfl (AK (fW tg) ?_);rintro r rfl;refine e_ (?_);refine A8 rfl (fun hb2=>?_) (fun hb2=>?_)
 ·have hc2:=bp hb2;refine AX (m_ (h:=m_ (h:=m_ (h:=m_ (h:=k_ (h:=f_ (h:=l_ (h:=?_))))))));refine A7 rfl (AK (VL s hs) ?_);rintro r rfl;refine Aa (h:=k_ (h:=f_ (h:=s_ (h:=k_ (h:=f_ (h:=s_ (h:=k_ (h:=f_ (h:=s_ (h:=e_ (w_ (a_ (h:=e_ (A6 (?_)))))))))))))));refine B0 none (h5:=(AM _)) (h6:=⟨_,rfl,rfl, .inr ⟨by omega,rfl,by simp only[E8,OU,if_pos hc2,List.map_append];rfl⟩⟩)
 have hc2:=bp hb2;refine AN (w_ (a_ (h:=e_ (A6 (?_)))));refine B0 none (h5:=(AM _)) (h6:=⟨_,rfl,rfl, .inr ⟨by omega,rfl,by simp only[E8,OU,hc2,if_neg (show¬false=true by simp),List.map_append];rfl⟩⟩)
theorem g8(s:Spc)(fl:Bool)(w:Wk)(p:AE)(ps:List AE)(hps:w.ps=p::ps)(hs:SpcB s)(hv:SpcV s)(h8:w.links≤8)(hrl:ps.length≤500000):NJ prog 81 [.bp 0 0] (E8 s fl w) (fun r row'=>(∃e,E7 s fl p ps w= .inl e∧e≠0∧r= .v (.int .i64 e)∧row'=E8 s fl w)∨∃w',E7 s fl p ps w= .inr w'∧r= .v (.int .i64 0)∧row'=E8 s fl w'):=by
 obtain⟨ps0,a,dr,nm,mi,lk⟩:=w;simp only at hps h8;subst hps;have hml:(ps.map Cq).length=ps.length:=by simp
 have htg:=MM hv.files (AD s.files a p).1;refine enter Tryz.func81 rfl rfl rfl rfl rfl 1 rfl ?_;refine w_ (a_ (h:=e_ (q_ (Bi ([(0,E8 s fl ⟨p::ps,a,dr,nm,mi,lk⟩)]) 13 (h:=AP 0 (h:=BW 1 (h:=AQ 2 (h:=AF 3 (h:=?_)))))))));refine B4 4 rfl (fun _ hS=>CM (n:=0) rfl rfl rfl rfl ⟨rfl,rfl⟩) ?_;refine AF 5 (h:=AP 6 (h:=BW 7 (h:=AQ 8 (h:=AF 9 (h:=?_)))));refine B4 10 rfl (fun _ hS=>P6 (l:=1) rfl rfl rfl (by simp) ⟨rfl,rfl⟩) ?_;refine BN 11 (h:=BN 12 (h:=z_ (h:=t_ (q_ (w_ (m_ (h:=?_)))))));refine A7 rfl (ET 1 rfl (.cons _ _ _ _ _ rfl (AM _) .nil) (RN s fl ⟨p::ps,a,dr,nm,mi,lk⟩ hs) ?_);rintro r rfl;refine⟨rfl,?_⟩;refine BZ (h:=e_ (?_));refine A8 rfl (fun hb1=>?_) (fun hb1=>?_)
 ·have hc1:=bp hb1;refine w_ (a_ (h:=e_ (A6 (A4 (?_)))));refine B0 none (h5:=(AM _)) (h6:=⟨_,rfl,rfl, .inl ⟨20,by unfold E7;rw[if_pos hc1],by decide,rfl,rfl⟩⟩)
 have hc1:=bp hb1;refine AN (q_ (w_ (m_ (h:=n_ (h:=CS (h:=e_ (?_)))))));refine A8 rfl (fun hb2=>?_) (fun hb2=>?_)
 ·have hc2:=bp hb2;refine w_ (a_ (h:=e_ (A6 (A4 (?_)))));refine B0 none (h5:=(AM _)) (h6:=⟨_,rfl,rfl, .inl ⟨36,by unfold E7;rw[if_neg (by simp[hc1]),if_pos (by omega)],by decide,rfl,rfl⟩⟩)
 have hc2:=bp hb2;refine AN (q_ (w_ (m_ (h:=e_ (Ao (q_ (Ao (q_ (Ao (q_ (q_ (w_ (Ac (h:=a_ (h:=e_ (?_))))))))))))))));refine A8 rfl (fun hb3=>?_) (fun hb3=>?_)
 ·have hc3:=bp hb3;refine BU (Am (Am (BV (t_ (?_)))));refine KT (fun h=>∃x y,h.bx=[[.sl 2 (s.files.map Be) none, .sl 3 (s.mounts.map Co) none, .sl 1 ((p::ps).map Cq) none,x,y, .v (.int .i64 dr.1), .v (.int .i64 dr.2), .v (.string nm), .v (.bool mi), .v (.bool fl), .v (.int .i64 (lk:Int))]]) 18 (by kernel_rfl) ?_;refine BR (i:=0) rfl rfl (by kernel_rfl) (by first|rfl|exact AO rfl rfl (BG ‹_›)|exact AO rfl rfl (BH ‹_›)|exact AO rfl rfl (by simp[*])) (fun h0 hS=>En rfl ⟨rfl,rfl⟩) ⟨_,_,rfl⟩ ?_;refine BR (i:=1) rfl rfl (by kernel_rfl) (by first|rfl|exact AO rfl rfl (BG ‹_›)|exact AO rfl rfl (BH ‹_›)|exact AO rfl rfl (by simp[*])) (fun h0 hS=>En rfl ⟨rfl,rfl⟩) ⟨_,_,rfl⟩ ?_
  first|refine BR (i:=2) rfl rfl (by kernel_rfl) (by first|rfl|exact AO rfl rfl (BG ‹_›)|exact AO rfl rfl (BH ‹_›)|exact AO rfl rfl (by simp[*])) (fun h0 hS=>Gm rfl ⟨rfl,rfl⟩) ⟨_,_,rfl⟩ ?_|refine BR (i:=2) rfl rfl (by kernel_rfl) (by first|rfl|exact AO rfl rfl (BG ‹_›)|exact AO rfl rfl (BH ‹_›)|exact AO rfl rfl (by simp[*])) (fun h0 hS=>Gp rfl ⟨rfl,rfl⟩) ⟨_,_,rfl⟩ ?_
  first|refine BR (i:=3) rfl rfl (by kernel_rfl) (by first|rfl|exact AO rfl rfl (BG ‹_›)|exact AO rfl rfl (BH ‹_›)|exact AO rfl rfl (by simp[*])) (fun h0 hS=>Ee rfl ⟨rfl,rfl⟩) ⟨_,_,rfl⟩ ?_|refine BR (i:=3) rfl rfl (by kernel_rfl) (by first|rfl|exact AO rfl rfl (BG ‹_›)|exact AO rfl rfl (BH ‹_›)|exact AO rfl rfl (by simp[*])) (fun h0 hS=>Gq rfl ⟨rfl,rfl⟩) ⟨_,_,rfl⟩ ?_
  first|refine BR (i:=4) rfl rfl (by kernel_rfl) (by first|rfl|exact AO rfl rfl (BG ‹_›)|exact AO rfl rfl (BH ‹_›)|exact AO rfl rfl (by simp[*])) (fun h0 hS=>by obtain⟨x,y,e⟩:=hS;exact Ez (row:=[.sl 2 (s.files.map Be) none, .sl 3 (s.mounts.map Co) none, .sl 1 ((p::ps).map Cq) none,x,y, .v (.int .i64 dr.1), .v (.int .i64 dr.2), .v (.string nm), .v (.bool mi), .v (.bool fl), .v (.int .i64 (lk:Int))]) rfl (by rw[e];rfl) rfl (show _=AV.agg (Ar s)∧_ from⟨rfl,rfl⟩)) ⟨_,_,rfl⟩ ?_|refine BR (i:=4) rfl rfl (by kernel_rfl) (by first|rfl|exact AO rfl rfl (BG ‹_›)|exact AO rfl rfl (BH ‹_›)|exact AO rfl rfl (by simp[*])) (fun h0 hS=>Bh rfl rfl rfl ⟨rfl,rfl⟩) ⟨_,_,rfl⟩ ?_|refine BR (i:=4) rfl rfl (by kernel_rfl) (by first|rfl|exact AO rfl rfl (BG ‹_›)|exact AO rfl rfl (BH ‹_›)|exact AO rfl rfl (by simp[*])) (fun h0 hS=>Fd rfl rfl rfl ⟨rfl,rfl⟩) ⟨_,_,rfl⟩ ?_|refine BR (i:=4) rfl rfl (by kernel_rfl) (by first|rfl|exact AO rfl rfl (BG ‹_›)|exact AO rfl rfl (BH ‹_›)|exact AO rfl rfl (by simp[*])) (fun h0 hS=>Gr rfl rfl ⟨rfl,rfl⟩) ⟨_,_,rfl⟩ ?_|refine BR (i:=4) rfl rfl (by kernel_rfl) (by first|rfl|exact AO rfl rfl (BG ‹_›)|exact AO rfl rfl (BH ‹_›)|exact AO rfl rfl (by simp[*])) (fun h0 hS=>J8 rfl rfl ⟨rfl,rfl⟩) ⟨_,_,rfl⟩ ?_|refine BR (i:=4) rfl rfl (by kernel_rfl) (by first|rfl|exact AO rfl rfl (BG ‹_›)|exact AO rfl rfl (BH ‹_›)|exact AO rfl rfl (by simp[*])) (fun h0 hS=>Ez rfl rfl rfl ⟨rfl,rfl⟩) ⟨_,_,rfl⟩ ?_|refine BR (i:=4) rfl rfl (by kernel_rfl) (by first|rfl|exact AO rfl rfl (BG ‹_›)|exact AO rfl rfl (BH ‹_›)|exact AO rfl rfl (by simp[*])) (fun h0 hS=>Hd rfl rfl ⟨rfl,rfl⟩) ⟨_,_,rfl⟩ ?_
  refine BR (i:=5) rfl rfl (by kernel_rfl) (by first|rfl|exact AO rfl rfl (BG ‹_›)|exact AO rfl rfl (BH ‹_›)|exact AO rfl rfl (by simp[*])) (fun h0 hS=>En rfl ⟨rfl,rfl⟩) ⟨_,_,rfl⟩ ?_
  first|refine BR (i:=6) rfl rfl (by kernel_rfl) (by first|rfl|exact AO rfl rfl (BG ‹_›)|exact AO rfl rfl (BH ‹_›)|exact AO rfl rfl (by simp[*])) (fun h0 hS=>Gm rfl ⟨rfl,rfl⟩) ⟨_,_,rfl⟩ ?_|refine BR (i:=6) rfl rfl (by kernel_rfl) (by first|rfl|exact AO rfl rfl (BG ‹_›)|exact AO rfl rfl (BH ‹_›)|exact AO rfl rfl (by simp[*])) (fun h0 hS=>Gp rfl ⟨rfl,rfl⟩) ⟨_,_,rfl⟩ ?_
  first|refine BR (i:=7) rfl rfl (by kernel_rfl) (by first|rfl|exact AO rfl rfl (BG ‹_›)|exact AO rfl rfl (BH ‹_›)|exact AO rfl rfl (by simp[*])) (fun h0 hS=>Ee rfl ⟨rfl,rfl⟩) ⟨_,_,rfl⟩ ?_|refine BR (i:=7) rfl rfl (by kernel_rfl) (by first|rfl|exact AO rfl rfl (BG ‹_›)|exact AO rfl rfl (BH ‹_›)|exact AO rfl rfl (by simp[*])) (fun h0 hS=>Gq rfl ⟨rfl,rfl⟩) ⟨_,_,rfl⟩ ?_
  first|refine BR (i:=8) rfl rfl (by kernel_rfl) (by first|rfl|exact AO rfl rfl (BG ‹_›)|exact AO rfl rfl (BH ‹_›)|exact AO rfl rfl (by simp[*])) (fun h0 hS=>by obtain⟨x,y,e⟩:=hS;exact Ez (row:=[.sl 2 (s.files.map Be) none, .sl 3 (s.mounts.map Co) none, .sl 1 ((p::ps).map Cq) none,x,y, .v (.int .i64 dr.1), .v (.int .i64 dr.2), .v (.string nm), .v (.bool mi), .v (.bool fl), .v (.int .i64 (lk:Int))]) rfl (by rw[e];rfl) rfl (show _=AV.agg (Ar s)∧_ from⟨rfl,rfl⟩)) ⟨_,_,rfl⟩ ?_|refine BR (i:=8) rfl rfl (by kernel_rfl) (by first|rfl|exact AO rfl rfl (BG ‹_›)|exact AO rfl rfl (BH ‹_›)|exact AO rfl rfl (by simp[*])) (fun h0 hS=>Bh rfl rfl rfl ⟨rfl,rfl⟩) ⟨_,_,rfl⟩ ?_|refine BR (i:=8) rfl rfl (by kernel_rfl) (by first|rfl|exact AO rfl rfl (BG ‹_›)|exact AO rfl rfl (BH ‹_›)|exact AO rfl rfl (by simp[*])) (fun h0 hS=>Fd rfl rfl rfl ⟨rfl,rfl⟩) ⟨_,_,rfl⟩ ?_|refine BR (i:=8) rfl rfl (by kernel_rfl) (by first|rfl|exact AO rfl rfl (BG ‹_›)|exact AO rfl rfl (BH ‹_›)|exact AO rfl rfl (by simp[*])) (fun h0 hS=>Gr rfl rfl ⟨rfl,rfl⟩) ⟨_,_,rfl⟩ ?_|refine BR (i:=8) rfl rfl (by kernel_rfl) (by first|rfl|exact AO rfl rfl (BG ‹_›)|exact AO rfl rfl (BH ‹_›)|exact AO rfl rfl (by simp[*])) (fun h0 hS=>J8 rfl rfl ⟨rfl,rfl⟩) ⟨_,_,rfl⟩ ?_|refine BR (i:=8) rfl rfl (by kernel_rfl) (by first|rfl|exact AO rfl rfl (BG ‹_›)|exact AO rfl rfl (BH ‹_›)|exact AO rfl rfl (by simp[*])) (fun h0 hS=>Ez rfl rfl rfl ⟨rfl,rfl⟩) ⟨_,_,rfl⟩ ?_|refine BR (i:=8) rfl rfl (by kernel_rfl) (by first|rfl|exact AO rfl rfl (BG ‹_›)|exact AO rfl rfl (BH ‹_›)|exact AO rfl rfl (by simp[*])) (fun h0 hS=>Hd rfl rfl ⟨rfl,rfl⟩) ⟨_,_,rfl⟩ ?_
  refine BR (i:=9) rfl rfl (by kernel_rfl) (by first|rfl|exact AO rfl rfl (BG ‹_›)|exact AO rfl rfl (BH ‹_›)|exact AO rfl rfl (by simp[*])) (fun h0 hS=>En rfl ⟨rfl,rfl⟩) ⟨_,_,rfl⟩ ?_
  first|refine BR (i:=10) rfl rfl (by kernel_rfl) (by first|rfl|exact AO rfl rfl (BG ‹_›)|exact AO rfl rfl (BH ‹_›)|exact AO rfl rfl (by simp[*])) (fun h0 hS=>Gm rfl ⟨rfl,rfl⟩) ⟨_,_,rfl⟩ ?_|refine BR (i:=10) rfl rfl (by kernel_rfl) (by first|rfl|exact AO rfl rfl (BG ‹_›)|exact AO rfl rfl (BH ‹_›)|exact AO rfl rfl (by simp[*])) (fun h0 hS=>Gp rfl ⟨rfl,rfl⟩) ⟨_,_,rfl⟩ ?_
  first|refine BR (i:=11) rfl rfl (by kernel_rfl) (by first|rfl|exact AO rfl rfl (BG ‹_›)|exact AO rfl rfl (BH ‹_›)|exact AO rfl rfl (by simp[*])) (fun h0 hS=>Ee rfl ⟨rfl,rfl⟩) ⟨_,_,rfl⟩ ?_|refine BR (i:=11) rfl rfl (by kernel_rfl) (by first|rfl|exact AO rfl rfl (BG ‹_›)|exact AO rfl rfl (BH ‹_›)|exact AO rfl rfl (by simp[*])) (fun h0 hS=>Gq rfl ⟨rfl,rfl⟩) ⟨_,_,rfl⟩ ?_
  first|refine c_ 12 rfl (Bh rfl rfl rfl ?_)|refine c_ 12 rfl (Fd rfl rfl rfl ?_)|refine c_ 12 rfl (Gr rfl rfl ?_)|refine c_ 12 rfl (J8 rfl rfl ?_)|refine c_ 12 rfl (Ez rfl rfl rfl ?_)|refine c_ 12 rfl (Hd rfl rfl ?_)
  refine⟨.inr ⟨_,_,rfl⟩,?_⟩;refine c_ 13 rfl (AK (bU hs hv a) ?_);rintro r rfl;refine⟨.inr ⟨_,_,rfl⟩,?_⟩;refine c_ 14 rfl (AK (Pc s (DY s (s.mounts.length+1) a) hs) ?_);rintro r rfl;refine⟨.inr ⟨_,_,rfl⟩,?_⟩
  first|refine BR (i:=15) rfl rfl (by kernel_rfl) (by first|rfl|exact AO rfl rfl (BG ‹_›)|exact AO rfl rfl (BH ‹_›)|exact AO rfl rfl (by simp[*])) (fun h0 hS=>Gm rfl ⟨rfl,rfl⟩) ⟨_,_,rfl⟩ ?_|refine BR (i:=15) rfl rfl (by kernel_rfl) (by first|rfl|exact AO rfl rfl (BG ‹_›)|exact AO rfl rfl (BH ‹_›)|exact AO rfl rfl (by simp[*])) (fun h0 hS=>Gp rfl ⟨rfl,rfl⟩) ⟨_,_,rfl⟩ ?_
  first|refine BR (i:=16) rfl rfl (by kernel_rfl) (by first|rfl|exact AO rfl rfl (BG ‹_›)|exact AO rfl rfl (BH ‹_›)|exact AO rfl rfl (by simp[*])) (fun h0 hS=>Ee rfl ⟨rfl,rfl⟩) ⟨_,_,rfl⟩ ?_|refine BR (i:=16) rfl rfl (by kernel_rfl) (by first|rfl|exact AO rfl rfl (BG ‹_›)|exact AO rfl rfl (BH ‹_›)|exact AO rfl rfl (by simp[*])) (fun h0 hS=>Gq rfl ⟨rfl,rfl⟩) ⟨_,_,rfl⟩ ?_
  refine B8 17 rfl (B3 rfl rfl rfl rfl rfl rfl (by repeat constructor) (by repeat constructor) ?_);refine⟨.inr ⟨_,_,rfl⟩,?_⟩;refine z_ (h:=Au (t_ (q_ (w_ (m_ (h:=m_ (h:=m_ (h:=m_ (h:=Aa (h:=k_ (h:=f_ (h:=s_ (h:=k_ (h:=f_ (h:=s_ (h:=k_ (h:=f_ (h:=s_ (h:=e_ (w_ (a_ (h:=e_ (A6 (?_))))))))))))))))))))))));refine A4 (AR (A4 (?_)));refine B0 none (h5:=(AM _)) (h6:=⟨_,rfl,rfl, .inr ⟨⟨ps,Ci s s.mounts.length (DY s (s.mounts.length+1) a),(0,0),⟨#[]⟩,mi,lk⟩,by unfold E7;rw[if_neg (by simp[hc1]),if_neg (by omega),if_pos hc3],rfl,rfl⟩⟩)
 have hc3:=bp hb3;refine AN (w_ (Ac (h:=a_ (h:=e_ (?_)))));refine A8 rfl (fun hb4=>?_) (fun hb4=>?_)
 ·have hc4:=bp hb4;refine BU (Am (LR rfl (Am (BV (t_ (q_ (w_ (m_ (h:=m_ (h:=m_ (h:=m_ (h:=Aa (h:=k_ (h:=f_ (h:=s_ (h:=k_ (h:=f_ (h:=s_ (h:=k_ (h:=f_ (h:=s_ (h:=e_ (w_ (?_))))))))))))))))))))))));refine a_ (h:=e_ (A6 (A4 (AR (A4 (?_))))));refine B0 none (h5:=(AM _)) (h6:=⟨_,rfl,rfl, .inr ⟨⟨ps,a,(0,0),⟨#[]⟩,mi,lk⟩,by unfold E7;rw[if_neg (by simp[hc1]),if_neg (by omega),if_neg hc3,if_pos hc4],rfl,rfl⟩⟩)
 have hc4:=bp hb4;refine AN (BU (LR rfl (Am (LR rfl (Am (BV (t_ (q_ (w_ (m_ (h:=?_)))))))))));refine A7 rfl (AK (ZG p) ?_);rintro r rfl;refine BZ (h:=e_ (?_));refine A8 rfl (fun hb5=>?_) (fun hb5=>?_)
 ·have hc5:=bp hb5;refine w_ (a_ (h:=e_ (A6 (A4 (?_)))));refine B0 none (h5:=(AM _)) (h6:=⟨_,rfl,rfl, .inl ⟨2,by unfold E7;rw[if_neg (by simp[hc1]),if_neg (by omega),if_neg hc3,if_neg hc4,if_pos hc5],by decide,rfl,rfl⟩⟩)
 have hc5:=bp hb5;refine AN (?_);refine JC (⟨look [(0, .bp 0 0),(3, .v (.string p)),(4, .sl 1 (ps.map Cq) none),(5, .bp 1 0),(6, .v (.int .i64 (AD s.files a p).2))],⟨[E8 s fl ⟨p::ps,a,dr,nm,mi,lk⟩,AB (AD s.files a p).1],[]⟩⟩) ?_ ?_
 ·skip
  refine Bi ([(0,E8 s fl ⟨p::ps,a,dr,nm,mi,lk⟩)]) 17 (h:=AP 0 (h:=BW 1 (h:=AQ 2 (h:=AQ 3 (h:=AF 4 (h:=AP 5 (h:=BW 6 (h:=AQ 7 (h:=AF 8 (h:=AP 9 (h:=?_)))))))))));refine Es 10 14 rfl rfl ?_ ?_
  ·refine AK (RM s.files a p hs.files) ?_;rintro r rfl;refine o_ (h:=?_);refine AP 11 (h:=BK 12 (h:=BK 13 (h:=?_)));refine c_ 14 rfl (CW (by repeat constructor) ?_);refine o_ (h:=?_);refine B8 15 rfl (B3 rfl rfl rfl rfl rfl rfl (by repeat constructor) (by repeat constructor) ?_);refine o_ (h:=BN 16 (h:=z_ (h:=?_)));refine AJ ?_
   first|(exfalso;first|contradiction|omega)|exact B7 2 0 rfl rfl rfl rfl (by repeat (first|exact Sub.nil|refine B9 rfl rfl ?_|refine BC ?_|refine BD rfl ?_|refine BE rfl ?_|(apply Sub.of;(focus exact rfl);(focus exact LeA.of_eq (vb (by rfl)));(focus exact rfl))))
  refine CW (by repeat constructor) ?_;refine o_ (h:=?_);refine c_ 10 rfl (AK (RM s.files a p hs.files) ?_);rintro r rfl;refine o_ (h:=AP 11 (h:=BK 12 (h:=BK 13 (h:=?_))));refine B8 15 rfl (B3 rfl rfl rfl rfl rfl rfl (by repeat constructor) (by repeat constructor) ?_);refine o_ (h:=BN 16 (h:=z_ (h:=?_)));refine AJ ?_
  first|(exfalso;first|contradiction|omega)|exact B7 2 0 rfl rfl rfl rfl (by repeat (first|exact Sub.nil|refine B9 rfl rfl ?_|refine BC ?_|refine BD rfl ?_|refine BE rfl ?_|(apply Sub.of;(focus exact rfl);(focus exact LeA.of_eq (vb (by rfl)));(focus exact rfl))))
 skip
 refine q_ (w_ (m_ (h:=BX (h:=e_ (?_)))));refine A8 rfl (fun hb6=>?_) (fun hb6=>?_)
 ·have hc6:=bp hb6;refine q_ (w_ (m_ (h:=n_ (h:=CS (h:=e_ (?_))))));refine A8 rfl (fun hb7=>?_) (fun hb7=>?_)
  ·have hc7:=bp hb7;have hps:ps≠[]:=fun e=>by rw[e]at hml hc7;simp at hc7
   refine w_ (a_ (h:=e_ (A6 (A4 (A4 (?_))))));refine B0 none (h5:=(AM _)) (h6:=⟨_,rfl,rfl, .inl ⟨2,by unfold E7;rw[if_neg (by simp[hc1]),if_neg (by omega),if_neg hc3,if_neg hc4,if_neg (by simp[hc5]),if_pos hc6,if_pos hps],by decide,rfl,rfl⟩⟩)
  have hc7:=bp hb7;have hps:¬ps≠[]:=fun e=>e (DE (by omega));refine AN (w_ (m_ (h:=m_ (h:=m_ (h:=m_ (h:=m_ (h:=m_ (h:=k_ (h:=f_ (h:=l_ (h:=m_ (h:=k_ (h:=f_ (h:=s_ (h:=k_ (h:=f_ (h:=s_ (h:=k_ (h:=f_ (h:=s_ (h:=k_ (h:=f_ (h:=s_ (h:=?_))))))))))))))))))))))));refine e_ (w_ (a_ (h:=e_ (A6 (A4 (?_))))));refine B0 none (h5:=(AM _)) (h6:=⟨_,rfl,rfl, .inr ⟨⟨ps,a,a,p,true,lk⟩,by unfold E7;rw[if_neg (by simp[hc1]),if_neg (by omega),if_neg hc3,if_neg hc4,if_neg (by simp[hc5]),if_pos hc6,if_neg hps],rfl,rfl⟩⟩)
 have hc6:=bp hb6;refine AN (?_);refine JC (⟨look [(0, .bp 0 0),(3, .v (.string p)),(4, .sl 1 (ps.map Cq) none),(5, .bp 1 0),(7, .bp 2 0)],⟨[E8 s fl ⟨p::ps,a,dr,nm,mi,lk⟩,AB (AD s.files a p).1,Ab (AZ s.files (AD s.files a p).1)],[]⟩⟩) ?_ ?_
 ·skip
  refine Bi ([(0,E8 s fl ⟨p::ps,a,dr,nm,mi,lk⟩),(1,AB (AD s.files a p).1)]) 13 (h:=AP 0 (h:=BW 1 (h:=AQ 2 (h:=AQ 3 (h:=AF 4 (h:=AF 5 (h:=?_)))))));refine Es 6 10 rfl rfl ?_ ?_
  ·refine AK (Gw s.files (AD s.files a p).1 hs.files) ?_;rintro r rfl;refine o_ (h:=?_);refine AP 7 (h:=BK 8 (h:=BK 9 (h:=?_)));refine c_ 10 rfl (CW (by repeat constructor) ?_);refine o_ (h:=?_);refine B8 11 rfl (B3 rfl rfl rfl rfl rfl rfl (by repeat constructor) (by repeat constructor) ?_);refine o_ (h:=BN 12 (h:=z_ (h:=?_)));refine AJ ?_
   first|(exfalso;first|contradiction|omega)|exact B7 3 0 rfl rfl rfl rfl (by repeat (first|exact Sub.nil|refine B9 rfl rfl ?_|refine BC ?_|refine BD rfl ?_|refine BE rfl ?_|(apply Sub.of;(focus exact rfl);(focus exact LeA.of_eq (vb (by rfl)));(focus exact rfl))))
  refine CW (by repeat constructor) ?_;refine o_ (h:=?_);refine c_ 6 rfl (AK (Gw s.files (AD s.files a p).1 hs.files) ?_);rintro r rfl;refine o_ (h:=AP 7 (h:=BK 8 (h:=BK 9 (h:=?_))));refine B8 11 rfl (B3 rfl rfl rfl rfl rfl rfl (by repeat constructor) (by repeat constructor) ?_);refine o_ (h:=BN 12 (h:=z_ (h:=?_)));refine AJ ?_
  first|(exfalso;first|contradiction|omega)|exact B7 3 0 rfl rfl rfl rfl (by repeat (first|exact Sub.nil|refine B9 rfl rfl ?_|refine BC ?_|refine BD rfl ?_|refine BE rfl ?_|(apply Sub.of;(focus exact rfl);(focus exact LeA.of_eq (vb (by rfl)));(focus exact rfl))))
 skip
 refine q_ (?_);refine JC (⟨look [(0, .bp 0 0),(3, .v (.string p)),(4, .sl 1 (ps.map Cq) none),(5, .bp 1 0),(7, .bp 2 0),(122, .v (.bool (decide ((AZ s.files (AD s.files a p).1).kind=3)&&(decide (0<((ps.map Cq).length:Int))||fl))))],⟨[E8 s fl ⟨p::ps,a,dr,nm,mi,lk⟩,AB (AD s.files a p).1,Ab (AZ s.files (AD s.files a p).1)],[]⟩⟩) ?_ ?_
 ·skip
  refine AX (f_ (h:=l_ (h:=Ac (h:=m_ (h:=?_)))));refine As true rfl rfl (fun hb8=>?_) (fun hb8=>?_)
  ·have hc8:=bp hb8;refine m_ (h:=n_ (h:=CS (h:=m_ (h:=?_))));refine As false rfl rfl (fun hb9=>?_) (fun hb9=>?_)
   ·have hc9:=bp hb9;refine A3 (h:=A3 (h:=A3 (h:=A3 (h:=AU (h:=AU (h:=AW (?_)))))));refine AJ ?_
    first|(exfalso;first|contradiction|omega)|exact B7 3 0 rfl rfl rfl rfl (by repeat (first|exact Sub.nil|refine B9 rfl rfl ?_|refine BC ?_|refine BD rfl ?_|refine BE rfl ?_|(apply Sub.of;(focus exact rfl);(focus exact LeA.of_eq (vb (by first|(rw[hb8];rfl)|(rw[hb8,hb9];rfl))));(focus exact rfl))))
   have hc9:=bp hb9;refine m_ (h:=k_ (h:=f_ (h:=l_ (h:=Ah (h:=AU (h:=AW (?_)))))));refine AJ ?_
   first|(exfalso;first|contradiction|omega)|exact B7 3 0 rfl rfl rfl rfl (by repeat (first|exact Sub.nil|refine B9 rfl rfl ?_|refine BC ?_|refine BD rfl ?_|refine BE rfl ?_|(apply Sub.of;(focus exact rfl);(focus exact LeA.of_eq (vb (by first|(rw[hb8];rfl)|(rw[hb8,hb9];rfl))));(focus exact rfl))))
  have hc8:=bp hb8;refine A3 (h:=A3 (h:=A3 (h:=A3 (h:=EV (h:=EV (h:=EV (h:=EV (h:=A3 (h:=Ah (h:=AW (?_)))))))))));refine AJ ?_
  first|(exfalso;first|contradiction|omega)|exact B7 3 0 rfl rfl rfl rfl (by repeat (first|exact Sub.nil|refine B9 rfl rfl ?_|refine BC ?_|refine BD rfl ?_|refine BE rfl ?_|(apply Sub.of;(focus exact rfl);(focus exact LeA.of_eq (vb (by first|(rw[hb8];rfl)|(rw[hb8,hb9];rfl))));(focus exact rfl))))
 skip
 refine A8 rfl (fun hb10=>?_) (fun hb10=>?_)
 ·have hc10:=bp hb10
  have hlk:(AZ s.files (AD s.files a p).1).kind=3∧(ps≠[]∨fl=true):=by
   simp only[Bool.and_eq_true,Bool.or_eq_true,decide_eq_true_eq]at hc10;exact⟨hc10.1,hc10.2.imp (fun h e=>by rw[e]at h;simp at h) id⟩
  refine w_ (m_ (h:=f_ (h:=l_ (h:=m_ (h:=?_)))));refine A7 rfl (PG 0 rfl (by repeat (first|exact ArgsB.nil|refine ArgsB.cons _ _ _ _ _ rfl rfl ?_)) rfl rfl (g7 s fl ⟨p::ps,a,dr,nm,mi,lk⟩ (AZ s.files (AD s.files a p).1).target ps hs h8 (by omega) hrl) ?_);rintro r row2 (⟨h9,rfl,rfl⟩|⟨h9,rfl,rfl⟩)
  ·refine⟨OV _ _ _,rfl,_,(by repeat constructor),?_⟩;refine a_ (h:=e_ (A6 (A4 (?_))));refine B0 none (h5:=(AM _)) (h6:=⟨_,rfl,rfl, .inl ⟨40,by unfold E7;rw[if_neg (by simp[hc1]),if_neg (by omega),if_neg hc3,if_neg hc4,if_neg (by simp[hc5]),if_neg (by simp[hc6]),if_pos hlk,if_pos h9],by decide,rfl,rfl⟩⟩)
  refine⟨OV _ _ _,rfl,_,(by repeat constructor),?_⟩;refine a_ (h:=e_ (A6 (A4 (?_))));refine B0 none (h5:=(AM _)) (h6:=⟨_,rfl,rfl, .inr ⟨OU s (AZ s.files (AD s.files a p).1).target ps ⟨p::ps,a,dr,nm,mi,lk⟩,by unfold E7;rw[if_neg (by simp[hc1]),if_neg (by omega),if_neg hc3,if_neg hc4,if_neg (by simp[hc5]),if_neg (by simp[hc6]),if_pos hlk,if_neg h9];rfl,rfl,rfl⟩⟩)
 have hc10:=bp hb10
 have hlk:¬((AZ s.files (AD s.files a p).1).kind=3∧(ps≠[]∨fl=true)):=fun h=>by
  rw[decide_eq_true h.1,Bool.true_and,Bool.or_eq_false_iff]at hc10;rcases h.2 with e|e
  ·exact e (DE (by have:=of_decide_eq_false hc10.1;omega))
  rw[hc10.2]at e;cases e
 refine AN (w_ (m_ (h:=m_ (h:=m_ (h:=m_ (h:=m_ (h:=k_ (h:=f_ (h:=l_ (h:=m_ (h:=k_ (h:=f_ (h:=s_ (h:=k_ (h:=f_ (h:=s_ (h:=k_ (h:=f_ (h:=s_ (h:=e_ (q_ (?_))))))))))))))))))))));refine KT (fun h=>∃x y r,h.bx=[[.sl 2 (s.files.map Be) none, .sl 3 (s.mounts.map Co) none, .sl 1 (ps.map Cq) none,x,y, .v (.int .i64 a.1), .v (.int .i64 a.2), .v (.string p), .v (.bool mi), .v (.bool fl), .v (.int .i64 (lk:Int))],AB (AD s.files a p).1]++r) 10 (by kernel_rfl) ?_;refine BR (i:=0) rfl rfl (by kernel_rfl) (by first|rfl|exact AO rfl rfl (BG ‹_›)|exact AO rfl rfl (BH ‹_›)|exact AO rfl rfl (by simp[*])) (fun h0 hS=>En rfl ⟨rfl,rfl⟩) ⟨_,_,_,rfl⟩ ?_;refine BR (i:=1) rfl rfl (by kernel_rfl) (by first|rfl|exact AO rfl rfl (BG ‹_›)|exact AO rfl rfl (BH ‹_›)|exact AO rfl rfl (by simp[*])) (fun h0 hS=>En rfl ⟨rfl,rfl⟩) ⟨_,_,_,rfl⟩ ?_
 first|refine BR (i:=2) rfl rfl (by kernel_rfl) (by first|rfl|exact AO rfl rfl (BG ‹_›)|exact AO rfl rfl (BH ‹_›)|exact AO rfl rfl (by simp[*])) (fun h0 hS=>Gm rfl ⟨rfl,rfl⟩) ⟨_,_,_,rfl⟩ ?_|refine BR (i:=2) rfl rfl (by kernel_rfl) (by first|rfl|exact AO rfl rfl (BG ‹_›)|exact AO rfl rfl (BH ‹_›)|exact AO rfl rfl (by simp[*])) (fun h0 hS=>Gp rfl ⟨rfl,rfl⟩) ⟨_,_,_,rfl⟩ ?_
 first|refine BR (i:=3) rfl rfl (by kernel_rfl) (by first|rfl|exact AO rfl rfl (BG ‹_›)|exact AO rfl rfl (BH ‹_›)|exact AO rfl rfl (by simp[*])) (fun h0 hS=>Ee rfl ⟨rfl,rfl⟩) ⟨_,_,_,rfl⟩ ?_|refine BR (i:=3) rfl rfl (by kernel_rfl) (by first|rfl|exact AO rfl rfl (BG ‹_›)|exact AO rfl rfl (BH ‹_›)|exact AO rfl rfl (by simp[*])) (fun h0 hS=>Gq rfl ⟨rfl,rfl⟩) ⟨_,_,_,rfl⟩ ?_
 first|refine BR (i:=4) rfl rfl (by kernel_rfl) (by first|rfl|exact AO rfl rfl (BG ‹_›)|exact AO rfl rfl (BH ‹_›)|exact AO rfl rfl (by simp[*])) (fun h0 hS=>by obtain⟨x,y,r,e⟩:=hS;exact Ez (row:=[.sl 2 (s.files.map Be) none, .sl 3 (s.mounts.map Co) none, .sl 1 (ps.map Cq) none,x,y, .v (.int .i64 a.1), .v (.int .i64 a.2), .v (.string p), .v (.bool mi), .v (.bool fl), .v (.int .i64 (lk:Int))]) rfl (by rw[e];rfl) rfl (show _=AV.agg (Ar s)∧_ from⟨rfl,rfl⟩)) ⟨_,_,_,rfl⟩ ?_|refine BR (i:=4) rfl rfl (by kernel_rfl) (by first|rfl|exact AO rfl rfl (BG ‹_›)|exact AO rfl rfl (BH ‹_›)|exact AO rfl rfl (by simp[*])) (fun h0 hS=>by obtain⟨x,y,r,e⟩:=hS;exact Fd (row:=AB (AD s.files a p).1) rfl (by rw[e];rfl) rfl ⟨rfl,rfl⟩) ⟨_,_,_,rfl⟩ ?_|refine BR (i:=4) rfl rfl (by kernel_rfl) (by first|rfl|exact AO rfl rfl (BG ‹_›)|exact AO rfl rfl (BH ‹_›)|exact AO rfl rfl (by simp[*])) (fun h0 hS=>Bh rfl rfl rfl ⟨rfl,rfl⟩) ⟨_,_,_,rfl⟩ ?_|refine BR (i:=4) rfl rfl (by kernel_rfl) (by first|rfl|exact AO rfl rfl (BG ‹_›)|exact AO rfl rfl (BH ‹_›)|exact AO rfl rfl (by simp[*])) (fun h0 hS=>Fd rfl rfl rfl ⟨rfl,rfl⟩) ⟨_,_,_,rfl⟩ ?_|refine BR (i:=4) rfl rfl (by kernel_rfl) (by first|rfl|exact AO rfl rfl (BG ‹_›)|exact AO rfl rfl (BH ‹_›)|exact AO rfl rfl (by simp[*])) (fun h0 hS=>Gr rfl rfl ⟨rfl,rfl⟩) ⟨_,_,_,rfl⟩ ?_|refine BR (i:=4) rfl rfl (by kernel_rfl) (by first|rfl|exact AO rfl rfl (BG ‹_›)|exact AO rfl rfl (BH ‹_›)|exact AO rfl rfl (by simp[*])) (fun h0 hS=>J8 rfl rfl ⟨rfl,rfl⟩) ⟨_,_,_,rfl⟩ ?_|refine BR (i:=4) rfl rfl (by kernel_rfl) (by first|rfl|exact AO rfl rfl (BG ‹_›)|exact AO rfl rfl (BH ‹_›)|exact AO rfl rfl (by simp[*])) (fun h0 hS=>Ez rfl rfl rfl ⟨rfl,rfl⟩) ⟨_,_,_,rfl⟩ ?_|refine BR (i:=4) rfl rfl (by kernel_rfl) (by first|rfl|exact AO rfl rfl (BG ‹_›)|exact AO rfl rfl (BH ‹_›)|exact AO rfl rfl (by simp[*])) (fun h0 hS=>Hd rfl rfl ⟨rfl,rfl⟩) ⟨_,_,_,rfl⟩ ?_
 first|refine BR (i:=5) rfl rfl (by kernel_rfl) (by first|rfl|exact AO rfl rfl (BG ‹_›)|exact AO rfl rfl (BH ‹_›)|exact AO rfl rfl (by simp[*])) (fun h0 hS=>by obtain⟨x,y,r,e⟩:=hS;exact Ez (row:=[.sl 2 (s.files.map Be) none, .sl 3 (s.mounts.map Co) none, .sl 1 (ps.map Cq) none,x,y, .v (.int .i64 a.1), .v (.int .i64 a.2), .v (.string p), .v (.bool mi), .v (.bool fl), .v (.int .i64 (lk:Int))]) rfl (by rw[e];rfl) rfl (show _=AV.agg (Ar s)∧_ from⟨rfl,rfl⟩)) ⟨_,_,_,rfl⟩ ?_|refine BR (i:=5) rfl rfl (by kernel_rfl) (by first|rfl|exact AO rfl rfl (BG ‹_›)|exact AO rfl rfl (BH ‹_›)|exact AO rfl rfl (by simp[*])) (fun h0 hS=>by obtain⟨x,y,r,e⟩:=hS;exact Fd (row:=AB (AD s.files a p).1) rfl (by rw[e];rfl) rfl ⟨rfl,rfl⟩) ⟨_,_,_,rfl⟩ ?_|refine BR (i:=5) rfl rfl (by kernel_rfl) (by first|rfl|exact AO rfl rfl (BG ‹_›)|exact AO rfl rfl (BH ‹_›)|exact AO rfl rfl (by simp[*])) (fun h0 hS=>Fd rfl rfl rfl ⟨rfl,rfl⟩) ⟨_,_,_,rfl⟩ ?_
 refine c_ 6 rfl (AK (Pc s (AD s.files a p).1 hs) ?_);rintro r rfl;refine⟨.inr ⟨_,_,_,rfl⟩,?_⟩
 first|refine BR (i:=7) rfl rfl (by kernel_rfl) (by first|rfl|exact AO rfl rfl (BG ‹_›)|exact AO rfl rfl (BH ‹_›)|exact AO rfl rfl (by simp[*])) (fun h0 hS=>Gm rfl ⟨rfl,rfl⟩) ⟨_,_,_,rfl⟩ ?_|refine BR (i:=7) rfl rfl (by kernel_rfl) (by first|rfl|exact AO rfl rfl (BG ‹_›)|exact AO rfl rfl (BH ‹_›)|exact AO rfl rfl (by simp[*])) (fun h0 hS=>Gp rfl ⟨rfl,rfl⟩) ⟨_,_,_,rfl⟩ ?_
 first|refine BR (i:=8) rfl rfl (by kernel_rfl) (by first|rfl|exact AO rfl rfl (BG ‹_›)|exact AO rfl rfl (BH ‹_›)|exact AO rfl rfl (by simp[*])) (fun h0 hS=>Ee rfl ⟨rfl,rfl⟩) ⟨_,_,_,rfl⟩ ?_|refine BR (i:=8) rfl rfl (by kernel_rfl) (by first|rfl|exact AO rfl rfl (BG ‹_›)|exact AO rfl rfl (BH ‹_›)|exact AO rfl rfl (by simp[*])) (fun h0 hS=>Gq rfl ⟨rfl,rfl⟩) ⟨_,_,_,rfl⟩ ?_
 refine B8 9 rfl (B3 rfl rfl rfl rfl rfl rfl (by repeat constructor) (by repeat constructor) ?_);refine⟨.inr ⟨_,_,_,rfl⟩,?_⟩;refine z_ (h:=t_ (w_ (a_ (h:=e_ (A6 (?_))))));refine B0 none (h5:=(AM _)) (h6:=⟨_,rfl,rfl, .inr ⟨⟨ps,Ci s s.mounts.length (AD s.files a p).1,a,p,mi,lk⟩,by unfold E7;rw[if_neg (by simp[hc1]),if_neg (by omega),if_neg hc3,if_neg hc4,if_neg (by simp[hc5]),if_neg (by simp[hc6]),if_neg hlk],rfl,rfl⟩⟩)
end
theorem g9{s:Spc}(hv:SpcV s):Ag s.files (D9 s)=true:=(L3 ((Mi hv _).1 (Mj hv (RJ hv (R5 hv (Int.le_refl 0) (by have:=hv.pos;omega))))).1.1).1
theorem gA{s:Spc}(fl:Bool){p:AE}{ps:List AE}{w w':Wk}(hn:w.name.size≤12)(h:E7 s fl p ps w= .inr w'):w'.name.size≤12:=by
 unfold E7 at h;split at h
 ·cases h
 split at h
 ·cases h
 rename_i h2;split at h
 ·injection h with h;subst h;exact BJ _
 split at h
 ·injection h with h;subst h;exact BJ _
 split at h
 ·cases h
 split at h
 ·split at h
  ·cases h
  injection h with h;subst h;exact Nat.le_of_not_lt h2
 split at h
 ·split at h
  ·cases h
  injection h with h;subst h;show ByteArray.size (if _ then _ else _)≤12;split
  ·exact BJ _
  exact hn
 injection h with h;subst h;exact Nat.le_of_not_lt h2
theorem RO{s:Spc}(hv:FlsV s.files)(fl:Bool){p:AE}{ps:List AE}{w w':Wk}(hl:w.links≤8)(h:E7 s fl p ps w= .inr w'):w'.links≤8∧(8 - w'.links) * 200+w'.ps.length<(8 - w.links) * 200+(ps.length+1):=by
 unfold E7 at h;split at h
 ·cases h
 split at h
 ·cases h
 split at h
 ·injection h with h;subst h;exact⟨hl,by simp only;omega⟩
 split at h
 ·injection h with h;subst h;exact⟨hl,by simp only;omega⟩
 split at h
 ·cases h
 split at h
 ·split at h
  ·cases h
  injection h with h;subst h;exact⟨hl,by simp only;omega⟩
 split at h
 ·split at h
  ·cases h
  rename_i h9;injection h with h;subst h;have ht:=MM hv (AD s.files w.at_ p).1;have hs:=L4 (AZ s.files (AD s.files w.at_ p).1).target;refine⟨by simp only;omega,?_⟩;simp only[List.length_append]
  have:(8 - w.links) * 200=(8 - (w.links+1)) * 200+200:=by
   rw[show 8 - w.links=(8 - (w.links+1))+1 by omega,Nat.add_mul]
  omega
 injection h with h;subst h;exact⟨hl,by simp only;omega⟩
theorem VM{s:Spc}{start:A9}{p:AE}{fl:Bool}(h1:¬p=⟨#[]⟩)(h2:128<p.size):Bb s start p fl=(D8,36):=by unfold Bb;rw[if_neg h1,if_pos h2]
section
variable {s:Spc}{start a:A9}{p:AE}{fl:Bool}(h1:¬p=⟨#[]⟩)(h2:¬128<p.size)(ha:(if Ck p=true then D9 s else start)=a)
include h1 h2 ha
theorem VN(hd:Ag s.files a=false):Bb s start p fl=(D8,2):=by
 unfold Bb;rw[if_neg h1,if_neg h2,ha,if_pos hd]
variable (hd:Ag s.files a=true)
include hd
theorem LA{e:Int}{τ:Lk}(h:Df s (fl||BF p) (FV (Cd p) a)=(e,τ))(he:e≠0):Bb s start p fl=(D8,e):=by
 unfold Bb;rw[if_neg h1,if_neg h2,ha,if_neg (by simp[hd]),h,if_pos he]
theorem VO{τ:Lk}(h:Df s (fl||BF p) (FV (Cd p) a)=(0,τ))(hs:BF p=true∧τ.ex=true∧Ag s.files τ.file=false):Bb s start p fl=(D8,20):=by
 unfold Bb;rw[if_neg h1,if_neg h2,ha,if_neg (by simp[hd]),h,if_neg (by simp),if_pos hs]
theorem OW{τ:Lk}(h:Df s (fl||BF p) (FV (Cd p) a)=(0,τ))(hs:¬(BF p=true∧τ.ex=true∧Ag s.files τ.file=false)):Bb s start p fl=(Fq s (BF p) τ,0):=by
 unfold Bb;rw[if_neg h1,if_neg h2,ha,if_neg (by simp[hd]),h,if_neg (by simp),if_neg hs]
end
theorem gB(ps:List AE)(a d:A9)(hd:ps=[]→True):Sim ⟨ps,a,d,⟨#[]⟩,false,0⟩ (FV ps a):=by
 have _:=hd;exact⟨rfl,rfl,rfl,fun _=>rfl,fun h=>(by cases h),fun _ _=>⟨fun _=>⟨rfl,rfl⟩,fun h=>absurd rfl h⟩⟩
def OX(s:Spc)(F:Bool)(σ0:Lk)(w:Wk):Prop:=w.links≤8∧w.name.size≤12∧∃σ,Sim w σ∧Df s F σ=Df s F σ0
theorem VP{s:Spc}(hv:SpcV s){F:Bool}{σ0:Lk}{w:Wk}{p:AE}{ps:List AE}(hps:w.ps=p::ps)(h:OX s F σ0 w):(∀e,E7 s F p ps w= .inl e→Df s F σ0=(e,Me))∧∀w',E7 s F p ps w= .inr w'→OX s F σ0 w':=by
 obtain⟨h8,hn,σ,hS,hT⟩:=h
 have hm:w.missing=false:=by
  cases hm:w.missing with
  |false=>rfl
  |true=>have:=(hS.gone hm).2.1;rw[hps]at this;cases this
 have h8σ:σ.links≤8:=by rw[←hS.links];exact h8
 have hc:=Um hv.files (fl:=F) h8σ (hS.ps.symm.trans hps);rcases eV hv F (p:=p) (ps:=ps) hS hm with⟨e,q1,q2⟩|⟨w1,τ,q1,q2,q3⟩
 ·refine⟨fun e' he=>?_,fun w' hw=>by rw[q1]at hw;cases hw⟩;rw[q1]at he;injection he with he;subst he;rw[←hT,hc,q2]
 refine⟨fun e' he=>by(rw[q1]at he;cases he),fun w' hw=>?_⟩;have k1:=RO hv.files F h8 hw;have k2:=gA F hn hw;rw[q1]at hw;injection hw with hw;subst hw;refine⟨k1.1,k2,τ,q3,?_⟩;rw[←hT,hc,q2]
theorem gC{s:Spc}(hv:SpcV s){F:Bool}{σ0:Lk}{w:Wk}(hps:w.ps=[])(h:OX s F σ0 w):∃σ,Df s F σ0=(0,σ)∧σ.ex= !w.missing∧(w.missing=false→σ.file=w.at_)∧∀sl,Ft s sl w=Fq s sl σ:=by
 obtain⟨h8,hn,σ,hS,hT⟩:=h;exact⟨σ,by rw[←hT];exact R8 (hS.ps.symm.trans hps),hS.ex,fun hm=>(hS.here hm).symm,fun sl=>eW hv hS hps⟩
section
theorem gD(s:Spc)(start:A9)(p:AE)(fl:Bool)(hs:SpcN s)(hv:SpcV s)(hp:p.size≤1000000):AFn prog 53 [.agg (Ar s), .agg (AB start), .v (.string p), .v (.bool fl)] (fun r=>r= .tup [.agg (Ax (Bb s start p fl).1), .v (.int .i64 (Bb s start p fl).2)]):=by
 have hw:=Qu hv;have hri:=g9 hv;refine enter Tryz.func53 rfl rfl rfl rfl rfl 0 rfl ?_;refine w_ (b_ (h:=b_ (h:=Af (h:=a_ (h:=e_ (q_ (Ao (w_ (m_ (h:=Ac (h:=a_ (h:=e_ (?_)))))))))))));refine A8 rfl (fun hb1=>?_) (fun hb1=>?_)
 ·have hc1:=bp hb1;refine w_ (Aa (h:=s_ (h:=a_ (h:=e_ (A6 (AR (A4 (?_))))))));refine AA ?_;rw[show Bb s start p fl=(D8,2) from if_pos hc1];rfl
 have hc1:=bp hb1;refine w_ (m_ (h:=n_ (h:=CS (h:=a_ (h:=e_ (?_))))));refine A8 rfl (fun hb2=>?_) (fun hb2=>?_)
 ·have hc2:=bp hb2;refine w_ (Aa (h:=s_ (h:=a_ (h:=e_ (A6 (AR (A4 (?_))))))));refine AA ?_;rw[VM hc1 (by omega)];rfl
 have hc2:=bp hb2;refine BA (Au (t_ (w_ (m_ (h:=?_)))));refine A7 rfl (AK (VJ p (by omega)) ?_);rintro r rfl;refine m_ (h:=x_ (h:=x_ (h:=x_ (h:=a_ (h:=a_ (h:=a_ (h:=e_ (?_))))))));refine BY (fun t=>t=⟨look [(2, .v (.string p)),(4, .bp 0 0),(5, .bp 1 0),(8, .bp 2 0),(11, .v (.bool (Ck p))),(12, .v (.bool (BF p))),(13, .bp 3 0)],⟨[Ar s,AB start,Ax D8,E8 s (fl||BF p) ⟨Cd p,start,(0,0),⟨#[]⟩,false,0⟩],[]⟩⟩) ?_ ?_
 ·skip
  refine AX (l_ (h:=m_ (h:=l_ (h:=m_ (h:=m_ (h:=?_))))));refine As false rfl rfl (fun hb3=>?_) (fun hb3=>?_)
  ·have hc3:=bp hb3;refine A3 (h:=AU (h:=Aa (h:=Af (h:=s_ (h:=AW (?_))))));refine AJ ?_
   first|(rw[hb3];exact⟨_,rfl,(wk 4 0)⟩)|exact⟨_,rfl,(wk 4 0)⟩
  have hc3:=bp hb3;refine m_ (h:=Ah (h:=Aa (h:=Af (h:=s_ (h:=AW (?_))))));refine AJ ?_
  first|(rw[hb3];exact⟨_,rfl,(wk 4 0)⟩)|exact⟨_,rfl,(wk 4 0)⟩
 rintro t rfl;refine BY (fun t=>∃a,(if Ck p=true then D9 s else start)=a∧Ag s.files a=true∧t=⟨look [(4, .bp 0 0),(8, .bp 2 0),(12, .v (.bool (BF p))),(13, .bp 3 0)],⟨[Ar s,AB start,Ax D8,E8 s (fl||BF p) ⟨Cd p,a,(0,0),⟨#[]⟩,false,0⟩],[]⟩⟩) ?_ ?_
 ·skip
  refine w_ (m_ (h:=e_ (?_)));refine A8 rfl (fun hb4=>?_) (fun hb4=>?_)
  ·have hc4:=bp hb4;refine AX (l_ (h:=?_));refine A7 rfl (AK (VL s hs.b) ?_);rintro r rfl;refine f_ (h:=s_ (h:=AW (?_)));refine AJ ?_
   first|exact⟨_,⟨D9 s,if_pos hc4,hri,rfl⟩,(wk 4 0)⟩|exact⟨_,⟨start,if_neg (by simp[hc4]),by simpa using hc5,rfl⟩,(wk 4 0)⟩
  have hc4:=bp hb4;refine w_ (?_);refine A7 rfl (ET 1 rfl (.cons _ _ _ _ _ rfl (AM _) .nil) (RN s (fl||BF p) ⟨Cd p,start,(0,0),⟨#[]⟩,false,0⟩ hs.b) ?_);rintro r rfl;refine⟨rfl,?_⟩;refine BZ (h:=e_ (?_));refine A8 rfl (fun hb5=>?_) (fun hb5=>?_)
  ·have hc5:=bp hb5;refine w_ (Aa (h:=s_ (h:=a_ (h:=e_ (A6 (A4 (?_)))))));refine AA ?_;rw[VN hc1 (by omega) (if_neg (by simp[hc4])) (by simpa using hc5)];rfl
  have hc5:=bp hb5;refine BA (?_);refine AJ ?_
  first|exact⟨_,⟨D9 s,if_pos hc4,hri,rfl⟩,(wk 4 0)⟩|exact⟨_,⟨start,if_neg (by simp[hc4]),by simpa using hc5,rfl⟩,(wk 4 0)⟩
 rintro t ⟨a,ha,had,rfl⟩;refine q_ (Ao (?_));refine Bm (fun m t=>∃w,OX s (fl||BF p) (FV (Cd p) a) w∧m=(8 - w.links) * 200+w.ps.length∧m≤1600+(p.size+1)∧t=⟨look [(4, .bp 0 0),(8, .bp 2 0),(12, .v (.bool (BF p))),(13, .bp 3 0)],⟨[Ar s,AB start,Ax D8,E8 s (fl||BF p) w],[]⟩⟩) ((8 - 0) * 200+(Cd p).length) ((wk 4 0)) (⟨_,⟨BJ _,BJ _,_,gB (Cd p) a (0,0) (fun _=>trivial),rfl⟩,rfl,by have:=L4 p;omega,rfl⟩) ?_;rintro m t ⟨w,hR,rfl,hm,rfl⟩;have hml:(w.ps.map Cq).length=w.ps.length:=by simp
 refine q_ (w_ (f_ (h:=l_ (h:=n_ (h:=CS (h:=e_ (?_)))))));refine A8 rfl (fun hb6=>?_) (fun hb6=>?_)
 ·have hc6:=bp hb6
  obtain⟨q,qs,hqs⟩:∃q qs,w.ps=q::qs:=by
   cases hq:w.ps with
   |nil=>rw[hq]at hml hc6;simp at hc6
   |cons q qs=>exact⟨q,qs,rfl⟩
  have hql:w.ps.length=qs.length+1:=by rw[hqs];rfl
  refine AN (Ao (w_ (?_)));refine A7 rfl (PG 3 rfl (by repeat (first|exact ArgsB.nil|refine ArgsB.cons _ _ _ _ _ rfl rfl ?_)) rfl rfl (g8 s (fl||BF p) w q qs hqs hs.b hv hR.1 (by omega)) ?_);rintro r row2 (⟨e,he,he0,rfl,rfl⟩|⟨w2,hw2,rfl,rfl⟩)
  ·refine⟨OV _ _ _,rfl,_,(by repeat constructor),?_⟩;refine a_ (h:=e_ (w_ (m_ (h:=BX (h:=e_ (?_))))));refine A8 rfl (fun hb7=>?_) (fun hb7=>?_)
   ·have hc7:=bp hb7;refine w_ (Aa (h:=m_ (h:=s_ (h:=a_ (h:=e_ (A6 (AR (A4 (AR (A4 (?_)))))))))));refine AA ?_;rw[LA hc1 (by omega) ha had ((VP hv hqs hR).1 e he) he0];rfl
   have hc7:=bp hb7;exact absurd hc7 he0
  refine⟨OV _ _ _,rfl,_,(by repeat constructor),?_⟩;refine a_ (h:=e_ (w_ (m_ (h:=BX (h:=e_ (?_))))));refine A8 rfl (fun hb8=>?_) (fun hb8=>?_)
  ·have hc8:=bp hb8;exact absurd rfl hc8
  have hc8:=bp hb8;refine BA (Au (?_));refine AJ ?_;exact⟨(8 - w2.links) * 200+w2.ps.length,_,(by have:=(RO hv.files _ hR.1 hw2).2;omega),⟨w2,(VP hv hqs hR).2 w2 hw2,rfl,by have:=(RO hv.files _ hR.1 hw2).2;omega,rfl⟩,(wk 4 0)⟩
 have hc6:=bp hb6;have hps:w.ps=[]:=DE (by omega);obtain⟨σ,hT,hσx,hσf,hσe⟩:=gC hv hps hR;refine BU (Am (Am (BV (t_ (q_ (?_))))));refine JC (⟨look [(8, .bp 2 0),(12, .v (.bool (BF p))),(13, .bp 3 0),(63, .v (.bool (BF p&&(!w.missing&& !Ag s.files w.at_))))],⟨[Ar s,AB start,Ax D8,E8 s (fl||BF p) w],[]⟩⟩) ?_ ?_
 ·skip
  refine AX (m_ (h:=m_ (h:=?_)));refine As true rfl rfl (fun hb9=>?_) (fun hb9=>?_)
  ·have hc9:=bp hb9;refine f_ (h:=l_ (h:=BZ (h:=AU (h:=m_ (h:=?_)))));refine As true rfl rfl (fun hb10=>?_) (fun hb10=>?_)
   ·have hc10:=bp hb10;refine Aw (ET 1 rfl (.cons _ _ _ _ _ rfl (AM _) .nil) (RN s (fl||BF p) w hs.b) ?_);rintro r rfl;refine⟨rfl,?_⟩;refine BZ (h:=AU (h:=AW (?_)));refine AJ ?_
    first|(exfalso;first|contradiction|omega)|exact B7 4 0 rfl rfl rfl rfl (by repeat (first|exact Sub.nil|refine B9 rfl rfl ?_|refine BC ?_|refine BD rfl ?_|refine BE rfl ?_|(apply Sub.of;(focus exact rfl);(focus exact LeA.of_eq (vb (by first|(rw[hb9];rfl)|(rw[hb9,hb10];rfl))));(focus exact rfl))))
   have hc10:=bp hb10;refine A3 (h:=A3 (h:=Ah (h:=AW (?_))));refine AJ ?_
   first|(exfalso;first|contradiction|omega)|exact B7 4 0 rfl rfl rfl rfl (by repeat (first|exact Sub.nil|refine B9 rfl rfl ?_|refine BC ?_|refine BD rfl ?_|refine BE rfl ?_|(apply Sub.of;(focus exact rfl);(focus exact LeA.of_eq (vb (by first|(rw[hb9];rfl)|(rw[hb9,hb10];rfl))));(focus exact rfl))))
  have hc9:=bp hb9;refine A3 (h:=A3 (h:=A3 (h:=Ah (h:=m_ (h:=A3 (h:=A3 (h:=Ah (h:=AW (?_)))))))));refine AJ ?_
  first|(exfalso;first|contradiction|omega)|exact B7 4 0 rfl rfl rfl rfl (by repeat (first|exact Sub.nil|refine B9 rfl rfl ?_|refine BC ?_|refine BD rfl ?_|refine BE rfl ?_|(apply Sub.of;(focus exact rfl);(focus exact LeA.of_eq (vb (by first|(rw[hb9];rfl)|(rw[hb9,hb10];rfl))));(focus exact rfl))))
 skip
 refine A8 rfl (fun hb11=>?_) (fun hb11=>?_)
 ·have hc11:=bp hb11;refine w_ (Aa (h:=s_ (h:=a_ (h:=e_ (A6 (A4 (?_)))))));refine AA ?_;rw[VO hc1 (by omega) ha had hT (by simp only[Bool.and_eq_true,Bool.not_eq_true']at hc11;exact⟨hc11.1,by rw[hσx,hc11.2.1];rfl,by rw[hσf hc11.2.1];exact hc11.2.2⟩)];rfl
 have hc11:=bp hb11;refine AN (w_ (m_ (h:=?_)));refine A7 rfl (ET 1 rfl (.cons _ _ _ _ _ rfl (AM _) (.cons _ _ _ _ _ rfl (AM _) .nil)) (fZ s (fl||BF p) (BF p) w hs hw (by have:=hR.2.1;omega)) ?_);rintro r rfl;refine⟨rfl,?_⟩;refine s_ (h:=a_ (h:=e_ (A6 (?_))));refine AA ?_
 rw[OW hc1 (by omega) ha had hT (fun h=>by
  obtain⟨h1,h2,h3⟩:=h;rw[hσx]at h2;have hm2:w.missing=false:=by simpa using h2
  rw[hσf hm2]at h3;rw[h1,h2,h3]at hc11
  cases hc11),←hσe]
 rfl
end
section
theorem RP{s:Spc}(hs:SpcB s)(hv:SpcV s)(a:A9):AFn prog 88 [.agg (Ar s), .agg (AB a)] (fun r=>r= .agg (AB (Ci s s.mounts.length a))):=
 (XJ s a hs).mono fun r hr=>by rw[hr,aL hv]
end
end Go.Proofs.YtobclmbkdhbnpaaGreatDoor
