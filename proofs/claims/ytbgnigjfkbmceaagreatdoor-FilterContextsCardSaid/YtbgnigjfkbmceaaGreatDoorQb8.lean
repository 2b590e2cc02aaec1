/-
  Part 8 of the proof of FilterContextsP: what the statement's proof uses of the texts in wip/tpl.
-/
import Derived.RangeFuncNested
import Derived.RangeFuncBound
import Derived.RangeFuncCalls
import Derived.RangeFuncLeaves
import Derived.Shelf.Abstract
import Derived.Shelf.RegionOpen
import Derived.OwnWalkIn
import Derived.TacticsInMore
import Derived.LoopNIn
import Derived.LoopIn
import Derived.WalkMore
import Derived.Test.YtbgnigjfkbmceaaGreatDoorQb7
open Go.Proofs.Tryz (prog)
set_option maxRecDepth 10000
set_option maxHeartbeats 4000000
set_option linter.unusedVariables false
set_option linter.unusedSimpArgs false
namespace Go.Proofs.YtbgnigjfkbmceaaGreatDoor
open Go.RowKit
section
structure Moves(own:Nat→Prop)(B:Nat)(X Y:World):Prop where
 os:Y.os=X.os
 tape:Y.tape=X.tape
 output:Y.output=X.output
 size:X.heap.size≤Y.heap.size
 block:∀k,k<X.heap.size→¬own k→(k<B∨∃o:Obj,X.heap[k]?=some o∧o.isCells=true)→Y.heap[k]?=X.heap[k]?
section
variable {own:Nat→Prop}{B:Nat}{X Y Z:World}
theorem Moves.mono(h:Moves own B X Y){B':Nat}(hB:B'≤B):Moves own B' X Y:=
 ⟨h.os,h.tape,h.output,h.size,fun i hi ho hb=>h.block i hi ho (by
  rcases hb with hb|hb
  ·exact .inl (Nat.lt_of_lt_of_le hb hB)
  exact .inr hb)⟩
theorem Moves.below(h:Below X.heap.size X Y):Moves own B X Y:=⟨h.os,h.tape,h.output,h.size,fun i hi _ _=>h.block i hi⟩
theorem Moves.grown{g:Nat}(h:X.grownBy Y (some g))(hg:own g):Moves own B X Y:=
 ⟨h.os,h.tape,h.output,h.size,fun i hi ho _=>h.block i hi (fun e=>ho (by injection e with e;rw[e];exact hg))⟩
theorem Moves.set_(X:World){b:Nat}(hb:own b)(v:Value):Moves own B X (X.setCell ⟨b,0,none⟩ v):=Moves.grown (grownBy_setCell' X b v) hb
theorem Moves.put_{l:Nat}{o:Obj}(o':Obj)(hl:X.heap[l]?=some o)(ho:o.isCells=false)(hB:B≤l):Moves own B X (X.putObj l o'):=
 have h:=grownBy_putObj' X l o'
 ⟨h.os,h.tape,h.output,h.size,fun i hi _ hb=>h.block i hi (fun e=>by
  injection e with e;subst e;rcases hb with hb|⟨o2,h1,h2⟩
  ·omega
  rw[hl]at h1;injection h1 with h1;subst h1;rw[ho]at h2;cases h2)⟩
theorem Moves.boxed(h:Moves own B X Y){b:Nat}{t:TypeId}{v:Value}(hb:Boxed X b t v)(hn:¬own b):Boxed Y b t v:=
 (h.block b hb.lt hn (.inr ⟨_,hb,rfl⟩)).trans hb
theorem Moves.under(h:Moves own B X Y){n₀:Nat}{w:World}(hb:Below n₀ w X)(hn:n₀≤w.heap.size)(ho:∀b,own b→n₀≤b)(hB:n₀≤B):Below n₀ w Y:=
 ⟨h.os.trans hb.os,h.tape.trans hb.tape,h.output.trans hb.output,Nat.le_trans hb.size h.size,fun i hi=>by
  refine(h.block i (by have:=hb.size;omega) (fun e=>?_) (.inl (by omega))).trans (hb.block i hi);have:=ho i e
  omega⟩
end
theorem JZ{B:Nat}{X Y:World}(h:Below X.heap.size X Y):KeepsFrom B X Y:=⟨h.size,fun k _ _ hk _=>(h.block k (Array.getElem?_eq_some_iff.1 hk).1).trans hk⟩
theorem LH{B:Nat}{X Y:World}(h:KeepsFrom B X Y){b:Nat}(hb:b<B)(v:Value):KeepsFrom B X (Y.setCell ⟨b,0,none⟩ v):=
 h.trans (KeepsFrom.of_grownBy (grownBy_setCell' Y b v) (fun j e=>by cases e;exact hb))
theorem Gw{W:World}{b D:Nat}{t:TypeId}{v:Value}(h:Boxed W b t v)(hne:b≠D)(o:Obj):Boxed (W.putObj D o) b t v:=h.kept (grownBy_putObj' W D o) (fun e=>hne (by injection e))
theorem Ja{B:Nat}{w W:World}(h:Below B w W){D:Nat}(hD:B≤D)(o:Obj):Below B w (W.putObj D o):=
 have g:=grownBy_putObj' W D o
 ⟨g.os.trans h.os,g.tape.trans h.tape,g.output.trans h.output,Nat.le_trans h.size g.size,fun k hk=>(World.putObj_heap_other (by omega)).trans (h.block k hk)⟩
theorem Da{P:Program}{n m f:Nat}{args:Array Value}{w:World}{R:Ending→World→Prop}(h:CallsIn Fence.wide m P f args w R):
    Fence.wide.fn f∧(Fence.wide.depth.isSome=true→1≤n)∧CallsIn Fence.wide m P f args w R:=⟨trivial,(fun h=>by cases h),h⟩
def SeqW{α:Type}(F:Fence)(n:Nat)(P:Program)(g:Nat)(lb:Array Value)(encs:α→Array Value)(own:Nat→Prop)(Kp:World→World→Prop)(Pf:List α→Prop)(S Sp:List α→Prop)(w:World):Prop:=
 ∀(l:Nat) (J Jx:List α→World→Prop) (W:World),Below w.heap.size w W→
  (∀s X Y,J s X→Moves own W.heap.size X Y→J s Y)→(∀s X Y,Jx s X→Moves own W.heap.size X Y→Jx s Y)→
  (∀pre x W1,J pre W1→Pf (pre++[x])→YieldAt F (n - 1) P l (encs x) W1 fun e W'=>
    (e= .returned (.bool true)∧J (pre++[x]) W'∧Kp W1 W')∨(e= .returned (.bool false)∧Jx (pre++[x]) W'))→
  J [] W→
  CallsIn F n P g (#[.func (.yield l) #[] #[]]++lb) W fun e W'=>(∃v,e= .returned v)∧((∃xs,S xs∧J xs W')∨(∃pre,Sp pre∧Jx pre W'))
variable {F:Fence}{n:Nat}{P:Program}
theorem Se{α:Type}{g:Operand}{ps:Array Tmp}{assign body:Code}{Q:Exit→Act→World→Prop}{a:Act}{w:World}
    (hro:F.round=none) (h1:1≤n) {gf:Nat} {lb:Array Value} (hg:a.eval g= .func (.func gf) #[] lb) (hFg:F.fn gf) (eg:∀args w,(callFunc gf args).run P w= .ok (.enter gf args) w)
    {encs:α→Array Value} {own:Nat→Prop} {Kp:World→World→Prop} {Pf:List α→Prop} {S Sp:List α→Prop} {w0:World} (hseq:SeqW F (n - 1) P gf lb encs own Kp Pf S Sp w0)
    (hown:∀b,own b→b<w.heap.size) (hKt:∀{A B C:World},Kp A B→Kp B C→Kp A C) (hKb:∀(W:World) (l:Nat) (o o':Obj),w.heap.size≤l→W.heap[l]?=some o→o.isCells=false→Kp W (W.putObj l o'))
    (hb0:Below w0.heap.size w0 w) (hps:∀x,(encs x).size=ps.size)
    (I:List α→World→Prop) (Ix:Code→List α→World→Prop) (hI:∀s X Y,I s X→Moves own w.heap.size X Y→I s Y) (hIx:∀c s X Y,Ix c s X→Moves own w.heap.size X Y→Ix c s Y) (h0:I [] w) (a₁:α→Act)
    (hassign:∀(l:Nat) (x:α) (W:World) (K:Act→World→Prop),K (a₁ x) W→
      assign.wpIn (F.inRound l) (n - 1 - 1) P (Exit.then K (fun _ _ _=>False)) {tmps:=(ps.zip (encs x)).foldl (fun t (p,v)=>t.setIfInBounds p v) a.tmps,defers:=[]} W)
    (hbody:∀(l:Nat) (pre:List α) (x:α) (W:World),I pre W→Pf (pre++[x])→w.heap.size+2≤W.heap.size→body.wpIn (F.inRound l) (n - 1 - 1) P (ownPostG w.heap.size Kp I Ix (pre++[x]) W) (a₁ x) W)
    (hdone:∀(D:Nat) (xs:List α) (W:World),w.heap.size≤D→S xs→I xs W→W.heap[D]?=some (.deferred (some []))→Q .normal {a with defers:={target:= .collected D,args:=#[]}::a.defers} W)
    (hstop:∀(D:Nat) (c:Code) (pre:List α) (W:World),w.heap.size≤D→Sp pre→Ix c pre W→W.heap[D]?=some (.deferred (some []))→c.wpIn F n P Q {a with defers:={target:= .collected D,args:=#[]}::a.defers} W):
    (Code.rangeFunc g ps assign body).wpIn F n P Q a w:=by
 refine wpIn_rangeFunc ?_;intro fn hfn;rw[hro];obtain⟨rec,hrec⟩:∃rec:LoopState→Option Code→Loop,rec=fun st pe=>{state:=st,pending:=pe,fn,tmps:=a.tmps,params:=ps,assign,body,defers:=w.heap.size}:=⟨_,rfl⟩;obtain⟨W1,hW1⟩:∃W1,(w.alloc (.deferred (some []))).alloc (.loop (rec .ready none))=W1:=⟨_,rfl⟩;have hbw:Below w.heap.size w W1:=by rw[←hW1];exact GO w _ _
 have hsz:W1.heap.size=w.heap.size+2:=by rw[←hW1];simp
 have hL1:W1.heap[w.heap.size+1]?=some (.loop (rec .ready none)):=by rw[←hW1];exact Gt _ _ _
 have hK1:W1.heap[w.heap.size]?=some (.deferred (some [])):=by rw[←hW1];exact Gs _ _ _
 have hn0:¬own w.heap.size:=fun h=>by have:=hown _ h;omega
 have hn1:¬own (w.heap.size+1):=fun h=>by have:=hown _ h;omega
 refine⟨w.heap.size+1,[{target:= .collected w.heap.size,args:=#[]}],W1,{target:= .fn (.func gf) lb,args:=#[.func (.yield (w.heap.size+1)) #[] #[]]},W1,gf,
  #[.func (.yield (w.heap.size+1)) #[] #[]]++lb,W1,?_,?_,?_,?_,fun _=>h1,?_⟩
 ·rw[←hW1,hrec];exact run_enterLoop_outer _ _ _ _ _
 ·simp only[resolve,hg];simp[go_sem]
 ·intro f' hf';simp[Target.leads]at hf';subst hf';exact hFg
 ·simp[invoke,go_sem,eg]
 have lt_of:∀{W:World} {k:Nat} {o:Obj},W.heap[k]?=some o→k<W.heap.size:=fun h=>(Array.getElem?_eq_some_iff.1 h).1;have keep:∀{X Y:World} {k:Nat} {o:Obj},Moves own W1.heap.size X Y→X.heap[k]?=some o→k<W1.heap.size→¬own k→Y.heap[k]?=some o:=fun hm hx hk hn=>(hm.block _ (lt_of hx) hn (.inl hk)).trans hx
 refine(hseq (w.heap.size+1)
  (fun pre W=>I pre W∧W.heap[w.heap.size+1]?=some (.loop (rec .ready none))∧W.heap[w.heap.size]?=some (.deferred (some [])))
  (fun pre W=>∃c,Ix c pre W∧W.heap[w.heap.size+1]?=some (.loop (rec .done (some c)))∧W.heap[w.heap.size]?=some (.deferred (some [])))
  W1 (hb0.trans (hbw.mono hb0.size))
  (fun s X Y hs hm=>⟨hI s X Y hs.1 (hm.mono (by omega)),keep hm hs.2.1 (by omega) hn1,keep hm hs.2.2 (by omega) hn0⟩)
  (fun s X Y hs hm=>by
    obtain⟨c,hc,hl,hk⟩:=hs
    exact⟨c,hIx c s X Y hc (hm.mono (by omega)),keep hm hl (by omega) hn1,keep hm hk (by omega) hn0⟩)
  ?_ ⟨hI _ _ _ h0 (.below hbw),hL1,hK1⟩).mono ?_
 ·rintro pre x W ⟨hi,hl,hk⟩ hpf;have hlt:w.heap.size+1<W.heap.size:=lt_of hl;have hy:=run_yield (P:=P) (args:=encs x) hl (by rw[hrec];exact hps x);rw[hrec]at hy;refine⟨fn,_,assign,body,hy,roundIn_of_wpIn hfn (hassign _ x W _ ⟨_,run_beginRound hl (by rw[hrec]),?_⟩)⟩;have hl2:(W.putObj (w.heap.size+1) (.loop {rec .ready none with state:= .busy})).heap[w.heap.size+1]?=some (.loop {rec .ready none with state:= .busy}):=World.putObj_heap_same hlt;have hk2:(W.putObj (w.heap.size+1) (.loop {rec .ready none with state:= .busy})).heap[w.heap.size]?=some (.deferred (some [])):=(World.putObj_heap_other (by omega)).trans hk;have hw2:Kp W (W.putObj (w.heap.size+1) (.loop {rec .ready none with state:= .busy})):=hKb _ _ _ _ (by omega) hl rfl;refine wpIn_mono (hbody _ pre x _ (hI _ _ _ hi (.put_ _ hl rfl (by omega))) hpf (lt_of hl2)) ?_
  have fin:∀(jump:Option Code) (W3:World),KeepsFrom w.heap.size (W.putObj (w.heap.size+1) (.loop {rec .ready none with state:= .busy})) W3→
      (Instr.endRound (w.heap.size+1) jump).run P W3= .ok (.bool jump.isNone) (W3.putObj (w.heap.size+1) (.loop (rec (if jump.isNone then .ready else .done) jump)))∧
      W3.heap[w.heap.size+1]?=some (.loop {rec .ready none with state:= .busy})∧
      (W3.putObj (w.heap.size+1) (.loop (rec (if jump.isNone then .ready else .done) jump))).heap[w.heap.size+1]?=some (.loop (rec (if jump.isNone then .ready else .done) jump))∧
      (W3.putObj (w.heap.size+1) (.loop (rec (if jump.isNone then .ready else .done) jump))).heap[w.heap.size]?=some (.deferred (some [])):=fun jump W3 hk3=>by
   have hl3:=hk3.same _ _ (by omega) hl2 rfl;have:=run_endRound (P:=P) jump hl3;rw[hrec]at this ⊢;exact⟨this,by rw[hrec]at hl3;exact hl3,World.putObj_heap_same (lt_of hl3),(World.putObj_heap_other (by omega)).trans (hk3.same _ _ (B3 _) hk2 rfl)⟩
  rintro e a3 W3 hp
  cases e with
  |normal=>
    obtain⟨hk3,hkp3,hi3⟩:=hp;obtain⟨hr,hl3,hl4,hk4⟩:=fin none W3 hk3;exact⟨_,_,hr, .inl ⟨rfl,⟨hI _ _ _ hi3 (.put_ _ hl3 rfl (by omega)),hl4,hk4⟩,hKt (hKt hw2 hkp3) (hKb _ _ _ _ (by omega) hl3 rfl)⟩⟩
  |ret=>
    obtain⟨hk3,hi3⟩:=hp;obtain⟨hr,hl3,hl4,hk4⟩:=fin (some .ret) W3 hk3;exact⟨_,_,hr, .inr ⟨rfl, .ret,hIx _ _ _ _ hi3 (.put_ _ hl3 rfl (by omega)),hl4,hk4⟩⟩
  |exit id=>
    obtain⟨hk3,hi3⟩:=hp;obtain⟨hr,hl3,hl4,hk4⟩:=fin (some (.exit id)) W3 hk3;exact⟨_,_,hr, .inr ⟨rfl, .exit id,hIx _ _ _ _ hi3 (.put_ _ hl3 rfl (by omega)),hl4,hk4⟩⟩
  |goto t=>
    obtain⟨hk3,hi3⟩:=hp;obtain⟨hr,hl3,hl4,hk4⟩:=fin (some (.goto t)) W3 hk3;exact⟨_,_,hr, .inr ⟨rfl, .goto t,hIx _ _ _ _ hi3 (.put_ _ hl3 rfl (by omega)),hl4,hk4⟩⟩
  |panic ch=>exact hp.elim
  |outgrown=>exact hp.elim
 rintro e W2 ⟨⟨v,rfl⟩,(⟨xs,hS,hi,hl,hk⟩|⟨pre,hSp,c,hi,hl,hk⟩)⟩
 ·exact⟨none,_,by have:=run_endLoop (P:=P) hl (by rw[hrec];simp);rw[hrec]at this;exact this,hdone _ xs _ (B3 _) hS (hI _ _ _ hi (.put_ _ hl rfl (by omega))) ((World.putObj_heap_other (by omega)).trans hk)⟩
 exact⟨some c,_,by have:=run_endLoop (P:=P) hl (by rw[hrec];simp);rw[hrec]at this;exact this,hstop _ c pre _ (B3 _) hSp (hIx _ _ _ _ hi (.put_ _ hl rfl (by omega))) ((World.putObj_heap_other (by omega)).trans hk)⟩
end
theorem LJ{P:Program}{f:FuncId}{xs:List AV}{R:AV}(h:AFn P f xs fun r=>r=R){w:World}{N:Nat}{vs:List Value}(hN:N≤w.heap.size)(hv:BW (fun b _=>b<N) w xs vs):
    Calls P f vs.toArray w fun e w'=>∃(v:Value) (G':Gh),e= .returned v∧rep G' w' R v∧Below w.heap.size w w':=by
 refine Calls.mono (h w (fun b _=>b<N) [] vs (RH (fun b o hb=>Nat.lt_of_lt_of_le hb hN)) (H6 _ _ hv)) ?_;intro e w' h3
 cases e with
 |returned v=>
   obtain⟨r,b,t,G',⟨_,_,rfl⟩,k2,_,k4⟩:=h3;have k:=k2.kept;exact⟨v,G',rfl,k4,⟨k.os,k.tape,k.output,k.size,fun i hi=>k.block i hi (by simp)⟩⟩
 |panicked c=>exact h3.elim
 |outgrown=>exact h3.elim
def SpcIn(s:Spc)(N:Nat)(w:World)(ds ms:Value):Prop:=N≤w.heap.size∧BW (fun b _=>b<N) w (Aj s) [ds,ms]
theorem SpcIn.keep{s:Spc}{N:Nat}{w w':World}{ds ms:Value}(h:SpcIn s N w ds ms)(hs:w.heap.size≤w'.heap.size)(hb:∀b,b<N→w'.heap[b]?=w.heap[b]?):SpcIn s N w' ds ms:=
 ⟨Nat.le_trans h.1 hs,J7 (fun b o hN=>⟨hN,World.cell?_of_block (w:=w) (a:=⟨b,o,none⟩) (hb b hN)⟩) _ _ h.2⟩
theorem SpcIn.below{s:Spc}{N B:Nat}{w w':World}{ds ms:Value}(h:SpcIn s N w ds ms)(hb:Below B w w')(hN:N≤B):SpcIn s N w' ds ms:=
 h.keep hb.size fun b hbN=>hb.block b (Nat.lt_of_lt_of_le hbN hN)
section
variable {s:Spc}{N:Nat}{w:World}{ds ms:Value}(h:SpcIn s N w ds ms)(hs:SpcB s)
include h hs
theorem Xn(a:AG):Calls prog 169 #[.agg #[ds],D8 a] w fun e w'=>
    (∃(A:Option Addr) (m c:Nat),e= .returned (.tuple #[.agg #[.int .i64 (Au s.files a).ino, .int .i64 (Au s.files a).kind, .int .i64 (Au s.files a).mode, .int .i64 (Au s.files a).uid, .int .i64 (Au s.files a).gid, .int .i64 (Au s.files a).parent, .string (Au s.files a).target, .slice A m c], .bool (Ck s.files a)]))∧Below w.heap.size w w':=by
 have h2:=h.2;simp only[Aj,BW]at h2;obtain⟨z,zs,e1,h3,_⟩:=h2;obtain⟨rfl,rfl⟩:=List.cons.inj e1;refine(LJ (GM s.files a hs.files) (vs:=[.agg #[ds],D8 a]) h.1 ?_).mono ?_
 ·simp only[BW,Am,At,AF,D8];exact⟨_,_,rfl,⟨[ds],rfl,ds,[],rfl,by simpa only[Am]using h3,rfl⟩,_,_,rfl,⟨[.int .i64 a.1, .int .i64 a.2],rfl,_,_,rfl,rfl,_,_,rfl,rfl,rfl⟩,rfl⟩
 rintro e w' ⟨v,G',rfl,hr,hb⟩;refine⟨?_,hb⟩;simp only[rep,AY,Ap,Am]at hr;obtain⟨ys,rfl,z1,zs1,rfl,⟨ys2,rfl,_,_,rfl,rfl,_,_,rfl,rfl,_,_,rfl,rfl,_,_,rfl,rfl,_,_,rfl,rfl,_,_,rfl,rfl,_,_,rfl,rfl,_,_,rfl,⟨_,A,c,rfl,_⟩,rfl⟩,_,_,rfl,rfl,rfl⟩:=hr;exact⟨A,_,c,rfl⟩
theorem Sf(xs:List AV)(vs:List Value)(hx:BW (fun b _=>b<N) w xs vs):BW (fun b _=>b<N) w (.agg (Aj s)::xs) (.agg #[ds,ms]::vs):=by
 have _:=hs;simp only[BW];refine⟨_,_,rfl,?_,hx⟩;simp only[Am];exact⟨[ds,ms],rfl,h.2⟩
theorem Sg(a:AG):BW (fun b _=>b<N) w [.agg (Aj s), .agg (AF a)] [.agg #[ds,ms],D8 a]:=by
 refine Sf h hs _ _ ?_;simp only[BW,Am,AF,D8];exact⟨_,_,rfl,⟨[.int .i64 a.1, .int .i64 a.2],rfl,_,_,rfl,rfl,_,_,rfl,rfl,rfl⟩,rfl⟩
theorem Sh(d:Int):BW (fun b _=>b<N) w [.agg (Aj s), .v (.int .i64 d)] [.agg #[ds,ms], .int .i64 d]:=by
 refine Sf h hs _ _ ?_;simp only[BW,Am];exact⟨_,_,rfl,rfl,rfl⟩
theorem Xo(d:Int):Calls prog 229 #[.agg #[ds,ms], .int .i64 d] w fun e w'=>
    e= .returned (.tuple #[D8 ((Bg s d).getD (0,0)), .bool (Bg s d).isSome])∧Below w.heap.size w w':=by
 refine(LJ (On s d hs) (vs:=[.agg #[ds,ms], .int .i64 d]) h.1 (Sh h hs d)).mono ?_;rintro e w' ⟨v,G',rfl,hr,hb⟩;refine⟨?_,hb⟩;simp only[rep,AY,AF]at hr;obtain⟨ys,rfl,z1,zs1,rfl,⟨ys2,rfl,_,_,rfl,rfl,_,_,rfl,rfl,rfl⟩,_,_,rfl,rfl,rfl⟩:=hr;rfl
theorem Xp(a:AG):Calls prog 281 #[.agg #[ds,ms],D8 a] w fun e w'=>e= .returned (.bool (Ax s.files a))∧Below w.heap.size w w':=by
 refine(LJ (Wl s a hs) (vs:=[.agg #[ds,ms],D8 a]) h.1 (Sg h hs a)).mono ?_;rintro e w' ⟨v,G',rfl,hr,hb⟩;simp only[rep]at hr;exact⟨by rw[hr],hb⟩
theorem Xq(d:Int):Calls prog 187 #[.agg #[ds,ms], .int .i64 d] w fun e w'=>e= .returned (.bool (CB s d))∧Below w.heap.size w w':=by
 refine(LJ (WS s d hs) (vs:=[.agg #[ds,ms], .int .i64 d]) h.1 (Sh h hs d)).mono ?_;rintro e w' ⟨v,G',rfl,hr,hb⟩;simp only[rep]at hr;exact⟨by rw[hr],hb⟩
end
theorem SpcIn.devs{s:Spc}{N:Nat}{w:World}{ds ms:Value}(h:SpcIn s N w ds ms):∃A cap,ds= .slice A s.files.length cap∧s.files.length≤cap∧cap≤maxLen∧
    (0<s.files.length→∃b off,A=some ⟨b,off,none⟩∧b<N∧∀i d,s.files[i]?=some d→w.cell? ⟨b,off+i * 2,none⟩=some (.int .i64 d.next)∧∃A2 cap2,w.cell? ⟨b,off+i * 2+1,none⟩=some (.slice A2 d.nodes.length cap2)):=by
 have h2:=h.2;simp only[Aj,BW]at h2;obtain⟨z,zs,e1,h3,_⟩:=h2;obtain⟨rfl,rfl⟩:=List.cons.inj e1;simp only[Am,List.length_map]at h3;obtain⟨_,A,cap,rfl,h4,h5,h6⟩:=h3;refine⟨A,cap,rfl,h4,h5,fun hpos=>?_⟩;rcases h6 with h6|⟨b,off,rfl,h6⟩
 ·simp at h6;rw[h6]at hpos;simp at hpos
 refine⟨b,off,rfl,?_,?_⟩
 ·obtain⟨_,h8⟩:=J9 h6 (i:=0) (r:=Bo (s.files[0]'hpos)) (by simp[hpos]);simp only[Bo,Cb]at h8;exact h8.1.1
 intro i d hd;obtain⟨_,h8⟩:=J9 h6 (i:=i) (r:=Bo d) (by simp[hd]);simp only[Bo,Cb,Am,List.length_map]at h8;obtain⟨⟨_,u,h9,_,rfl⟩,⟨_,u2,h10,_,_,A2,cap2,rfl,_⟩,_⟩:=h8;exact⟨h9,A2,cap2,h10⟩
theorem Si(ds ms:Value)(a:AG)(w:World):
    Calls prog 170 #[.agg #[ds,ms],D8 a] w fun e w'=>
     e= .returned (.func (.func 228) #[] #[.pointer (some ⟨w.heap.size,0,none⟩), .pointer (some ⟨w.heap.size+1,0,none⟩)])∧
     w'=(w.alloc (.cells #[ds,ms] 42)).alloc (.cells #[.int .i64 a.1, .int .i64 a.2] 26):=by
 unfold D8
 go_enter Tryz.func170,Tryz.ntmps170
 go_wp2
 go_ret
 exact⟨by simp,rfl⟩
end Go.Proofs.YtbgnigjfkbmceaaGreatDoor
namespace Go.Proofs.YtbgnigjfkbmceaaGreatDoor
open Go.RowKit Go.Shelf
attribute [local go_sem] Oper.semAt_some
theorem Xr{n:Nat}{P:Program}{c:Code}{Q:Exit→Act→World→Prop}{a:Act}{w:World}(h:c.wpIn Fence.wide n P (Exit.noGoto Q) a w):(Code.scope c).wpIn Fence.wide n P Q a w:=
 wpIn_wide.2 (wp_scope_straight (wpIn_wide.1 h))
theorem Moves.setc{own:Nat→Prop}{B:Nat}(X:World){p:Addr}(hb:own p.block)(v:Value):Moves own B X (X.setCell p v):=
 have h:Below 0 X (X.setCell p v):=(Below.refl 0 X).setCell (BR _) v
 ⟨h.os,h.tape,h.output,h.size,fun k _ hk _=>Below.heap_setCell X p v k fun e=>hk (by rw[e];exact hb)⟩
def Dr(s:Spc)(a:AG):Option AG:=
 if(Au s.files a).ino≠1 then some (a.1,(Au s.files a).parent)
 else if a.1=0 then none else Bg s a.1
def BH(s:Spc):Nat→AG→List AG
 |0,_=>[]
 |k+1,a=>if Ax s.files a then a::(match Dr s a with
   |none=>[]
   |some b=>BH s k b)else[]
def BQ(f:Af):Nat:=(f.map fun d=>d.nodes.length).sum
def KeepC(N sb db:Nat)(X Y:World):Prop:=X.heap.size≤Y.heap.size∧Y.heap[sb]?=X.heap[sb]?∧Y.heap[db]?=X.heap[db]?∧(∀b,b<N→Y.heap[b]?=X.heap[b]?)∧
 ∀(b:Nat) (cs:Array Value),X.heap[b]?=some (.cells cs 151)→Y.heap[b]?=some (.cells cs 151)
theorem KeepC.trans{N sb db:Nat}{X Y Z:World}(h:KeepC N sb db X Y)(k:KeepC N sb db Y Z):KeepC N sb db X Z:=
 ⟨Nat.le_trans h.1 k.1,k.2.1.trans h.2.1,k.2.2.1.trans h.2.2.1,fun b hb=>(k.2.2.2.1 b hb).trans (h.2.2.2.1 b hb),fun b cs hb=>k.2.2.2.2 b cs (h.2.2.2.2 b cs hb)⟩
theorem Sj{N sb db B:Nat}(hN:N≤B)(hs:sb<B)(hd:db<B)(W:World)(l:Nat)(o o':Obj)(hl:B≤l)(ho:W.heap[l]?=some o)(hc:o.isCells=false):KeepC N sb db W (W.putObj l o'):=
 ⟨(grownBy_putObj' W l o').size,World.putObj_heap_other (by omega),World.putObj_heap_other (by omega),fun b hb=>World.putObj_heap_other (by omega),fun b cs hb=>by
  refine(World.putObj_heap_other fun e=>?_).trans hb;subst e;rw[ho]at hb;injection hb with hb;subst hb
  cases hc⟩
theorem LK{N sb db:Nat}{X Y:World}(h:Below X.heap.size X Y)(hN:N≤X.heap.size)(hs:sb<X.heap.size)(hd:db<X.heap.size):KeepC N sb db X Y:=
 ⟨h.size,h.block _ hs,h.block _ hd,fun b hb=>h.block _ (by omega),fun b cs hb=>(h.block _ (Array.getElem?_eq_some_iff.1 hb).1).trans hb⟩
theorem Sk{f:Af}(hf:FlsB f)(j:Nat):BQ (f.take j)≤1000000:=by
 have:∀(l:Af),(∀d∈l,d.nodes.length≤1000)→BQ l≤l.length * 1000:=by
  intro l
  induction l with
  |nil=>intro _;simp[BQ]
  |cons d l ih=>
    intro h;have h1:=ih fun d hd=>h d (List.mem_cons_of_mem _ hd);have h2:=h d (List.mem_cons_self ..);simp only[BQ,List.map_cons,List.sum_cons,List.length_cons]at h1 ⊢;omega
 have h1:=this (f.take j) fun d hd=>hf.nodes d (List.mem_of_mem_take hd);have h2:=hf.few;have h3:(f.take j).length≤f.length:=by simp;omega
 have:(f.take j).length * 1000≤1000 * 1000:=Nat.mul_le_mul_right _ (by omega);omega
theorem Xs{f:Af}{j:Nat}{d:Dvc}(h:f[j]?=some d):BQ (f.take (j+1))=BQ (f.take j)+d.nodes.length:=by
 rw[List.take_add_one,h];simp[BQ]
set_option maxRecDepth 100000 in
set_option maxHeartbeats 2000000 in
theorem Sl(n:Nat)(s:Spc)(hs:SpcB s)(a0:AG)(N sb db:Nat)(ds ms:Value)(w:World)(h0:w.heap[sb]?=some (.cells #[ds,ms] 42))(h1:w.heap[db]?=some (.cells #[.int .i64 a0.1, .int .i64 a0.2] 26))
    (hS:SpcIn s N w ds ms) (hNs:N≤sb) (hNd:N≤db) (hne:sb≠db):
    SeqW Fence.wide n prog 228 #[.pointer (some ⟨sb,0,none⟩), .pointer (some ⟨db,0,none⟩)] (fun x:AG=>#[D8 x]) (fun b=>b=db) (KeepC N sb db) (fun xs=>xs<+:BH s (BQ s.files) a0)
     (fun xs=>xs=BH s (BQ s.files) a0) (fun pre=>pre<+:BH s (BQ s.files) a0) w:=fun l J Jx W hW hJ hJx hY hst=>by
 have lt_of:∀{W:World} {k:Nat} {o:Obj},W.heap[k]?=some o→k<W.heap.size:=fun h=>(Array.getElem?_eq_some_iff.1 h).1;have k0:W.heap[sb]?=some (.cells #[ds,ms] 42):=BS h0 hW (lt_of h0);have k1:W.heap[db]?=some (.cells #[.int .i64 a0.1, .int .i64 a0.2] 26):=BS h1 hW (lt_of h1);have kS:SpcIn s N W ds ms:=hS.below hW hS.1;obtain⟨A,cap,rfl,hcap,hcm,hdev⟩:=kS.devs;obtain⟨c0,f0⟩:=Bv k0;obtain⟨c1,f1⟩:=Bv k1;have hfew:=hs.files.few;have HD:=Lib.hid hdev;have HW:=Lib.hid hW;have HJ:=Lib.hid hJ;have HJx:=Lib.hid hJx;have HY:=Lib.hid hY;clear hdev hS hW hJ hJx hY h0 h1;refine callsIn_of_wp Tryz.func228 rfl trivial ?_ rfl;simp only[Tryz.ntmps228,List.size_toArray,List.length_cons,List.length_nil,Nat.reduceAdd,Nat.reduceSub,Array.replicate_succ,Array.replicate_zero,List.push_toArray,List.append_toArray,List.nil_append,List.cons_append]
 gi_wp2
 refine Xr ?_
 gi_wp2
 gi_loopw [4,14] (fun t i wr=>∃j:Nat,j≤s.files.length∧i= .int .i64 j∧t= .int .i64 (BQ (s.files.take j))∧Below W.heap.size W wr) (fun _ i _=>s.files.length - (intOf i).toNat)
 case atStart=>exact⟨0,BR _,rfl,rfl,Below.refl _ _⟩
 case round=>
  obtain⟨j,hj,rfl,rfl,hb⟩:=hrel;have hNW:=kS.1;by_cases hlt:j<s.files.length
  ·obtain⟨b,off,rfl,hbN,hrow⟩:=HD.out (by omega);obtain⟨r1,A2,cap2,r2⟩:=hrow j _ (BV hlt);have r1':=(World.cell?_of_block (w:=W) (w':=wr) (a:=⟨b,off+j * 2,none⟩) (hb.block b (by omega))).trans r1;have r2':=(World.cell?_of_block (w:=W) (w':=wr) (a:=⟨b,off+j * 2+1,none⟩) (hb.block b (by omega))).trans r2;have hM:=Sk hs.files j;have hL:=hs.files.nodes _ (List.getElem_mem hlt);have HE:=Lib.hid (Xs (BV hlt));generalize (s.files[j]).nodes.length=L at *;generalize (s.files[j]).next=nx at *;generalize BQ (s.files.take j)=M at *;clear hrow r1 r2 hs
   gi_wp2
   go_roundw
   case rel=>exact⟨j+1,by omega,by go_num,by rw[HE.out];go_num,hb.alloc hb.size _⟩
   case measure=>simp[intOf];omega
  have ej:j=s.files.length:=by omega
  subst ej;have hM:=Sk hs.files s.files.length;rw[List.take_length]at hM;rw[List.take_length];have k0':=BS k0 hb (lt_of k0);have k1':=BS k1 hb (lt_of k1);have kS':=kS.below hb hNW;have hJ0:J [] wr:=HJ.out _ _ _ hst (Moves.below hb)
  gi_wp2
  refine wpIn_label ?_
  gi_wp2
  clear c0 f0 c1 f1 k0 k1 kS hst;obtain⟨M,hM0⟩:∃M,BQ s.files=M:=⟨_,rfl⟩;rw[hM0]at hM ⊢;have HM:=Lib.hid hM0;clear hM0
  gi_loopw [25] (fun i wr=>∃(j:Nat) (pre:List AG) (cur:AG),j≤M∧i= .int .i64 j∧J pre wr∧wr.heap[sb]?=some (.cells #[.slice A s.files.length cap,ms] 42)∧
   wr.heap[db]?=some (.cells #[.int .i64 cur.1, .int .i64 cur.2] 26)∧SpcIn s N wr (.slice A s.files.length cap) ms∧Hid (pre++BH s (M - j) cur=BH s M a0)) (fun i _=>M - (intOf i).toNat)
  case atStart=>exact⟨0,[],a0,BR _,rfl,hJ0,k0',k1',kS',rfl⟩
  case round=>
   obtain⟨j,pre,cur,hj,rfl,hJp,m0,m1,mS,hch⟩:=hrel;clear k0' k1' kS' hJ0;obtain⟨c0,f0⟩:=Bv m0;obtain⟨c1,f1⟩:=Bv m1;by_cases hlt:j<M
   ·have HC:Hid (BH s (M - j) cur=if Ax s.files cur then cur::(match Dr s cur with
       |none=>[]
       |some b=>BH s (M - (j+1)) b)else[]):=by
       rw[show M - j=(M - (j+1))+1 by omega];exact Lib.hid rfl
    gi_wp2_with fail
    refine Da ((callsIn_wide.2 (Xn mS hs cur)).mono ?_);rintro e w1 ⟨⟨eA,em,ec,rfl⟩,hb1⟩;have HB1:=Lib.hid hb1;have HD1:=Lib.hid (FB s.files cur);obtain⟨nd,hnd⟩:∃nd,Au s.files cur=nd:=⟨_,rfl⟩;have HN:=Lib.hid hnd;obtain⟨hg,hhg⟩:∃hg,Ck s.files cur=hg:=⟨_,rfl⟩;have HH:=Lib.hid hhg;have n0:=BS m0 hb1 (lt_of m0);have n1:=BS m1 hb1 (lt_of m1);have nS:=mS.below hb1 mS.1;have hz:=hb1.size;clear c0 f0 c1 f1;obtain⟨c0,f0⟩:=Bv n0;obtain⟨c1,f1⟩:=Bv n1;rw[hnd,hhg];clear hb1 hnd hhg
    cases hg with
    |false=>
      have HE:Hid (BH s (M - j) cur=[]):=Lib.hid (by rw[HC.out,HD1.out,HH.out];simp)
      gi_wp2
      refine⟨fun _ h=>(by cases h),?_⟩
      gi_wp2
      rw[Exit.noGoto_ret];refine bodyPost_ret (results_none rfl _ _ _) rfl ?_;exact⟨⟨_,rfl⟩, .inl ⟨pre,by rw[HM.out,←hch.out,HE.out];simp,HJ.out _ _ _ hJp (Moves.below (HB1.out.alloc hz _))⟩⟩
    |true=>
      by_cases hk:nd.kind=2
      ·have HE:Hid (BH s (M - j) cur=cur::(match Dr s cur with
          |none=>[]
          |some b=>BH s (M - (j+1)) b)):=Lib.hid (by rw[HC.out,HD1.out,HH.out,HN.out];simp[hk])
       obtain⟨W2,hW2⟩:∃W2,w1.alloc (.cells #[.int .i64 nd.ino, .int .i64 2, .int .i64 nd.mode, .int .i64 nd.uid, .int .i64 nd.gid, .int .i64 nd.parent, .string nd.target, .slice eA em ec] 151)=W2:=⟨_,rfl⟩;have hB2:Below wr.heap.size wr W2:=by rw[←hW2];exact HB1.out.alloc hz _
       have hJ2:J pre W2:=HJ.out _ _ _ hJp (Moves.below hB2);have q7:W2.heap[w1.heap.size]?=some (.cells #[.int .i64 nd.ino, .int .i64 2, .int .i64 nd.mode, .int .i64 nd.uid, .int .i64 nd.gid, .int .i64 nd.parent, .string nd.target, .slice eA em ec] 151):=by rw[←hW2];exact Gr _ _
       have q0:=BS m0 hB2 (lt_of m0);have q1:=BS m1 hB2 (lt_of m1);have qS:=mS.below hB2 mS.1;obtain⟨fn,tmps,assign,body,hy,hR⟩:=HY.out pre cur W2 hJ2 (by rw[HM.out,←hch.out,HE.out];exact⟨_,by rw[List.append_assoc];rfl⟩);rw[←hW2]at hy;unfold D8 at hy;have HH2:=Lib.hid hW2;clear hW2
       gi_wp2
       refine⟨(fun h=>by cases h),?_⟩;rw[HH2.out];refine hR.mono ?_;rintro e W3 (⟨rfl,hJ3,hk3⟩|⟨rfl,hJx3⟩)
       ·obtain⟨z0,z1,z2,z3,z4⟩:=hk3;have r0:=z1.trans q0;have r1:=z2.trans q1;have r7:=z4 _ _ q7;have rS:=qS.keep z0 z3;clear hy hR c0 f0 c1 f1 q0 q1 q7 qS;obtain⟨c0,f0⟩:=Bv r0;obtain⟨c1,f1⟩:=Bv r1;obtain⟨c7,f7⟩:=Bv r7;by_cases hi:nd.ino=1
        ·gi_wp2_with fail
         refine Da ((callsIn_wide.2 (Xo rS hs cur.1)).mono ?_);rintro e w4 ⟨rfl,hb4⟩;have HP:=Lib.hid (show Dr s cur=if cur.1=0 then none else Bg s cur.1 by unfold Dr;rw[HN.out,if_neg (by simp[hi])]);obtain⟨pl,hpl⟩:∃pl,Bg s cur.1=pl:=⟨_,rfl⟩;rw[hpl];have HPL:=Lib.hid hpl;have s0:=BS r0 hb4 (lt_of r0);have s1:=BS r1 hb4 (lt_of r1);have sS:=rS.below hb4 rS.1;have sz:=hb4.size;have sJ:=HJ.out _ _ _ hJ3 (Moves.below hb4);clear c0 f0 c1 f1 c7 f7 hb4 hpl r0 r1 r7 rS;obtain⟨c0,f0⟩:=Bv s0;obtain⟨c1,f1⟩:=Bv s1;unfold D8
         cases pl with
         |none=>
           have HS:Hid (Dr s cur=none):=Lib.hid (by rw[HP.out,HPL.out];split<;>rfl)
           gi_wp2
           rw[Exit.noGoto_ret];refine bodyPost_ret (results_none rfl _ _ _) rfl ?_;exact⟨⟨_,rfl⟩, .inl ⟨pre++[cur],by rw[HM.out,←hch.out,HE.out,HS.out],HJ.out _ _ _ sJ (Moves.below ((Below.refl _ _).alloc (B3 _) _))⟩⟩
         |some on=>
           by_cases hd:cur.1=0
           ·have HS:Hid (Dr s cur=none):=Lib.hid (by rw[HP.out,if_pos hd])
            gi_wp2
            rw[Exit.noGoto_ret];refine bodyPost_ret (results_none rfl _ _ _) rfl ?_;exact⟨⟨_,rfl⟩, .inl ⟨pre++[cur],by rw[HM.out,←hch.out,HE.out,HS.out],HJ.out _ _ _ sJ (Moves.below ((Below.refl _ _).alloc (B3 _) _))⟩⟩
           have HS:Hid (Dr s cur=some on):=Lib.hid (by rw[HP.out,if_neg hd,HPL.out])
           gi_wp2
           have t1:=CY (K0 (K0 s1 0 (.int .i64 on.1)) 1 (.int .i64 on.2)) (.cells #[.int .i64 on.1, .int .i64 on.2] 26);have t0:=CY (JV (JV s0 (p:=⟨db,0,none⟩) hne (.int .i64 on.1)) (p:=⟨db,1,none⟩) hne (.int .i64 on.2)) (.cells #[.int .i64 on.1, .int .i64 on.2] 26)
           have hb5:Below N w4 (((w4.setCell ⟨db,0,none⟩ (.int .i64 on.1)).setCell ⟨db,1,none⟩ (.int .i64 on.2)).alloc (.cells #[.int .i64 on.1, .int .i64 on.2] 26)):=
            (((Below.refl _ _).setCell hNd _).setCell hNd _).alloc (by simpa using sS.1) _
           refine⟨⟨j+1,pre++[cur],on,by omega,by go_num,?_,t0,by simpa using t1,sS.below hb5 (B3 _),Lib.hid ?_⟩,by simp[intOf];omega⟩
           ·exact HJ.out _ _ _ (HJ.out _ _ _ (HJ.out _ _ _ sJ (Moves.setc (own:=fun b=>b=db) (p:=⟨db,0,none⟩) _ rfl _)) (Moves.setc (own:=fun b=>b=db) (p:=⟨db,1,none⟩) _ rfl _)) (Moves.below ((Below.refl _ _).alloc (B3 _) _))
           rw[←hch.out,HE.out,HS.out];simp
        have HS:Hid (Dr s cur=some (cur.1,nd.parent)):=Lib.hid (by unfold Dr;rw[HN.out,if_pos hi])
        gi_wp2
        have m1':=K0 r1 1 (.int .i64 nd.parent);have m0':=JV r0 (p:=⟨db,1,none⟩) hne (.int .i64 nd.parent);have hb4:Below N W3 (W3.setCell ⟨db,1,none⟩ (.int .i64 nd.parent)):=(Below.refl _ _).setCell hNd _;refine⟨⟨j+1,pre++[cur],(cur.1,nd.parent),by omega,by go_num,HJ.out _ _ _ hJ3 (Moves.setc (own:=fun b=>b=db) (p:=⟨db,1,none⟩) _ rfl _),m0',by simpa using m1',rS.below hb4 (B3 _),Lib.hid ?_⟩,by simp[intOf];omega⟩;rw[←hch.out,HE.out,HS.out];simp
       clear hy hR
       gi_wp2
       rw[Exit.noGoto_ret];refine bodyPost_ret (results_none rfl _ _ _) rfl ?_;exact⟨⟨_,rfl⟩, .inr ⟨pre++[cur],by rw[HM.out,←hch.out,HE.out];exact⟨_,by rw[List.append_assoc];rfl⟩,hJx3⟩⟩
      have HE:Hid (BH s (M - j) cur=[]):=Lib.hid (by rw[HC.out,HD1.out,HH.out,HN.out];simp[hk])
      gi_wp2
      refine⟨fun _ h=>(by cases h),?_⟩
      gi_wp2
      rw[Exit.noGoto_ret];refine bodyPost_ret (results_none rfl _ _ _) rfl ?_;exact⟨⟨_,rfl⟩, .inl ⟨pre,by rw[HM.out,←hch.out,HE.out];simp,HJ.out _ _ _ hJp (Moves.below (HB1.out.alloc hz _))⟩⟩
   have HC:Hid (BH s (M - j) cur=[]):=by rw[show M - j=0 by omega];exact Lib.hid rfl
   gi_wp2
   rw[Exit.noGoto_normal]
   go_end0
   exact⟨⟨_,rfl⟩, .inl ⟨pre,by rw[HM.out,←hch.out,HC.out];simp,hJp⟩⟩
end Go.Proofs.YtbgnigjfkbmceaaGreatDoor
namespace Go.Proofs.YtbgnigjfkbmceaaGreatDoor
open Go.RowKit
theorem DK{es:List BM}{j:Nat}{e:BM}(h:es[j]?=some e)(name:AM)(ino:Int)(dn:Bool):Ep name ino dn (es.drop j)=(if !dn&& !EG e.1 name then[(name,ino)]else[])++((if e.1=name then[]else[e])++Ep name ino (dn|| !EG e.1 name) (es.drop (j+1))):=by
 obtain⟨hj,rfl⟩:=Al.1 h;rw[List.drop_eq_getElem_cons hj];rfl
section
theorem LL(f:Af)(q:Nat)(d:Dvc)(n:Nod)(i:Nat)(a:AG)(name:AM)(ino:Int)(cap cap1:Nat)(hf:FlsB f)(hq:f[q]?=some d)(ha:a.1=(q:Int))(hi:EO f a=(i:Int))(hn:d.nodes[i]?=some n)(hcap:f.length≤cap)(hcap1:d.nodes.length≤cap1):
    ACall prog 232 [.agg [.bs 0 0 2 f.length cap], .agg (AF a), .v (.string name), .v (.int .i64 ino)] [DB f q d 1 cap cap1,NB d.nodes cap1] (fun r b t=>t=[]∧r= .tup []∧b=[DB f q d 1 cap cap1,NB (d.nodes.set i {n with entries:=CP n.entries name ino}) cap1]):=by
 have hql:=(Al.1 hq).1;have hil:=(Al.1 hn).1;have hen:=hf.ents d (B1 hq) n (B1 hn);have hN0:0+i * 8+8≤(NB d.nodes cap1).length:=by rw[LD hcap1];omega
 have hD0:(DB f q d 1 cap cap1)[0+q * 2+1]?=some (.bs 1 0 8 d.nodes.length cap1):=GP hql;have hset:SetAt (NB d.nodes cap1) (0+i * 8+7) [.sl 2 ((CP n.entries name ino).map CG) none] (NB (d.nodes.set i {n with entries:=CP n.entries name ino}) cap1):=PH hn (by repeat constructor) (by simp);refine enter Tryz.func232 rfl rfl rfl rfl rfl 2 rfl ?_;refine w_ (b_ (h:=b_ (h:=e_ (?_))));refine Bx (fun t=>t=⟨look [(2, .v (.string name)),(3, .v (.int .i64 ino)),(4, .bp 2 0),(5, .bp 3 0),(8, .bp 4 0)],⟨[DB f q d 1 cap cap1,NB d.nodes cap1,[.bs 0 0 2 f.length cap],AF a,Ap n],[]⟩⟩) ?_ ?_
 ·skip
  refine C3 ([(0,DB f q d 1 cap cap1),(1,NB d.nodes cap1),(2,[.bs 0 0 2 f.length cap]),(3,AF a)]) 13 (h:=Aw 0 (h:=?_))
  first|refine AO 1 (h:=?_)|refine BN 1 rfl (fun _ hS=>Be (row:=DB f q d 1 cap cap1) rfl (kb hS rfl) hD0 ⟨rfl,rfl⟩) ?_|refine BN 1 rfl (fun _ hS=>DZ (row:=NB d.nodes cap1) rfl (kb hS rfl) hN0 (Gv hn) ⟨rfl,rfl⟩) ?_
  refine Aw 2 (h:=?_)
  first|refine AO 3 (h:=?_)|refine BN 3 rfl (fun _ hS=>Be (row:=DB f q d 1 cap cap1) rfl (kb hS rfl) hD0 ⟨rfl,rfl⟩) ?_|refine BN 3 rfl (fun _ hS=>DZ (row:=NB d.nodes cap1) rfl (kb hS rfl) hN0 (Gv hn) ⟨rfl,rfl⟩) ?_
  refine BN 4 rfl (fun _ hS=>DQ (m:=q) rfl rfl ha hql ⟨rfl,rfl⟩) ?_;refine Aw 5 (h:=?_)
  first|refine AO 6 (h:=?_)|refine BN 6 rfl (fun _ hS=>Be (row:=DB f q d 1 cap cap1) rfl (kb hS rfl) hD0 ⟨rfl,rfl⟩) ?_|refine BN 6 rfl (fun _ hS=>DZ (row:=NB d.nodes cap1) rfl (kb hS rfl) hN0 (Gv hn) ⟨rfl,rfl⟩) ?_
  first|refine AO 7 (h:=?_)|refine BN 7 rfl (fun _ hS=>Be (row:=DB f q d 1 cap cap1) rfl (kb hS rfl) hD0 ⟨rfl,rfl⟩) ?_|refine BN 7 rfl (fun _ hS=>DZ (row:=NB d.nodes cap1) rfl (kb hS rfl) hN0 (Gv hn) ⟨rfl,rfl⟩) ?_
  first|refine AO 8 (h:=?_)|refine BN 8 rfl (fun _ hS=>Be (row:=DB f q d 1 cap cap1) rfl (kb hS rfl) hD0 ⟨rfl,rfl⟩) ?_|refine BN 8 rfl (fun _ hS=>DZ (row:=NB d.nodes cap1) rfl (kb hS rfl) hN0 (Gv hn) ⟨rfl,rfl⟩) ?_
  refine GH 9 12 rfl rfl ?_ ?_
  ·refine Fr 2 rfl (.cons _ _ _ _ _ rfl (LeA.of_eq (Ht hq hcap hcap1 (BR _) (BR _) rfl rfl)) (.cons _ _ _ _ _ rfl (AZ _) .nil)) (Hl f a hf) ?_;rintro r rfl;refine⟨rfl,?_⟩;refine o_ (h:=?_);refine BN 10 rfl (fun _ hS=>DQ (m:=i) rfl rfl hi hil ⟨rfl,rfl⟩) ?_
   first|refine AO 11 (h:=?_)|refine BN 11 rfl (fun _ hS=>Be (row:=DB f q d 1 cap cap1) rfl (kb hS rfl) hD0 ⟨rfl,rfl⟩) ?_|refine BN 11 rfl (fun _ hS=>DZ (row:=NB d.nodes cap1) rfl (kb hS rfl) hN0 (Gv hn) ⟨rfl,rfl⟩) ?_
   refine c_ 12 rfl (Dv (by repeat constructor) ?_);refine o_ (h:=?_);refine Bd 13 rfl (BY rfl rfl rfl rfl rfl rfl (by repeat constructor) (by repeat constructor) ?_);refine o_ (h:=z_ (h:=?_));refine AJ ?_;exact⟨_,rfl,C4 5 0 (by simp[BK,BB,BA,Bl,Bm,AF,Ap])⟩
  refine Dv (by repeat constructor) ?_;refine o_ (h:=?_);refine c_ 9 rfl (Fr 2 rfl (.cons _ _ _ _ _ rfl (LeA.of_eq (Ht hq hcap hcap1 (BR _) (BR _) rfl rfl)) (.cons _ _ _ _ _ rfl (AZ _) .nil)) (Hl f a hf) ?_);rintro r rfl;refine⟨rfl,?_⟩;refine o_ (h:=?_);refine BN 10 rfl (fun _ hS=>DQ (m:=i) rfl rfl hi hil ⟨rfl,rfl⟩) ?_
  first|refine AO 11 (h:=?_)|refine BN 11 rfl (fun _ hS=>Be (row:=DB f q d 1 cap cap1) rfl (kb hS rfl) hD0 ⟨rfl,rfl⟩) ?_|refine BN 11 rfl (fun _ hS=>DZ (row:=NB d.nodes cap1) rfl (kb hS rfl) hN0 (Gv hn) ⟨rfl,rfl⟩) ?_
  refine Bd 13 rfl (BY rfl rfl rfl rfl rfl rfl (by repeat constructor) (by repeat constructor) ?_);refine o_ (h:=z_ (h:=?_));refine AJ ?_;exact⟨_,rfl,C4 5 0 (by simp[BK,BB,BA,Bl,Bm,AF,Ap])⟩
 rintro t rfl;refine w_ (a_ (h:=e_ (w_ (m_ (h:=AK (h:=a_ (h:=e_ (q_ (w_ (a_ (h:=e_ (Ab (?_)))))))))))));refine Jr 9 234 2 rfl (by repeat constructor) ?_;refine BT (fun m t=>∃(j:Nat) (acc:List BM) (dn:Bool),j≤n.entries.length∧m=n.entries.length - j∧acc++Ep name ino dn (n.entries.drop j)=CP n.entries name ino∧acc.length≤2 * j∧t=⟨look [(2, .v (.string name)),(3, .v (.int .i64 ino)),(4, .bp 2 0),(5, .bp 3 0),(8, .bp 4 0),(9, .sl 2 (acc.map CG) (some 0)),(10, .v (.bool dn)),(11, .v (.int .i64 (j:Int)))],⟨[DB f q d 1 cap cap1,NB d.nodes cap1,[.bs 0 0 2 f.length cap],AF a,Ap n],[(234,2,acc.map CG)]⟩⟩) (n.entries.length) (C4 5 1 (by simp[BK,BB,BA,Bl,Bm,AF,Ap])) (⟨0,[],_,BR _,rfl,rfl,by simp,rfl⟩) ?_;rintro m t ⟨j,acc,dn,hj,rfl,hacc,hal,rfl⟩;refine q_ (w_ (m_ (h:=f_ (h:=l_ (h:=n_ (h:=B4 (h:=e_ (?_))))))));refine A9 rfl (fun hb1=>?_) (fun hb1=>?_)
 ·have hc1:=bp hb1;obtain⟨hlt,e,hy,hrow, -⟩:=Bt CG hc1;refine AD (q_ (Ab (q_ (w_ (m_ (h:=B7 (h:=m_ (h:=?_))))))));refine AT true rfl rfl (fun hb2=>?_) (fun hb2=>?_)
  ·have hc2:=bp hb2;have hdn:=hc2;refine f_ (h:=l_ (h:=m_ (h:=i_ (h:=f_ (h:=l_ (h:=m_ (h:=Cm (h:=AA (h:=e_ (?_))))))))));refine A9 rfl (fun hb3=>?_) (fun hb3=>?_)
   ·have hc3:=bp hb3;have hsl:EG e.1 name=false:=hc3;refine w_ (m_ (h:=m_ (h:=m_ (h:=AX (h:=BX (h:=Dm (h:=a_ (h:=e_ (AR (a_ (h:=e_ (w_ (f_ (h:=l_ (h:=m_ (h:=i_ (h:=f_ (h:=l_ (h:=m_ (h:=Ao (h:=e_ (?_))))))))))))))))))))));refine A9 rfl (fun hb4=>?_) (fun hb4=>?_)
    ·have hc4:=bp hb4;have hnm:¬e.1=name:=hc4;refine AR (m_ (h:=f_ (h:=l_ (h:=m_ (h:=i_ (h:=l_ (h:=BX (h:=Dm (h:=a_ (h:=AP (Ai (t_ (AR (m_ (h:=B8 (h:=a_ (h:=AP (?_))))))))))))))))));refine AJ ?_
     first|(exact⟨n.entries.length - (j+1),_,by omega,⟨j+1,acc++[(name,ino)]++[e],true,by omega,rfl,(by rw[←hacc,DK hy];first|(simp only[hsl,hdn];simp[hnm];done)|(simp only[hdn];simp[hnm];done)),(by(try simp);omega),rfl⟩,(by(try simp only[List.map_append,List.map_cons,List.map_nil]);exact C4 5 1 (by simp[BK,BB,BA,Bl,Bm,AF,Ap]))⟩)|(exact⟨n.entries.length - (j+1),_,by omega,⟨j+1,acc++[(name,ino)],true,by omega,rfl,(by rw[←hacc,DK hy];first|(simp only[hsl,hdn];simp[hnm];done)|(simp only[hdn];simp[hnm];done)),(by(try simp);omega),rfl⟩,(by(try simp only[List.map_append,List.map_cons,List.map_nil]);exact C4 5 1 (by simp[BK,BB,BA,Bl,Bm,AF,Ap]))⟩)|(exact⟨n.entries.length - (j+1),_,by omega,⟨j+1,acc++[e],dn,by omega,rfl,(by rw[←hacc,DK hy];first|(simp only[hsl,hdn];simp[hnm];done)|(simp only[hdn];simp[hnm];done)),(by(try simp);omega),rfl⟩,(by(try simp only[List.map_append,List.map_cons,List.map_nil]);exact C4 5 1 (by simp[BK,BB,BA,Bl,Bm,AF,Ap]))⟩)|(exact⟨n.entries.length - (j+1),_,by omega,⟨j+1,acc,dn,by omega,rfl,(by rw[←hacc,DK hy];first|(simp only[hsl,hdn];simp[hnm];done)|(simp only[hdn];simp[hnm];done)),(by(try simp);omega),rfl⟩,(by(try simp only[List.map_append,List.map_cons,List.map_nil]);exact C4 5 1 (by simp[BK,BB,BA,Bl,Bm,AF,Ap]))⟩)
    have hc4:=bp hb4;have hnm:e.1=name:=hc4;refine Aq (Ai (t_ (AR (m_ (h:=B8 (h:=a_ (h:=AP (?_))))))));refine AJ ?_
    first|(exact⟨n.entries.length - (j+1),_,by omega,⟨j+1,acc++[(name,ino)]++[e],true,by omega,rfl,(by rw[←hacc,DK hy];first|(simp only[hsl,hdn];simp[hnm];done)|(simp only[hdn];simp[hnm];done)),(by(try simp);omega),rfl⟩,(by(try simp only[List.map_append,List.map_cons,List.map_nil]);exact C4 5 1 (by simp[BK,BB,BA,Bl,Bm,AF,Ap]))⟩)|(exact⟨n.entries.length - (j+1),_,by omega,⟨j+1,acc++[(name,ino)],true,by omega,rfl,(by rw[←hacc,DK hy];first|(simp only[hsl,hdn];simp[hnm];done)|(simp only[hdn];simp[hnm];done)),(by(try simp);omega),rfl⟩,(by(try simp only[List.map_append,List.map_cons,List.map_nil]);exact C4 5 1 (by simp[BK,BB,BA,Bl,Bm,AF,Ap]))⟩)|(exact⟨n.entries.length - (j+1),_,by omega,⟨j+1,acc++[e],dn,by omega,rfl,(by rw[←hacc,DK hy];first|(simp only[hsl,hdn];simp[hnm];done)|(simp only[hdn];simp[hnm];done)),(by(try simp);omega),rfl⟩,(by(try simp only[List.map_append,List.map_cons,List.map_nil]);exact C4 5 1 (by simp[BK,BB,BA,Bl,Bm,AF,Ap]))⟩)|(exact⟨n.entries.length - (j+1),_,by omega,⟨j+1,acc,dn,by omega,rfl,(by rw[←hacc,DK hy];first|(simp only[hsl,hdn];simp[hnm];done)|(simp only[hdn];simp[hnm];done)),(by(try simp);omega),rfl⟩,(by(try simp only[List.map_append,List.map_cons,List.map_nil]);exact C4 5 1 (by simp[BK,BB,BA,Bl,Bm,AF,Ap]))⟩)
   have hc3:=bp hb3;have hsl:EG e.1 name=true:=hc3;refine AD (w_ (f_ (h:=l_ (h:=m_ (h:=i_ (h:=f_ (h:=l_ (h:=m_ (h:=Ao (h:=e_ (?_)))))))))));refine A9 rfl (fun hb5=>?_) (fun hb5=>?_)
   ·have hc5:=bp hb5;have hnm:¬e.1=name:=hc5;refine AR (m_ (h:=f_ (h:=l_ (h:=m_ (h:=i_ (h:=l_ (h:=BX (h:=Dm (h:=a_ (h:=AP (Ai (t_ (AR (m_ (h:=B8 (h:=a_ (h:=AP (?_))))))))))))))))));refine AJ ?_
    first|(exact⟨n.entries.length - (j+1),_,by omega,⟨j+1,acc++[(name,ino)]++[e],true,by omega,rfl,(by rw[←hacc,DK hy];first|(simp only[hsl,hdn];simp[hnm];done)|(simp only[hdn];simp[hnm];done)),(by(try simp);omega),rfl⟩,(by(try simp only[List.map_append,List.map_cons,List.map_nil]);exact C4 5 1 (by simp[BK,BB,BA,Bl,Bm,AF,Ap]))⟩)|(exact⟨n.entries.length - (j+1),_,by omega,⟨j+1,acc++[(name,ino)],true,by omega,rfl,(by rw[←hacc,DK hy];first|(simp only[hsl,hdn];simp[hnm];done)|(simp only[hdn];simp[hnm];done)),(by(try simp);omega),rfl⟩,(by(try simp only[List.map_append,List.map_cons,List.map_nil]);exact C4 5 1 (by simp[BK,BB,BA,Bl,Bm,AF,Ap]))⟩)|(exact⟨n.entries.length - (j+1),_,by omega,⟨j+1,acc++[e],dn,by omega,rfl,(by rw[←hacc,DK hy];first|(simp only[hsl,hdn];simp[hnm];done)|(simp only[hdn];simp[hnm];done)),(by(try simp);omega),rfl⟩,(by(try simp only[List.map_append,List.map_cons,List.map_nil]);exact C4 5 1 (by simp[BK,BB,BA,Bl,Bm,AF,Ap]))⟩)|(exact⟨n.entries.length - (j+1),_,by omega,⟨j+1,acc,dn,by omega,rfl,(by rw[←hacc,DK hy];first|(simp only[hsl,hdn];simp[hnm];done)|(simp only[hdn];simp[hnm];done)),(by(try simp);omega),rfl⟩,(by(try simp only[List.map_append,List.map_cons,List.map_nil]);exact C4 5 1 (by simp[BK,BB,BA,Bl,Bm,AF,Ap]))⟩)
   have hc5:=bp hb5;have hnm:e.1=name:=hc5;refine Aq (Ai (t_ (AR (m_ (h:=B8 (h:=a_ (h:=AP (?_))))))));refine AJ ?_
   first|(exact⟨n.entries.length - (j+1),_,by omega,⟨j+1,acc++[(name,ino)]++[e],true,by omega,rfl,(by rw[←hacc,DK hy];first|(simp only[hsl,hdn];simp[hnm];done)|(simp only[hdn];simp[hnm];done)),(by(try simp);omega),rfl⟩,(by(try simp only[List.map_append,List.map_cons,List.map_nil]);exact C4 5 1 (by simp[BK,BB,BA,Bl,Bm,AF,Ap]))⟩)|(exact⟨n.entries.length - (j+1),_,by omega,⟨j+1,acc++[(name,ino)],true,by omega,rfl,(by rw[←hacc,DK hy];first|(simp only[hsl,hdn];simp[hnm];done)|(simp only[hdn];simp[hnm];done)),(by(try simp);omega),rfl⟩,(by(try simp only[List.map_append,List.map_cons,List.map_nil]);exact C4 5 1 (by simp[BK,BB,BA,Bl,Bm,AF,Ap]))⟩)|(exact⟨n.entries.length - (j+1),_,by omega,⟨j+1,acc++[e],dn,by omega,rfl,(by rw[←hacc,DK hy];first|(simp only[hsl,hdn];simp[hnm];done)|(simp only[hdn];simp[hnm];done)),(by(try simp);omega),rfl⟩,(by(try simp only[List.map_append,List.map_cons,List.map_nil]);exact C4 5 1 (by simp[BK,BB,BA,Bl,Bm,AF,Ap]))⟩)|(exact⟨n.entries.length - (j+1),_,by omega,⟨j+1,acc,dn,by omega,rfl,(by rw[←hacc,DK hy];first|(simp only[hsl,hdn];simp[hnm];done)|(simp only[hdn];simp[hnm];done)),(by(try simp);omega),rfl⟩,(by(try simp only[List.map_append,List.map_cons,List.map_nil]);exact C4 5 1 (by simp[BK,BB,BA,Bl,Bm,AF,Ap]))⟩)
  have hc2:=bp hb2;have hdn:=hc2;refine A3 (h:=A3 (h:=A3 (h:=A3 (h:=A3 (h:=A3 (h:=A3 (h:=A3 (h:=AE (h:=e_ (Bj (h:=AD (w_ (f_ (h:=l_ (h:=m_ (h:=i_ (h:=f_ (h:=l_ (h:=m_ (h:=Ao (h:=e_ (?_))))))))))))))))))))));refine A9 rfl (fun hb6=>?_) (fun hb6=>?_)
  ·have hc6:=bp hb6;have hnm:¬e.1=name:=hc6;refine AR (m_ (h:=f_ (h:=l_ (h:=m_ (h:=i_ (h:=l_ (h:=BX (h:=Dm (h:=a_ (h:=AP (Ai (t_ (AR (m_ (h:=B8 (h:=a_ (h:=AP (?_))))))))))))))))));refine AJ ?_
   first|(exact⟨n.entries.length - (j+1),_,by omega,⟨j+1,acc++[(name,ino)]++[e],true,by omega,rfl,(by rw[←hacc,DK hy];first|(simp only[hsl,hdn];simp[hnm];done)|(simp only[hdn];simp[hnm];done)),(by(try simp);omega),rfl⟩,(by(try simp only[List.map_append,List.map_cons,List.map_nil]);exact C4 5 1 (by simp[BK,BB,BA,Bl,Bm,AF,Ap]))⟩)|(exact⟨n.entries.length - (j+1),_,by omega,⟨j+1,acc++[(name,ino)],true,by omega,rfl,(by rw[←hacc,DK hy];first|(simp only[hsl,hdn];simp[hnm];done)|(simp only[hdn];simp[hnm];done)),(by(try simp);omega),rfl⟩,(by(try simp only[List.map_append,List.map_cons,List.map_nil]);exact C4 5 1 (by simp[BK,BB,BA,Bl,Bm,AF,Ap]))⟩)|(exact⟨n.entries.length - (j+1),_,by omega,⟨j+1,acc++[e],dn,by omega,rfl,(by rw[←hacc,DK hy];first|(simp only[hsl,hdn];simp[hnm];done)|(simp only[hdn];simp[hnm];done)),(by(try simp);omega),rfl⟩,(by(try simp only[List.map_append,List.map_cons,List.map_nil]);exact C4 5 1 (by simp[BK,BB,BA,Bl,Bm,AF,Ap]))⟩)|(exact⟨n.entries.length - (j+1),_,by omega,⟨j+1,acc,dn,by omega,rfl,(by rw[←hacc,DK hy];first|(simp only[hsl,hdn];simp[hnm];done)|(simp only[hdn];simp[hnm];done)),(by(try simp);omega),rfl⟩,(by(try simp only[List.map_append,List.map_cons,List.map_nil]);exact C4 5 1 (by simp[BK,BB,BA,Bl,Bm,AF,Ap]))⟩)
  have hc6:=bp hb6;have hnm:e.1=name:=hc6;refine Aq (Ai (t_ (AR (m_ (h:=B8 (h:=a_ (h:=AP (?_))))))));refine AJ ?_
  first|(exact⟨n.entries.length - (j+1),_,by omega,⟨j+1,acc++[(name,ino)]++[e],true,by omega,rfl,(by rw[←hacc,DK hy];first|(simp only[hsl,hdn];simp[hnm];done)|(simp only[hdn];simp[hnm];done)),(by(try simp);omega),rfl⟩,(by(try simp only[List.map_append,List.map_cons,List.map_nil]);exact C4 5 1 (by simp[BK,BB,BA,Bl,Bm,AF,Ap]))⟩)|(exact⟨n.entries.length - (j+1),_,by omega,⟨j+1,acc++[(name,ino)],true,by omega,rfl,(by rw[←hacc,DK hy];first|(simp only[hsl,hdn];simp[hnm];done)|(simp only[hdn];simp[hnm];done)),(by(try simp);omega),rfl⟩,(by(try simp only[List.map_append,List.map_cons,List.map_nil]);exact C4 5 1 (by simp[BK,BB,BA,Bl,Bm,AF,Ap]))⟩)|(exact⟨n.entries.length - (j+1),_,by omega,⟨j+1,acc++[e],dn,by omega,rfl,(by rw[←hacc,DK hy];first|(simp only[hsl,hdn];simp[hnm];done)|(simp only[hdn];simp[hnm];done)),(by(try simp);omega),rfl⟩,(by(try simp only[List.map_append,List.map_cons,List.map_nil]);exact C4 5 1 (by simp[BK,BB,BA,Bl,Bm,AF,Ap]))⟩)|(exact⟨n.entries.length - (j+1),_,by omega,⟨j+1,acc,dn,by omega,rfl,(by rw[←hacc,DK hy];first|(simp only[hsl,hdn];simp[hnm];done)|(simp only[hdn];simp[hnm];done)),(by(try simp);omega),rfl⟩,(by(try simp only[List.map_append,List.map_cons,List.map_nil]);exact C4 5 1 (by simp[BK,BB,BA,Bl,Bm,AF,Ap]))⟩)
 have hc1:=bp hb1;have e:=C9 CG hj hc1;subst e;rw[List.drop_length]at hacc;refine BF (Ah (Ah (BG (t_ (q_ (w_ (m_ (h:=B7 (h:=e_ (?_))))))))));refine A9 rfl (fun hb7=>?_) (fun hb7=>?_)
 ·have hc7:=bp hb7;have hdn:dn=false:=hc7;have ea:acc++[(name,ino)]=CP n.entries name ino:=by rw[←hacc,hdn];rfl
  refine AR (m_ (h:=m_ (h:=m_ (h:=AX (h:=BX (h:=Dm (h:=a_ (h:=e_ (C3 ([(0,DB f q d 1 cap cap1),(2,[.bs 0 0 2 f.length cap]),(3,AF a),(4,Ap n)]) 14 (h:=Aw 0 (h:=?_)))))))))))
  first|refine AO 1 (h:=?_)|refine BN 1 rfl (fun _ hS=>Be (row:=DB f q d 1 cap cap1) rfl (kb hS rfl) hD0 ⟨rfl,rfl⟩) ?_
  refine Aw 2 (h:=?_)
  first|refine AO 3 (h:=?_)|refine BN 3 rfl (fun _ hS=>Be (row:=DB f q d 1 cap cap1) rfl (kb hS rfl) hD0 ⟨rfl,rfl⟩) ?_
  refine BN 4 rfl (fun _ hS=>DQ (m:=q) rfl rfl ha hql ⟨rfl,rfl⟩) ?_;refine Aw 5 (h:=?_)
  first|refine AO 6 (h:=?_)|refine BN 6 rfl (fun _ hS=>Be (row:=DB f q d 1 cap cap1) rfl (kb hS rfl) hD0 ⟨rfl,rfl⟩) ?_
  first|refine AO 7 (h:=?_)|refine BN 7 rfl (fun _ hS=>Be (row:=DB f q d 1 cap cap1) rfl (kb hS rfl) hD0 ⟨rfl,rfl⟩) ?_
  first|refine AO 8 (h:=?_)|refine BN 8 rfl (fun _ hS=>Be (row:=DB f q d 1 cap cap1) rfl (kb hS rfl) hD0 ⟨rfl,rfl⟩) ?_
  refine BN 10 rfl (fun _ hS=>GG (y:= .sl 2 ((CP n.entries name ino).map CG) none) (EK rfl ⟨rfl,rfl⟩) (by rw[←ea];(try simp only[List.map_append,List.map_cons,List.map_nil]);exact LeA.tok _ _ _) ⟨rfl,rfl⟩) ?_;refine c_ 9 rfl (Fr 2 rfl (.cons _ _ _ _ _ rfl (LeA.of_eq (Ht hq hcap hcap1 (BR _) (BR _) rfl rfl)) (.cons _ _ _ _ _ rfl (AZ _) .nil)) (Hl f a hf) ?_);rintro r rfl;refine⟨rfl,?_⟩;refine o_ (h:=?_);refine BN 11 rfl (fun _ hS=>DQ (m:=i) rfl rfl hi hil ⟨rfl,rfl⟩) ?_;refine Aw 12 (h:=?_);refine Bd 13 rfl (BY rfl rfl rfl rfl rfl rfl hset (by repeat constructor) ?_);refine o_ (h:=z_ (h:=?_));refine Oa (r:= .tup []) none (h4:=(by simp[BK,Bl,Bm])) (h5:=(AZ _)) (h6:=⟨rfl,rfl,rfl⟩)
 have hc7:=bp hb7;have hdn:dn=true:=hc7;have ea:acc=CP n.entries name ino:=by rw[←hacc,hdn];simp[Ep]
 refine AD (C3 ([(0,DB f q d 1 cap cap1),(2,[.bs 0 0 2 f.length cap]),(3,AF a),(4,Ap n)]) 14 (h:=Aw 0 (h:=?_)))
 first|refine AO 1 (h:=?_)|refine BN 1 rfl (fun _ hS=>Be (row:=DB f q d 1 cap cap1) rfl (kb hS rfl) hD0 ⟨rfl,rfl⟩) ?_
 refine Aw 2 (h:=?_)
 first|refine AO 3 (h:=?_)|refine BN 3 rfl (fun _ hS=>Be (row:=DB f q d 1 cap cap1) rfl (kb hS rfl) hD0 ⟨rfl,rfl⟩) ?_
 refine BN 4 rfl (fun _ hS=>DQ (m:=q) rfl rfl ha hql ⟨rfl,rfl⟩) ?_;refine Aw 5 (h:=?_)
 first|refine AO 6 (h:=?_)|refine BN 6 rfl (fun _ hS=>Be (row:=DB f q d 1 cap cap1) rfl (kb hS rfl) hD0 ⟨rfl,rfl⟩) ?_
 first|refine AO 7 (h:=?_)|refine BN 7 rfl (fun _ hS=>Be (row:=DB f q d 1 cap cap1) rfl (kb hS rfl) hD0 ⟨rfl,rfl⟩) ?_
 first|refine AO 8 (h:=?_)|refine BN 8 rfl (fun _ hS=>Be (row:=DB f q d 1 cap cap1) rfl (kb hS rfl) hD0 ⟨rfl,rfl⟩) ?_
 refine BN 10 rfl (fun _ hS=>GG (y:= .sl 2 ((CP n.entries name ino).map CG) none) (EK rfl ⟨rfl,rfl⟩) (by rw[←ea];(try simp only[List.map_append,List.map_cons,List.map_nil]);exact LeA.tok _ _ _) ⟨rfl,rfl⟩) ?_;refine c_ 9 rfl (Fr 2 rfl (.cons _ _ _ _ _ rfl (LeA.of_eq (Ht hq hcap hcap1 (BR _) (BR _) rfl rfl)) (.cons _ _ _ _ _ rfl (AZ _) .nil)) (Hl f a hf) ?_);rintro r rfl;refine⟨rfl,?_⟩;refine o_ (h:=?_);refine BN 11 rfl (fun _ hS=>DQ (m:=i) rfl rfl hi hil ⟨rfl,rfl⟩) ?_;refine Aw 12 (h:=?_);refine Bd 13 rfl (BY rfl rfl rfl rfl rfl rfl hset (by repeat constructor) ?_);refine o_ (h:=z_ (h:=?_));refine Oa (r:= .tup []) none (h4:=(by simp[BK,Bl,Bm])) (h5:=(AZ _)) (h6:=⟨rfl,rfl,rfl⟩)
end
theorem N3{h:AH}{sz:Nat}{r:List AV}{tok:Option Nat}:SrcA h sz (.sl sz [r] tok) 1 r:=by
 have:=SrcA.sl (h:=h) (sz:=sz) [r] tok
 simpa using this
theorem Xt(n:Nod)(cap:Nat):Ap n++List.replicate ((cap - 1) * 8) .any=NB [n] cap:=by
 unfold NB CC;simp
theorem Sm(acc:List Nod)(n:Nod)(cap0 cap:Nat):((NB acc cap0).drop 0).take (acc.length * 8)++Ap n++List.replicate ((cap - (acc.length+1)) * 8) .any=NB (acc++[n]) cap:=by
 unfold NB;rw[Wq (Hq acc) (by simp),List.map_append];rfl
theorem Sn{acc:List Nod}{n:Nod}{cap:Nat}{row:List AV}(hs:SetAt (NB acc cap) (0+acc.length * 8) (Ap n) row)(hc:acc.length+1≤cap):row=NB (acc++[n]) cap:=by
 have key:=Wp (rows:=acc.map Ap) (sz:=8) (cap:=cap) (r:=Ap n) (row':=row) (Hq acc) rfl (by omega) (by simpa using hc) (by rw[List.length_map];exact hs);rw[key];unfold NB;rw[List.map_append];rfl
theorem PS{is:List Nat}:∀i,i<2→(0::1::is)[i]?=some i:=by
 intro i hi
 match i,hi with
 |0,_=>rfl
 |1,_=>rfl
theorem So{ns:List Nod}{j:Nat}{n:Nod}(h:ns[j]?=some n)(ino:Int):CW ino (ns.take (j+1))=CW ino (ns.take j)++(if n.ino=ino then[]else[n]):=by
 unfold CW;rw[List.take_add_one,h,List.filter_append];by_cases e:n.ino=ino<;>simp[e]
section
theorem Xu(f:Af)(q:Nat)(d:Dvc)(a:AG)(cap cap1:Nat)(hf:FlsB f)(hq:f[q]?=some d)(ha:a.1=(q:Int))(hcap:f.length≤cap)(hcap1:d.nodes.length≤cap1)(hne:0<(CW a.2 d.nodes).length):
    ACall prog 234 [.agg [.bs 0 0 2 f.length cap], .agg (AF a)] [DB f q d 1 cap cap1,NB d.nodes cap1] (fun r b t=>t=[]∧r= .tup []∧((0<Fb f a∧b=[DB f q d 1 cap cap1,NB d.nodes cap1,[.bs 0 0 2 f.length cap],AF a])∨(Fb f a=0∧∃cap2,(CW a.2 d.nodes).length≤cap2∧b=[DB f q {d with nodes:=CW a.2 d.nodes} 4 cap cap2,NB d.nodes cap1,[.bs 0 0 2 f.length cap],AF a,NB (CW a.2 d.nodes) cap2]))):=by
 have hql:=(Al.1 hq).1;have hdn:=hf.nodes d (B1 hq);have hD0:(DB f q d 1 cap cap1)[0+q * 2+1]?=some (.bs 1 0 8 d.nodes.length cap1):=GP hql;have hset:∀(acc:List Nod) (cap2:Nat),SetAt (DB f q d 1 cap cap1) (0+q * 2+1) [.bs 4 0 8 acc.length cap2] (DB f q {d with nodes:=acc} 4 cap cap2):=fun acc cap2=>PJ hql (by repeat constructor) (by simp);refine enter Tryz.func234 rfl rfl rfl rfl rfl 5 rfl ?_;refine w_ (b_ (h:=b_ (h:=e_ (q_ (w_ (l_ (h:=l_ (h:=?_))))))));refine A6 rfl (Fr 2 rfl (.cons _ _ _ _ _ rfl (LeA.of_eq (Ht hq hcap hcap1 (BR _) (BR _) rfl rfl)) (.cons _ _ _ _ _ rfl (AZ _) .nil)) (WQ f a hf) ?_);rintro r rfl;refine⟨rfl,?_⟩;refine Ba (h:=e_ (?_));refine A9 rfl (fun hb1=>?_) (fun hb1=>?_)
 ·have hc1:=bp hb1;have hl:0<Fb f a:=by omega
  refine A4 (A8 (?_));refine Av (r:= .tup []) none (h4:=(by simp[BK,BB,BA,Bl,Bm,AF])) (h5:=(AZ _)) (h6:=⟨rfl,rfl, .inl ⟨hl,rfl⟩⟩)
 have hc1:=bp hb1;have hl:Fb f a=0:=by omega
 refine AD (w_ (a_ (h:=e_ (w_ (f_ (h:=?_))))));refine A6 rfl (Be rfl rfl rfl ?_);refine f_ (h:=l_ (h:=?_));refine A6 rfl (DQ (m:=q) rfl rfl ha hql ?_);refine f_ (h:=?_);refine A6 rfl (Be rfl rfl hD0 ?_);refine a_ (h:=e_ (q_ (w_ (a_ (h:=e_ (Ab (?_)))))));refine BT (fun m t=>∃(j:Nat) (acc:List Nod),j≤d.nodes.length∧m=d.nodes.length - j∧CW a.2 (d.nodes.take j)=acc∧acc.length≤j∧((acc=[]∧t=⟨look [(2, .bp 2 0),(3, .bp 3 0),(4, .v (.slice none 0 0)),(5, .bs 1 0 8 d.nodes.length cap1),(6, .v (.int .i64 (j:Int)))],⟨[DB f q d 1 cap cap1,NB d.nodes cap1,[.bs 0 0 2 f.length cap],AF a],[]⟩⟩)∨(∃cap2,acc.length≤cap2∧t=⟨look [(2, .bp 2 0),(3, .bp 3 0),(4, .bs 4 0 8 acc.length cap2),(5, .bs 1 0 8 d.nodes.length cap1),(6, .v (.int .i64 (j:Int)))],⟨[DB f q d 1 cap cap1,NB d.nodes cap1,[.bs 0 0 2 f.length cap],AF a,NB acc cap2],[]⟩⟩))) (d.nodes.length) (C4 4 0 (by simp[BK,BB,BA,Bl,Bm,AF,Ap])) (⟨0,[],BR _,rfl,rfl,B3 _, .inl ⟨rfl,rfl⟩⟩) ?_;rintro m t ⟨j,acc,hj,rfl,hacc,hal,⟨rfl,rfl⟩|⟨cap2,hcp,rfl⟩⟩
 ·skip
  refine q_ (w_ (m_ (h:=m_ (h:=?_))));refine A6 rfl (RN rfl ?_);refine B4 (h:=e_ (?_));refine A9 rfl (fun hb2=>?_) (fun hb2=>?_)
  ·have hc2:=bp hb2;have hlt:j<d.nodes.length:=by omega
   obtain⟨n,hy⟩:∃n,d.nodes[j]?=some n:=⟨_,BV hlt⟩;have hk:=So hy a.2;refine AD (q_ (Ab (q_ (Cj 8 (h:=Ac 0 (h:=Ac 1 (h:=?_)))))));refine Dw (i:=2) rfl (DQ (m:=j) rfl rfl rfl hlt ⟨rfl,rfl⟩) ?_;refine Aw 3 (h:=?_);refine Dw (i:=4) rfl (Be rfl rfl (SX hy rfl) ⟨rfl,rfl⟩) ?_;refine Aw 5 (h:=AO 6 (h:=Ks 7 (h:=z_ (h:=t_ (?_)))));refine A9 rfl (fun hb3=>?_) (fun hb3=>?_)
   ·have hc3:=bp hb3;rw[if_neg hc3]at hk;refine AR (m_ (h:=m_ (h:=m_ (h:=?_))));refine A6 rfl (DQ (m:=j) rfl rfl rfl hlt ?_);refine A6 rfl (DZ rfl rfl (by rw[LD hcap1];omega) (Gv hy) ?_);refine BX (h:=?_);refine A6 rfl (Vv rfl rfl N3 (by omega) (by omega) ?_);rintro cap2 k bx2 hcp hs;rw[show CJ (.agg (Ap n))++List.replicate ((cap2 - 1) * 8) AV.any=NB [n] cap2 from Xt n cap2]at hs;obtain⟨rfl,rfl⟩:k=4∧bx2=[_,_,_,_,_]:=hs.eq;refine a_ (h:=AP (Ai (t_ (AR (m_ (h:=B8 (h:=a_ (h:=AP (?_)))))))));refine AJ ?_
    first|exact⟨d.nodes.length - (j+1),_,by omega,⟨j+1,[n],by omega,rfl,(by rw[hk,hacc];rfl),by simp, .inr ⟨cap2,hcp,rfl⟩⟩,Ar 5 0 rfl rfl rfl (by simp[BK,BB,BA,Bl,Bm,AF,Ap]) ((by repeat (first|exact Sub.nil|refine As rfl rfl ?_|refine Ay ?_|refine Az rfl ?_|refine B0 rfl ?_)))⟩|exact⟨d.nodes.length - (j+1),_,by omega,⟨j+1,[],by omega,rfl,(by rw[hk,hacc]),by simp, .inl ⟨rfl,rfl⟩⟩,Ar 4 0 rfl rfl rfl (by simp[BK,BB,BA,Bl,Bm,AF,Ap]) ((by repeat (first|exact Sub.nil|refine As rfl rfl ?_|refine Ay ?_|refine Az rfl ?_|refine B0 rfl ?_)))⟩
   have hc3:=bp hb3;rw[if_pos hc3,List.append_nil]at hk;refine Aq (Ai (t_ (AR (m_ (h:=B8 (h:=a_ (h:=AP (?_))))))));refine AJ ?_
   first|exact⟨d.nodes.length - (j+1),_,by omega,⟨j+1,[n],by omega,rfl,(by rw[hk,hacc];rfl),by simp, .inr ⟨cap2,hcp,rfl⟩⟩,Ar 5 0 rfl rfl rfl (by simp[BK,BB,BA,Bl,Bm,AF,Ap]) ((by repeat (first|exact Sub.nil|refine As rfl rfl ?_|refine Ay ?_|refine Az rfl ?_|refine B0 rfl ?_)))⟩|exact⟨d.nodes.length - (j+1),_,by omega,⟨j+1,[],by omega,rfl,(by rw[hk,hacc]),by simp, .inl ⟨rfl,rfl⟩⟩,Ar 4 0 rfl rfl rfl (by simp[BK,BB,BA,Bl,Bm,AF,Ap]) ((by repeat (first|exact Sub.nil|refine As rfl rfl ?_|refine Ay ?_|refine Az rfl ?_|refine B0 rfl ?_)))⟩
  have hc2:=bp hb2;exfalso;obtain rfl:j=d.nodes.length:=by omega
  rw[List.take_length]at hacc;rw[hacc]at hne;exact absurd hne (by simp)
 skip
 refine q_ (w_ (m_ (h:=m_ (h:=?_))));refine A6 rfl (RN rfl ?_);refine B4 (h:=e_ (?_));refine A9 rfl (fun hb4=>?_) (fun hb4=>?_)
 ·have hc4:=bp hb4;have hlt:j<d.nodes.length:=by omega
  obtain⟨n,hy⟩:∃n,d.nodes[j]?=some n:=⟨_,BV hlt⟩;have hk:=So hy a.2;refine AD (q_ (Ab (q_ (Cj 8 (h:=Ac 0 (h:=Ac 1 (h:=?_)))))));refine Dw (i:=2) rfl (DQ (m:=j) rfl rfl rfl hlt ⟨rfl,rfl⟩) ?_;refine Aw 3 (h:=?_);refine Dw (i:=4) rfl (Be rfl rfl (SX hy rfl) ⟨rfl,rfl⟩) ?_;refine Aw 5 (h:=AO 6 (h:=Ks 7 (h:=z_ (h:=t_ (?_)))));refine A9 rfl (fun hb5=>?_) (fun hb5=>?_)
  ·have hc5:=bp hb5;rw[if_neg hc5]at hk;refine AR (m_ (h:=m_ (h:=m_ (h:=?_))));refine A6 rfl (DQ (m:=j) rfl rfl rfl hlt ?_);refine A6 rfl (DZ rfl rfl (by rw[LD hcap1];omega) (Gv hy) ?_);refine BX (h:=?_);refine A6 rfl (OU rfl rfl rfl (by rw[LD hcp];omega) N3 (by omega) (by omega) ?_ ?_)
   ·rintro hg row2 bx2 hs hb;obtain rfl:=Sn hs hg;obtain rfl:bx2=[_,_,_,_,_]:=hb.one.2;refine a_ (h:=AP (Ai (t_ (AR (m_ (h:=B8 (h:=a_ (h:=AP (?_)))))))));refine AJ ?_
    first|exact⟨d.nodes.length - (j+1),_,by omega,⟨j+1,acc++[n],by omega,rfl,(by rw[hk,hacc]),by simp;omega, .inr ⟨cap2,by simpa using hg,by rw[List.length_append];rfl⟩⟩,Ar 5 0 rfl rfl rfl (by simp[BK,BB,BA,Bl,Bm,AF,Ap]) ((by repeat (first|exact Sub.nil|refine As rfl rfl ?_|refine Ay ?_|refine Az rfl ?_|refine B0 rfl ?_)))⟩|exact⟨d.nodes.length - (j+1),_,by omega,⟨j+1,acc++[n],by omega,rfl,(by rw[hk,hacc]),by simp;omega, .inr ⟨cap3,by simpa using hcp3,by rw[List.length_append];rfl⟩⟩,Hg [0,1,2,3,5] PS (by decide) (.cons _ _ _ _ _ rfl (Hs (by rfl) _ _ _ _ _) (.cons _ _ _ _ _ rfl (Fu _ _ _) (.cons _ _ _ _ _ rfl rfl (.cons _ _ _ _ _ rfl rfl (.cons _ _ _ _ _ rfl (Fu _ _ _) .nil))))) (by repeat (first|exact SubK.nil|refine SubK.cons _ _ _ _ rfl (AZ _) ?_))⟩|exact⟨d.nodes.length - (j+1),_,by omega,⟨j+1,acc,by omega,rfl,(by rw[hk,hacc]),by omega, .inr ⟨cap2,hcp,rfl⟩⟩,Ar 5 0 rfl rfl rfl (by simp[BK,BB,BA,Bl,Bm,AF,Ap]) ((by repeat (first|exact Sub.nil|refine As rfl rfl ?_|refine Ay ?_|refine Az rfl ?_|refine B0 rfl ?_)))⟩
   rintro hg cap3 k bx2 hcp3 hs;rw[show((NB acc cap2).drop 0).take (acc.length * 8)++CJ (.agg (Ap n))++List.replicate ((cap3 - (acc.length+1)) * 8) AV.any=NB (acc++[n]) cap3 from Sm acc n cap2 cap3]at hs;obtain⟨rfl,rfl⟩:k=5∧bx2=[_,_,_,_,_,_]:=hs.eq;refine a_ (h:=AP (Ai (t_ (AR (m_ (h:=B8 (h:=a_ (h:=AP (?_)))))))));refine AJ ?_
   first|exact⟨d.nodes.length - (j+1),_,by omega,⟨j+1,acc++[n],by omega,rfl,(by rw[hk,hacc]),by simp;omega, .inr ⟨cap2,by simpa using hg,by rw[List.length_append];rfl⟩⟩,Ar 5 0 rfl rfl rfl (by simp[BK,BB,BA,Bl,Bm,AF,Ap]) ((by repeat (first|exact Sub.nil|refine As rfl rfl ?_|refine Ay ?_|refine Az rfl ?_|refine B0 rfl ?_)))⟩|exact⟨d.nodes.length - (j+1),_,by omega,⟨j+1,acc++[n],by omega,rfl,(by rw[hk,hacc]),by simp;omega, .inr ⟨cap3,by simpa using hcp3,by rw[List.length_append];rfl⟩⟩,Hg [0,1,2,3,5] PS (by decide) (.cons _ _ _ _ _ rfl (Hs (by rfl) _ _ _ _ _) (.cons _ _ _ _ _ rfl (Fu _ _ _) (.cons _ _ _ _ _ rfl rfl (.cons _ _ _ _ _ rfl rfl (.cons _ _ _ _ _ rfl (Fu _ _ _) .nil))))) (by repeat (first|exact SubK.nil|refine SubK.cons _ _ _ _ rfl (AZ _) ?_))⟩|exact⟨d.nodes.length - (j+1),_,by omega,⟨j+1,acc,by omega,rfl,(by rw[hk,hacc]),by omega, .inr ⟨cap2,hcp,rfl⟩⟩,Ar 5 0 rfl rfl rfl (by simp[BK,BB,BA,Bl,Bm,AF,Ap]) ((by repeat (first|exact Sub.nil|refine As rfl rfl ?_|refine Ay ?_|refine Az rfl ?_|refine B0 rfl ?_)))⟩
  have hc5:=bp hb5;rw[if_pos hc5,List.append_nil]at hk;refine Aq (Ai (t_ (AR (m_ (h:=B8 (h:=a_ (h:=AP (?_))))))));refine AJ ?_
  first|exact⟨d.nodes.length - (j+1),_,by omega,⟨j+1,acc++[n],by omega,rfl,(by rw[hk,hacc]),by simp;omega, .inr ⟨cap2,by simpa using hg,by rw[List.length_append];rfl⟩⟩,Ar 5 0 rfl rfl rfl (by simp[BK,BB,BA,Bl,Bm,AF,Ap]) ((by repeat (first|exact Sub.nil|refine As rfl rfl ?_|refine Ay ?_|refine Az rfl ?_|refine B0 rfl ?_)))⟩|exact⟨d.nodes.length - (j+1),_,by omega,⟨j+1,acc++[n],by omega,rfl,(by rw[hk,hacc]),by simp;omega, .inr ⟨cap3,by simpa using hcp3,by rw[List.length_append];rfl⟩⟩,Hg [0,1,2,3,5] PS (by decide) (.cons _ _ _ _ _ rfl (Hs (by rfl) _ _ _ _ _) (.cons _ _ _ _ _ rfl (Fu _ _ _) (.cons _ _ _ _ _ rfl rfl (.cons _ _ _ _ _ rfl rfl (.cons _ _ _ _ _ rfl (Fu _ _ _) .nil))))) (by repeat (first|exact SubK.nil|refine SubK.cons _ _ _ _ rfl (AZ _) ?_))⟩|exact⟨d.nodes.length - (j+1),_,by omega,⟨j+1,acc,by omega,rfl,(by rw[hk,hacc]),by omega, .inr ⟨cap2,hcp,rfl⟩⟩,Ar 5 0 rfl rfl rfl (by simp[BK,BB,BA,Bl,Bm,AF,Ap]) ((by repeat (first|exact Sub.nil|refine As rfl rfl ?_|refine Ay ?_|refine Az rfl ?_|refine B0 rfl ?_)))⟩
 have hc4:=bp hb4;obtain rfl:j=d.nodes.length:=by omega
 rw[List.take_length]at hacc;refine BF (Ah (Ah (BG (t_ (AR (f_ (h:=?_)))))));refine A6 rfl (Be rfl rfl rfl ?_);refine f_ (h:=l_ (h:=m_ (h:=?_)));refine A6 rfl (DQ (m:=q) rfl rfl ha hql ?_);refine f_ (h:=?_);refine Ki (BY rfl rfl rfl rfl rfl rfl (hset _ _) (by repeat constructor) ?_);refine AP (?_);refine Oa (r:= .tup []) none (h4:=(by simp[BK,BB,BA,Bl,Bm,AF])) (h5:=(AZ _)) (h6:=⟨rfl,rfl, .inr ⟨hl,cap2,by rw[hacc];exact hcp,by rw[hacc];rfl⟩⟩)
end
end Go.Proofs.YtbgnigjfkbmceaaGreatDoor
namespace Go.Proofs.YtbgnigjfkbmceaaGreatDoor
theorem Sq:∀x:List UInt8,Op.bytesLess x x=false
 |[]=>rfl
 |a::x=>by simp[Op.bytesLess,Sq x]
theorem Sr:∀x y z:List UInt8,Op.bytesLess x y=true→Op.bytesLess y z=true→Op.bytesLess x z=true
 |_,[],_,h,_=>by cases ‹List UInt8›<;>simp[Op.bytesLess]at h
 |_,_::_,[],_,h=>by simp[Op.bytesLess]at h
 |[],_::_,_::_,_,_=>rfl
 |a::x,b::y,c::z,h,k=>by
   simp only[Op.bytesLess,Bool.or_eq_true,Bool.and_eq_true,decide_eq_true_iff,beq_iff_eq]at h k ⊢;rcases h with h|⟨rfl,h⟩
   ·rcases k with k|⟨rfl,k⟩
    ·exact .inl (UInt8.lt_trans h k)
    exact .inl h
   rcases k with k|⟨rfl,k⟩
   ·exact .inl k
   exact .inr ⟨rfl,Sr x y z h k⟩
theorem Ss:∀x y:List UInt8,Op.bytesLess x y=false→x≠y→Op.bytesLess y x=true
 |[],[],_,h=>absurd rfl h
 |[],_::_,h,_=>by simp[Op.bytesLess]at h
 |_::_,[],_,_=>rfl
 |a::x,b::y,h,k=>by
   simp only[Op.bytesLess,Bool.or_eq_false_iff,decide_eq_false_iff_not,Bool.and_eq_false_iff,beq_eq_false_iff_ne]at h;simp only[Op.bytesLess,Bool.or_eq_true,Bool.and_eq_true,decide_eq_true_iff,beq_iff_eq];by_cases e:a=b
   ·subst e;right;refine⟨rfl,Ss x y ?_ (fun e=>k (by rw[e]))⟩;rcases h.2 with h|h
    ·exact absurd rfl h
    exact h
   left;have h1:¬a.toNat<b.toNat:=h.1;have h2:a.toNat≠b.toNat:=fun e'=>e (UInt8.toNat_inj.1 e');show b.toNat<a.toNat;omega
theorem Xv(a:AM):EG a a=false:=Sq _
theorem Xw{a b c:AM}(h:EG a b=true)(k:EG b c=true):EG a c=true:=Sr _ _ _ h k
theorem Su{a b:AM}(h:EG a b=false)(k:a≠b):EG b a=true:=by
 refine Ss _ _ h fun e=>k ?_;have:=Mj a b;rw[e]at this
 simpa using this
theorem LM{a b:AM}(h:EG a b=true):a≠b:=by rintro rfl;rw[Xv]at h;cases h
def EQ(es:List BM):Prop:=es.Pairwise fun a b=>EG a.1 b.1=true
def Ds(name:AM)(es:List BM):List BM:=es.filter fun e=>decide (e.1≠name)
theorem LN(name:AM)(ino:Int):∀es:List BM,Ep name ino true es=Ds name es
 |[]=>rfl
 |e::r=>by
   unfold Ep;simp only[Bool.not_true,Bool.false_and,Bool.true_or];rw[LN name ino r];unfold Ds;rw[List.filter_cons];by_cases h:e.1=name<;>simp[h]
theorem GQ(es:List BM)(name:AM):CP es name 0=Ds name es:=LN name 0 es
theorem PT(name:AM)(ino:Int):∀es:List BM,(Ep name ino false es).Perm ((name,ino)::Ds name es)
 |[]=>by simp[Ep,Ds]
 |e::r=>by
   unfold Ep;simp only[Bool.not_false,Bool.true_and,Bool.false_or]
   cases hlt:EG e.1 name with
   |false=>
     simp only[Bool.not_false,if_true];rw[LN name ino r];unfold Ds;rw[List.filter_cons];by_cases h:e.1=name<;>simp[h]
   |true=>
     have hne:=LM hlt;have ih:=PT name ino r;unfold Ds at ih ⊢;rw[List.filter_cons];simp only[Bool.not_true,Bool.false_eq_true,if_false,List.nil_append,hne,ne_eq,not_false_eq_true,decide_true,if_true];exact(List.Perm.cons e ih).trans (List.Perm.swap _ _ _)
theorem Gx(es:List BM)(name:AM){ino:Int}(h:ino≠0):(CP es name ino).Perm ((name,ino)::Ds name es):=by
 unfold CP;rw[show(ino==0)=false by simpa using h];exact PT name ino es
theorem PU{es:List BM}(h:EQ es)(name:AM):EQ (Ds name es):=List.Pairwise.filter _ h
theorem Sv(name:AM)(ino:Int):∀es:List BM,EQ es→EQ (Ep name ino false es)
 |[],_=>by simp[Ep,EQ]
 |e::r,h=>by
   obtain⟨h1,h2⟩:=List.pairwise_cons.1 h;unfold Ep;simp only[Bool.not_false,Bool.true_and,Bool.false_or]
   cases hlt:EG e.1 name with
   |false=>
     simp only[Bool.not_false,if_true];rw[LN name ino r]
     have hr:∀x∈Ds name r,EG name x.1=true:=fun x hx=>by
      obtain⟨hx1,_⟩:=List.mem_filter.1 hx;have h3:=h1 x hx1;by_cases he:e.1=name
      ·rw[←he];exact h3
      exact Xw (Su hlt he) h3
     by_cases he:e.1=name
     ·simp only[he,if_true,List.nil_append,List.cons_append];exact List.pairwise_cons.2 ⟨hr,PU h2 name⟩
     simp only[he,if_false,List.cons_append,List.nil_append];refine List.pairwise_cons.2 ⟨?_,List.pairwise_cons.2 ⟨fun x hx=>h1 x (List.mem_filter.1 hx).1,PU h2 name⟩⟩;intro x hx;rcases List.mem_cons.1 hx with rfl|hx
     ·exact Su hlt he
     exact hr x hx
   |true=>
     have hne:=LM hlt;simp only[Bool.not_true,Bool.false_eq_true,if_false,List.nil_append,hne,List.cons_append];refine List.pairwise_cons.2 ⟨fun x hx=>?_,Sv name ino r h2⟩;have hx':=(PT name ino r).mem_iff.1 hx;rcases List.mem_cons.1 hx' with rfl|hx'
     ·exact hlt
     exact h1 x (List.mem_filter.1 hx').1
theorem K4{es:List BM}(h:EQ es)(name:AM)(ino:Int):EQ (CP es name ino):=by
 unfold CP
 cases (ino==0)with
 |true=>rw[LN];exact PU h name
 |false=>exact Sv name ino es h
def Cx(es:List BM)(name:AM):Option BM:=es.find? fun e:BM=>decide (e.1=name)
theorem Fv{es:List BM}{name:AM}{e:BM}(h:Cx es name=some e):e∈es∧e.1=name:=by
 have h1:=List.find?_some h;exact⟨List.mem_of_find?_eq_some h,by simpa using h1⟩
theorem N4{es:List BM}{name:AM}(h:Cx es name=none):∀e∈es,e.1≠name:=fun e he=>by
 have:=List.find?_eq_none.1 h e he
 simpa using this
theorem N5{es:List BM}{name:AM}(h:Cx es name=none):Ds name es=es:=by
 unfold Ds;rw[List.filter_eq_self];intro e he
 simpa using N4 h e he
theorem N6{es:List BM}(hs:EQ es){name:AM}{e:BM}(h:Cx es name=some e):es.Perm (e::Ds name es):=by
 induction es with
 |nil=>simp[Cx]at h
 |cons x r ih=>
   obtain⟨h1,h2⟩:=List.pairwise_cons.1 hs;unfold Cx at h;rw[List.find?_cons]at h;unfold Ds;rw[List.filter_cons];by_cases hx:x.1=name
   ·simp only[hx,decide_true,Option.some.injEq]at h;subst h
    have:r.filter (fun e=>decide (e.1≠name))=r:=by
     rw[List.filter_eq_self];intro y hy;have:=LM (h1 y hy);simp only[ne_eq,decide_not,Bool.not_eq_true',decide_eq_false_iff_not];rw[←hx];exact fun e=>this e.symm
    rw[this];simp[hx]
   simp only[hx,decide_false]at h;have:=ih h2 h;simp only[ne_eq,hx,not_false_eq_true,decide_true,if_true];exact(List.Perm.cons x this).trans (List.Perm.swap _ _ _)
theorem N7{i:Int}{a b:List BM}(h:a.Perm b):CV i a=CV i b:=h.countP_eq _
theorem N8(i:Int)(e:BM)(es:List BM):CV i (e::es)=CV i es+(if e.2=i then 1 else 0):=by
 unfold CV;rw[List.countP_cons];by_cases h:e.2=i<;>simp[h]
theorem Sw{i:Int}{es:List BM}:0<CV i es↔∃e∈es,e.2=i:=by
 unfold CV;rw[List.countP_pos_iff];simp
theorem LO{i:Int}{ns:List Nod}:0<Bc i ns↔∃n∈ns,∃e∈n.entries,e.2=i:=by
 unfold Bc;rw[Sw];constructor
 ·rintro⟨e,he,h⟩;obtain⟨n,hn,he⟩:=List.mem_flatMap.1 he;exact⟨n,hn,e,he,h⟩
 rintro⟨n,hn,e,he,h⟩;exact⟨e,List.mem_flatMap.2 ⟨n,hn,he⟩,h⟩
theorem PV(i:Int)(a b:List Nod):Bc i (a++b)=Bc i a+Bc i b:=by
 unfold Bc CV;rw[List.flatMap_append,List.countP_append]
theorem K5(i:Int)(n:Nod)(b:List Nod):Bc i (n::b)=CV i n.entries+Bc i b:=by
 unfold Bc CV;rw[List.flatMap_cons,List.countP_append]
def CR(ns:List Nod)(ino:Int)(g:Nod→Nod):List Nod:=ns.map fun n=>if n.ino=ino then g n else n
def DS(ns:List Nod):Prop:=ns.Pairwise fun a b=>a.ino<b.ino
theorem Cy{ns:List Nod}(h:DS ns){a b:Nod}(ha:a∈ns)(hb:b∈ns)(e:a.ino=b.ino):a=b:=by
 induction ns with
 |nil=>cases ha
 |cons x r ih=>
   obtain⟨h1,h2⟩:=List.pairwise_cons.1 h;rcases List.mem_cons.1 ha with rfl|ha
   ·rcases List.mem_cons.1 hb with rfl|hb
    ·rfl
    have:=h1 b hb;omega
   rcases List.mem_cons.1 hb with hb|hb
   ·subst hb;have:=h1 a (by assumption);omega
   exact ih h2 (by assumption) hb
theorem Sx{ns:List Nod}(h:DS ns){n:Nod}(hn:n∈ns):∃A B,ns=A++n::B∧(∀m∈A,m.ino≠n.ino)∧∀m∈B,m.ino≠n.ino:=by
 obtain⟨A,B,rfl⟩:=List.append_of_mem hn;obtain⟨h1,h2,h3⟩:=List.pairwise_append.1 h;obtain⟨h4,_⟩:=List.pairwise_cons.1 h2;exact⟨A,B,rfl,fun m hm=>by have:=h3 m hm n (by simp);omega,fun m hm=>by have:=h4 m hm;omega⟩
theorem Xx{A B:List Nod}{n:Nod}(hA:∀m∈A,m.ino≠n.ino)(hB:∀m∈B,m.ino≠n.ino)(g:Nod→Nod):CR (A++n::B) n.ino g=A++g n::B:=by
 unfold CR;rw[List.map_append,List.map_cons,if_pos rfl]
 congr 1
 ·rw[List.map_congr_left (g:=id) fun m hm=>by simp[hA m hm]];simp
 congr 1
 rw[List.map_congr_left (g:=id) fun m hm=>by simp[hB m hm]];simp
theorem FF{ns:List Nod}{ino:Int}{g:Nod→Nod}{m:Nod}:m∈CR ns ino g↔∃n∈ns,m=if n.ino=ino then g n else n:=by
 unfold CR;rw[List.mem_map];constructor
 ·rintro⟨n,hn,rfl⟩;exact⟨n,hn,rfl⟩
 rintro⟨n,hn,rfl⟩;exact⟨n,hn,rfl⟩
theorem Xy{ns:List Nod}{ino:Int}{g:Nod→Nod}(hg:∀n,(g n).ino=n.ino):(CR ns ino g).map (·.ino)=ns.map (·.ino):=by
 unfold CR;rw[List.map_map];apply List.map_congr_left;intro n _;simp only[Function.comp];split
 ·exact hg n
 rfl
theorem PW{ns:List Nod}:DS ns↔(ns.map (·.ino)).Pairwise (· < ·):=by
 unfold DS;rw[List.pairwise_map]
theorem Sy{ns:List Nod}(h:DS ns)(ino:Int){g:Nod→Nod}(hg:∀n,(g n).ino=n.ino):DS (CR ns ino g):=by
 rw[PW]at h ⊢;rw[Xy hg];exact h
theorem PX{ns:List Nod}(h:DS ns){n:Nod}(hn:n∈ns)(g:Nod→Nod)(i:Int):Bc i (CR ns n.ino g)+CV i n.entries=Bc i ns+CV i (g n).entries:=by
 obtain⟨A,B,rfl,hA,hB⟩:=Sx h hn;rw[Xx hA hB];simp only[PV,K5];omega
end Go.Proofs.YtbgnigjfkbmceaaGreatDoor
namespace Go.Proofs.YtbgnigjfkbmceaaGreatDoor
structure VD(d:Dvc):Prop where
 len:d.nodes.length≤16
 next2:2≤d.next
 nextM:d.next≤1073741824
 root:∃r rest,d.nodes=r::rest∧r.ino=1∧r.kind=2∧r.parent=1
 asc:DS d.nodes
 lt:∀n∈d.nodes,n.ino<d.next
 plain:∀n∈d.nodes,EF n=true
 leaf:∀n∈d.nodes,n.kind≠2→n.parent=0∧n.entries=[]
 many:∀n∈d.nodes,n.entries.length≤12
 sorted:∀n∈d.nodes,EQ n.entries
 ent:∀n∈d.nodes,∀e∈n.entries,D4 e.1=true∧e.2≠1∧∃m∈d.nodes,m.ino=e.2
 link:∀n∈d.nodes,n.ino≠1→0<Bc n.ino d.nodes
 one:∀n∈d.nodes,n.ino≠1→n.kind=2→Bc n.ino d.nodes=1
 par:∀n∈d.nodes,n.ino≠1→n.kind=2→∃p∈d.nodes,p.ino=n.parent∧∃e∈p.entries,e.2=n.ino
 rank:∃rk:Int→Nat,∀n∈d.nodes,n.ino≠1→n.kind=2→rk n.parent<rk n.ino
theorem VD.pos{d:Dvc}(h:VD d){n:Nod}(hn:n∈d.nodes):1≤n.ino:=by
 obtain⟨r,rest,hr,h1,_⟩:=h.root;have ha:=h.asc;rw[hr]at hn ha;rcases List.mem_cons.1 hn with rfl|hn
 ·omega
 have:=(List.pairwise_cons.1 ha).1 n hn;omega
theorem VD.rootMem{d:Dvc}(h:VD d):∃r∈d.nodes,r.ino=1∧r.kind=2∧r.parent=1:=by
 obtain⟨r,rest,hr,h1,h2,h3⟩:=h.root;exact⟨r,by rw[hr];simp,h1,h2,h3⟩
theorem VD.isRoot{d:Dvc}(h:VD d){n:Nod}(hn:n∈d.nodes)(h1:n.ino=1):n.kind=2∧n.parent=1:=by
 obtain⟨r,hr,h2,h3,h4⟩:=h.rootMem;obtain rfl:=Cy h.asc hn hr (by omega);exact⟨h3,h4⟩
theorem VD.dirOf{d:Dvc}(h:VD d){n:Nod}(hn:n∈d.nodes){e:BM}(he:e∈n.entries):n.kind=2:=by
 apply Classical.byContradiction;intro hk;rw[(h.leaf n hn hk).2]at he;cases he
def LP(name:AM)(ino:Int)(n:Nod):Nod:={n with entries:=CP n.entries name ino}
def BZ(ns:List Nod)(p:Int)(name:AM)(ino:Int):List Nod:=CR ns p (LP name ino)
structure AsWas(p:Int)(name:AM)(to_:Int)(n m:Nod):Prop where
 ino:m.ino=n.ino
 kind:m.kind=n.kind
 parent:m.parent=n.parent
 plain:EF m=EF n
 ents:m.entries=if n.ino=p then CP n.entries name to_ else n.entries
theorem PY(p:Int)(name:AM)(ino:Int)(n:Nod):AsWas p name ino n (if n.ino=p then LP name ino n else n):=by
 by_cases h:n.ino=p
 ·simp only[h,if_true];exact⟨h ▸ rfl,rfl,rfl,rfl,by simp[h,LP]⟩
 simp only[h,if_false];exact⟨rfl,rfl,rfl,rfl,by simp[h]⟩
theorem E7{ns:List Nod}{p:Int}{name:AM}{ino:Int}{m:Nod}(h:m∈BZ ns p name ino):∃n∈ns,AsWas p name ino n m:=by
 obtain⟨n,hn,rfl⟩:=FF.1 h;exact⟨n,hn,PY p name ino n⟩
theorem Hv{ns:List Nod}(p:Int)(name:AM)(ino:Int){n:Nod}(h:n∈ns):∃m∈BZ ns p name ino,AsWas p name ino n m:=⟨_,FF.2 ⟨n,h,rfl⟩,PY p name ino n⟩
theorem K6{ns:List Nod}(h:DS ns)(p:Int)(name:AM)(ino:Int):DS (BZ ns p name ino):=Sy h p fun _=>rfl
theorem PZ(ns:List Nod)(p:Int)(name:AM)(ino:Int):(BZ ns p name ino).length=ns.length:=by simp[BZ,CR]
theorem LQ{ns:List Nod}(h:DS ns){n0:Nod}(hn:n0∈ns)(name:AM)(ino i:Int):Bc i (BZ ns n0.ino name ino)+CV i n0.entries=Bc i ns+CV i (CP n0.entries name ino):=PX h hn (LP name ino) i
theorem Pa{ns:List Nod}(p:Int)(name:AM)(ino:Int)(h:∃r rest,ns=r::rest∧r.ino=1∧r.kind=2∧r.parent=1):∃r rest,BZ ns p name ino=r::rest∧r.ino=1∧r.kind=2∧r.parent=1:=by
 obtain⟨r,rest,rfl,h1,h2,h3⟩:=h;have:=PY p name ino r;exact⟨_,_,rfl,this.ino.trans h1,this.kind.trans h2,this.parent.trans h3⟩
def b1(p:Prop)[Decidable p]:Nat:=if p then 1 else 0
theorem Sz{es:List BM}(hs:EQ es){name:AM}{e:BM}(h:Cx es name=some e)(i:Int):CV i (CP es name 0)+b1 (e.2=i)=CV i es:=by
 rw[GQ,N7 (N6 hs h),N8];rfl
theorem Pb{es:List BM}{name:AM}(h:Cx es name=none){ino:Int}(h0:ino≠0)(i:Int):CV i (CP es name ino)=CV i es+b1 (ino=i):=by
 rw[N7 (Gx es name h0),N8,N5 h];rfl
theorem Xz{es:List BM}(hs:EQ es){name:AM}{e:BM}(h:Cx es name=some e){ino:Int}(h0:ino≠0)(i:Int):CV i (CP es name ino)+b1 (e.2=i)=CV i es+b1 (ino=i):=by
 rw[N7 (Gx es name h0),N7 (N6 hs h),N8,N8];show CV i _+b1 (ino=i)+b1 (e.2=i)=CV i _+b1 (e.2=i)+b1 (ino=i);omega
theorem LR{es:List BM}{name:AM}{ino:Int}{e:BM}(h:e∈CP es name ino):e∈es∨(e=(name,ino)∧ino≠0):=by
 by_cases h0:ino=0
 ·subst h0;rw[GQ]at h;exact .inl (List.mem_filter.1 h).1
 rcases List.mem_cons.1 ((Gx es name h0).mem_iff.1 h)with h|h
 ·exact .inr ⟨h,h0⟩
 exact .inl (List.mem_filter.1 h).1
theorem LS{es:List BM}{name:AM}{ino:Int}{e:BM}(h:e∈es)(hn:e.1≠name):e∈CP es name ino:=by
 have hw:e∈Ds name es:=List.mem_filter.2 ⟨h,by simpa using hn⟩;by_cases h0:ino=0
 ·subst h0;rw[GQ];exact hw
 exact(Gx es name h0).mem_iff.2 (List.mem_cons_of_mem _ hw)
theorem T0{es:List BM}{name:AM}{ino:Int}(h0:ino≠0):(name,ino)∈CP es name ino:=(Gx es name h0).mem_iff.2 (by simp)
theorem LT{p:Prop}[Decidable p](h:p):b1 p=1:=if_pos h
theorem Jb{p:Prop}[Decidable p](h:¬p):b1 p=0:=if_neg h
theorem VD.cnt_next{d:Dvc}(h:VD d){i:Int}(hi:d.next≤i):Bc i d.nodes=0:=by
 apply Classical.byContradiction;intro hc;obtain⟨n,hn,e,he,rfl⟩:=LO.1 (Nat.pos_of_ne_zero hc);obtain⟨m,hm,e2⟩:=(h.ent n hn e he).2.2;have:=h.lt m hm;omega
theorem VD.make{d:Dvc}(h:VD d){n0:Nod}(hn0:n0∈d.nodes)(hk:n0.kind=2){name:AM}(hname:D4 name=true)(hnew:Cx n0.entries name=none){n:Nod}(hp:EF n=true)(hlen:d.nodes.length<16)(hnx:d.next<1073741824)(hfull:n0.entries.length<12):
    VD ⟨d.next+1,BZ d.nodes n0.ino name d.next++[Dy n d.next n0.ino]⟩:=by
 have hnext0:d.next≠0:=by have:=h.next2;omega
 have hcnt:∀i,Bc i (BZ d.nodes n0.ino name d.next++[Dy n d.next n0.ino])=Bc i d.nodes+b1 (d.next=i):=by
  intro i;have h1:=LQ h.asc hn0 name d.next i;rw[Pb hnew hnext0]at h1;rw[PV,K5];have h2:CV i (Dy n d.next n0.ino).entries=0:=rfl;have h3:Bc i []=0:=rfl;omega
 have hmem:∀m,m∈BZ d.nodes n0.ino name d.next++[Dy n d.next n0.ino]→(∃n'∈d.nodes,AsWas n0.ino name d.next n' m)∨m=Dy n d.next n0.ino:=by
  intro m hm;rcases List.mem_append.1 hm with hm|hm
  ·exact .inl (E7 hm)
  exact .inr (by simpa using hm)
 have hto:∀n'∈d.nodes,∃m∈BZ d.nodes n0.ino name d.next++[Dy n d.next n0.ino],AsWas n0.ino name d.next n' m:=fun n' hn'=>by
  obtain⟨m,hm,hw⟩:=Hv n0.ino name d.next hn';exact⟨m,List.mem_append_left _ hm,hw⟩
 have hold:∀{n' m:Nod} {e:BM},AsWas n0.ino name d.next n' m→n'∈d.nodes→e∈n'.entries→e∈m.entries:=by
  intro n' m e hw hn' he;rw[hw.ents];split
  ·rename_i heq;obtain rfl:=Cy h.asc hn' hn0 heq;exact LS he (N4 hnew e he)
  exact he
 refine⟨?_,?_,?_,?_,?_,?_,?_,?_,?_,?_,?_,?_,?_,?_,?_⟩
 ·show(BZ d.nodes n0.ino name d.next++[Dy n d.next n0.ino]).length≤16;rw[List.length_append,PZ];simp;omega
 ·show 2≤d.next+1;have:=h.next2;omega
 ·show d.next+1≤1073741824;omega
 ·obtain⟨r,rest,hr,h1⟩:=Pa n0.ino name d.next h.root;exact⟨r,rest++[Dy n d.next n0.ino],by show _++_=_;rw[hr];rfl,h1⟩
 ·refine List.pairwise_append.2 ⟨K6 h.asc _ _ _,by simp,fun a ha b hb=>?_⟩;obtain⟨n',hn',hw⟩:=E7 ha;simp at hb;subst hb;have:=h.lt n' hn';rw[hw.ino];exact this
 ·intro m hm;show m.ino<d.next+1;rcases hmem m hm with⟨n',hn',hw⟩|rfl
  ·have:=h.lt n' hn';rw[hw.ino];omega
  show d.next<d.next+1;omega
 ·intro m hm;rcases hmem m hm with⟨n',hn',hw⟩|rfl
  ·rw[hw.plain];exact h.plain n' hn'
  exact hp
 ·intro m hm hk';rcases hmem m hm with⟨n',hn',hw⟩|rfl
  ·rw[hw.kind]at hk';obtain⟨h1,h2⟩:=h.leaf n' hn' hk';refine⟨hw.parent.trans h1,?_⟩;rw[hw.ents,if_neg,h2];intro e;obtain rfl:=Cy h.asc hn' hn0 e;exact hk' hk
  exact⟨if_neg hk',rfl⟩
 ·intro m hm;rcases hmem m hm with⟨n',hn',hw⟩|rfl
  ·rw[hw.ents];split
   ·rename_i heq;obtain rfl:=Cy h.asc hn' hn0 heq;rw[(Gx _ name hnext0).length_eq,List.length_cons,N5 hnew];omega
   exact h.many n' hn'
  exact BR _
 ·intro m hm;rcases hmem m hm with⟨n',hn',hw⟩|rfl
  ·rw[hw.ents];split
   ·exact K4 (h.sorted n' hn') _ _
   exact h.sorted n' hn'
  exact List.Pairwise.nil
 ·intro m hm e he;rcases hmem m hm with⟨n',hn',hw⟩|rfl
  ·have key:(e∈n'.entries)∨e=(name,d.next):=by
      rw[hw.ents]at he;split at he
      ·rcases LR he with h1|h1
       ·exact .inl h1
       exact .inr h1.1
      exact .inl he
   rcases key with h1|rfl
   ·obtain⟨k1,k2,q,hq,k3⟩:=h.ent n' hn' e h1;obtain⟨m',hm',hw'⟩:=hto q hq;exact⟨k1,k2,m',hm',hw'.ino.trans k3⟩
   exact⟨hname,by show d.next≠1;have:=h.next2;omega,Dy n d.next n0.ino,by simp,rfl⟩
  cases he
 ·intro m hm h1;rw[hcnt];rcases hmem m hm with⟨n',hn',hw⟩|rfl
  ·have:=h.link n' hn' (by rw[←hw.ino];exact h1);rw[hw.ino];omega
  have:b1 (d.next=(Dy n d.next n0.ino).ino)=1:=LT rfl;omega
 ·intro m hm h1 h2;rw[hcnt];rcases hmem m hm with⟨n',hn',hw⟩|rfl
  ·have:=h.one n' hn' (by rw[←hw.ino];exact h1) (by rw[←hw.kind];exact h2);rw[hw.ino,this,Jb (by have:=h.lt n' hn';omega)]
  have e1:b1 (d.next=(Dy n d.next n0.ino).ino)=1:=LT rfl;have e2:Bc (Dy n d.next n0.ino).ino d.nodes=0:=h.cnt_next (Int.le_refl _);omega
 ·intro m hm h1 h2;rcases hmem m hm with⟨n',hn',hw⟩|rfl
  ·obtain⟨p,hp',k1,e,he,k2⟩:=h.par n' hn' (by rw[←hw.ino];exact h1) (by rw[←hw.kind];exact h2);obtain⟨q,hq,hwq⟩:=hto p hp';exact⟨q,hq,by rw[hwq.ino,hw.parent];exact k1,e,hold hwq hp' he,by rw[hw.ino];exact k2⟩
  obtain⟨q,hq,hwq⟩:=hto n0 hn0;refine⟨q,hq,?_,(name,d.next),?_,rfl⟩
  ·rw[hwq.ino];exact(if_pos h2).symm
  rw[hwq.ents,if_pos rfl];exact T0 hnext0
 obtain⟨rk,hrk⟩:=h.rank;refine⟨fun i=>if i=d.next then rk n0.ino+1 else rk i,?_⟩;intro m hm h1 h2;rcases hmem m hm with⟨n',hn',hw⟩|rfl
 ·have hlt:=h.lt n' hn';have h1':n'.ino≠1:=by rw[←hw.ino];exact h1
  have h2':n'.kind=2:=by rw[←hw.kind];exact h2
  obtain⟨p,hp',k1,_⟩:=h.par n' hn' h1' h2';have hlp:=h.lt p hp';simp only;rw[hw.ino,hw.parent,if_neg (by omega),if_neg (by omega)];exact hrk n' hn' h1' h2'
 have e1:(Dy n d.next n0.ino).parent=n0.ino:=if_pos h2;have e2:(Dy n d.next n0.ino).ino=d.next:=rfl;have hl:=h.lt n0 hn0;simp only;rw[e1,e2,if_pos rfl,if_neg (by omega)];omega
theorem VD.linked{d:Dvc}(h:VD d){n0 a:Nod}(hn0:n0∈d.nodes)(hk:n0.kind=2)(ha:a∈d.nodes)(hka:a.kind≠2){name:AM}(hname:D4 name=true)(hnew:Cx n0.entries name=none)(hfull:n0.entries.length<12):
    VD ⟨d.next,BZ d.nodes n0.ino name a.ino⟩:=by
 have ha0:a.ino≠0:=by have:=h.pos ha;omega
 have ha1:a.ino≠1:=fun e=>hka (h.isRoot ha e).1
 have hcnt:∀i,Bc i (BZ d.nodes n0.ino name a.ino)=Bc i d.nodes+b1 (a.ino=i):=by
  intro i;have h1:=LQ h.asc hn0 name a.ino i;rw[Pb hnew ha0]at h1;omega
 have hto:=fun n' (hn':n'∈d.nodes)=>Hv n0.ino name a.ino hn'
 have hold:∀{n' m:Nod} {e:BM},AsWas n0.ino name a.ino n' m→n'∈d.nodes→e∈n'.entries→e∈m.entries:=by
  intro n' m e hw hn' he;rw[hw.ents];split
  ·rename_i heq;obtain rfl:=Cy h.asc hn' hn0 heq;exact LS he (N4 hnew e he)
  exact he
 refine⟨by rw[PZ];exact h.len,h.next2,h.nextM,Pa _ _ _ h.root,K6 h.asc _ _ _,?_,?_,?_,?_,?_,?_,?_,?_,?_,?_⟩
 ·intro m hm;obtain⟨n',hn',hw⟩:=E7 hm;rw[hw.ino];exact h.lt n' hn'
 ·intro m hm;obtain⟨n',hn',hw⟩:=E7 hm;rw[hw.plain];exact h.plain n' hn'
 ·intro m hm hk';obtain⟨n',hn',hw⟩:=E7 hm;rw[hw.kind]at hk';obtain⟨h1,h2⟩:=h.leaf n' hn' hk';refine⟨hw.parent.trans h1,?_⟩;rw[hw.ents,if_neg,h2];intro e;obtain rfl:=Cy h.asc hn' hn0 e;exact hk' hk
 ·intro m hm;obtain⟨n',hn',hw⟩:=E7 hm;rw[hw.ents];split
  ·rename_i heq;obtain rfl:=Cy h.asc hn' hn0 heq;rw[(Gx _ name ha0).length_eq,List.length_cons,N5 hnew];omega
  exact h.many n' hn'
 ·intro m hm;obtain⟨n',hn',hw⟩:=E7 hm;rw[hw.ents];split
  ·exact K4 (h.sorted n' hn') _ _
  exact h.sorted n' hn'
 ·intro m hm e he;obtain⟨n',hn',hw⟩:=E7 hm
  have key:(e∈n'.entries)∨e=(name,a.ino):=by
   rw[hw.ents]at he;split at he
   ·rcases LR he with h1|h1
    ·exact .inl h1
    exact .inr h1.1
   exact .inl he
  rcases key with h1|rfl
  ·obtain⟨k1,k2,q,hq,k3⟩:=h.ent n' hn' e h1;obtain⟨m',hm',hw'⟩:=hto q hq;exact⟨k1,k2,m',hm',hw'.ino.trans k3⟩
  obtain⟨m',hm',hw'⟩:=hto a ha;exact⟨hname,ha1,m',hm',hw'.ino⟩
 ·intro m hm h1;obtain⟨n',hn',hw⟩:=E7 hm;rw[hcnt,hw.ino];have:=h.link n' hn' (by rw[←hw.ino];exact h1);omega
 ·intro m hm h1 h2;obtain⟨n',hn',hw⟩:=E7 hm;rw[hcnt,hw.ino,h.one n' hn' (by rw[←hw.ino];exact h1) (by rw[←hw.kind];exact h2),Jb];intro e;obtain rfl:=Cy h.asc hn' ha e.symm;exact hka (by rw[←hw.kind];exact h2)
 ·intro m hm h1 h2;obtain⟨n',hn',hw⟩:=E7 hm;obtain⟨p,hp',k1,e,he,k2⟩:=h.par n' hn' (by rw[←hw.ino];exact h1) (by rw[←hw.kind];exact h2);obtain⟨q,hq,hwq⟩:=hto p hp';exact⟨q,hq,by rw[hwq.ino,hw.parent];exact k1,e,hold hwq hp' he,by rw[hw.ino];exact k2⟩
 obtain⟨rk,hrk⟩:=h.rank;refine⟨rk,fun m hm h1 h2=>?_⟩;obtain⟨n',hn',hw⟩:=E7 hm;rw[hw.ino,hw.parent];exact hrk n' hn' (by rw[←hw.ino];exact h1) (by rw[←hw.kind];exact h2)
def E8(mode uid gid:Int)(n:Nod):Nod:={n with mode:=mode,uid:=uid,gid:=gid}
theorem VD.attrs{d:Dvc}(h:VD d){n0:Nod}(hn0:n0∈d.nodes)(mode uid gid:Int)(hp:EF (E8 mode uid gid n0)=true):VD ⟨d.next,CR d.nodes n0.ino (E8 mode uid gid)⟩:=by
 have hsame:∀n:Nod,(if n.ino=n0.ino then E8 mode uid gid n else n).ino=n.ino∧(if n.ino=n0.ino then E8 mode uid gid n else n).kind=n.kind∧(if n.ino=n0.ino then E8 mode uid gid n else n).parent=n.parent∧(if n.ino=n0.ino then E8 mode uid gid n else n).entries=n.entries:=by
  intro n;split<;>exact⟨rfl,rfl,rfl,rfl⟩
 have hcnt:∀i,Bc i (CR d.nodes n0.ino (E8 mode uid gid))=Bc i d.nodes:=by
  intro i;have h1:Bc i (CR d.nodes n0.ino (E8 mode uid gid))+CV i n0.entries=Bc i d.nodes+CV i n0.entries:=PX h.asc hn0 (E8 mode uid gid) i;omega
 have hto:∀n∈d.nodes,∃m∈CR d.nodes n0.ino (E8 mode uid gid),m.ino=n.ino∧m.kind=n.kind∧m.parent=n.parent∧m.entries=n.entries:=fun n hn=>⟨_,FF.2 ⟨n,hn,rfl⟩,hsame n⟩;refine⟨by simpa[CR]using h.len,h.next2,h.nextM,?_,Sy h.asc _ (fun _=>rfl),?_,?_,?_,?_,?_,?_,?_,?_,?_,?_⟩
 ·obtain⟨r,rest,hr,h1,h2,h3⟩:=h.root;obtain⟨s1,s2,s3,_⟩:=hsame r;refine⟨_,_,by show CR d.nodes _ _=_;rw[hr];rfl,s1.trans h1,s2.trans h2,s3.trans h3⟩
 ·intro m hm;obtain⟨n,hn,rfl⟩:=FF.1 hm;rw[(hsame n).1];exact h.lt n hn
 ·intro m hm;obtain⟨n,hn,rfl⟩:=FF.1 hm;split
  ·rename_i e;obtain rfl:=Cy h.asc hn hn0 e;exact hp
  exact h.plain n hn
 ·intro m hm hk;obtain⟨n,hn,rfl⟩:=FF.1 hm;obtain⟨s1,s2,s3,s4⟩:=hsame n;rw[s2]at hk;rw[s3,s4];exact h.leaf n hn hk
 ·intro m hm;obtain⟨n,hn,rfl⟩:=FF.1 hm;rw[(hsame n).2.2.2];exact h.many n hn
 ·intro m hm;obtain⟨n,hn,rfl⟩:=FF.1 hm;rw[(hsame n).2.2.2];exact h.sorted n hn
 ·intro m hm e he;obtain⟨n,hn,rfl⟩:=FF.1 hm;rw[(hsame n).2.2.2]at he;obtain⟨k1,k2,q,hq,k3⟩:=h.ent n hn e he;obtain⟨m',hm',s1,_⟩:=hto q hq;exact⟨k1,k2,m',hm',s1.trans k3⟩
 ·intro m hm h1;obtain⟨n,hn,rfl⟩:=FF.1 hm;rw[(hsame n).1]at h1 ⊢;rw[hcnt];exact h.link n hn h1
 ·intro m hm h1 h2;obtain⟨n,hn,rfl⟩:=FF.1 hm;rw[(hsame n).1]at h1 ⊢;rw[(hsame n).2.1]at h2;rw[hcnt];exact h.one n hn h1 h2
 ·intro m hm h1 h2;obtain⟨n,hn,rfl⟩:=FF.1 hm;obtain⟨s1,s2,s3,s4⟩:=hsame n;rw[s1]at h1 ⊢;rw[s2]at h2;rw[s3];obtain⟨p,hp',k1,e,he,k2⟩:=h.par n hn h1 h2;obtain⟨q,hq,t1,_,_,t4⟩:=hto p hp';exact⟨q,hq,t1.trans k1,e,by rw[t4];exact he,k2⟩
 obtain⟨rk,hrk⟩:=h.rank;refine⟨rk,fun m hm h1 h2=>?_⟩;obtain⟨n,hn,rfl⟩:=FF.1 hm;obtain⟨s1,s2,s3,s4⟩:=hsame n;rw[s1]at h1 ⊢;rw[s2]at h2;rw[s3];exact hrk n hn h1 h2
end Go.Proofs.YtbgnigjfkbmceaaGreatDoor
