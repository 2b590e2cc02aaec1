/-
  Part 10 of the proof of WatchReplacedP: what the statement's proof uses of the texts in wip/tpl.
-/
import Derived.RangeFuncNested
import Derived.RangeFuncBound
import Derived.RangeFuncCalls
import Derived.RangeFuncLeaves
import Derived.Shelf.Abstract
import Derived.Shelf.RegionOpen
import Derived.OwnWalkIn
import Derived.TacticsInMore
import Derived.LoopNIn
import Derived.LoopIn
import Derived.WalkMore
import Derived.Test.YtobclmbkdhbnpaaGreatDoorShelf
import Derived.Test.YtobclmbkdhbnpaaGreatDoorQa9
open Go.Proofs.Tryz (prog)
set_option maxRecDepth 10000
set_option maxHeartbeats 4000000
set_option linter.unusedVariables false
set_option linter.unusedSimpArgs false
namespace Go.Proofs.YtobclmbkdhbnpaaGreatDoor
open Go.RowKit
section
structure Moves(own:Nat→Prop)(B:Nat)(X Y:World):Prop where
 os:Y.os=X.os
 tape:Y.tape=X.tape
 output:Y.output=X.output
 size:X.heap.size≤Y.heap.size
 block:∀k,k<X.heap.size→¬own k→(k<B∨∃o:Obj,X.heap[k]?=some o∧o.isCells=true)→Y.heap[k]?=X.heap[k]?
section
variable {own:Nat→Prop}{B:Nat}{X Y Z:World}
theorem Moves.mono(h:Moves own B X Y){B':Nat}(hB:B'≤B):Moves own B' X Y:=
 ⟨h.os,h.tape,h.output,h.size,fun i hi ho hb=>h.block i hi ho (by
  rcases hb with hb|hb
  ·exact .inl (Nat.lt_of_lt_of_le hb hB)
  exact .inr hb)⟩
theorem Moves.below(h:Below X.heap.size X Y):Moves own B X Y:=⟨h.os,h.tape,h.output,h.size,fun i hi _ _=>h.block i hi⟩
theorem Moves.grown{g:Nat}(h:X.grownBy Y (some g))(hg:own g):Moves own B X Y:=
 ⟨h.os,h.tape,h.output,h.size,fun i hi ho _=>h.block i hi (fun e=>ho (by injection e with e;rw[e];exact hg))⟩
theorem Moves.set_(X:World){b:Nat}(hb:own b)(v:Value):Moves own B X (X.setCell ⟨b,0,none⟩ v):=Moves.grown (grownBy_setCell' X b v) hb
theorem Moves.put_{l:Nat}{o:Obj}(o':Obj)(hl:X.heap[l]?=some o)(ho:o.isCells=false)(hB:B≤l):Moves own B X (X.putObj l o'):=
 have h:=grownBy_putObj' X l o'
 ⟨h.os,h.tape,h.output,h.size,fun i hi _ hb=>h.block i hi (fun e=>by
  injection e with e;subst e;rcases hb with hb|⟨o2,h1,h2⟩
  ·omega
  rw[hl]at h1;injection h1 with h1;subst h1;rw[ho]at h2;cases h2)⟩
theorem Moves.boxed(h:Moves own B X Y){b:Nat}{t:TypeId}{v:Value}(hb:Boxed X b t v)(hn:¬own b):Boxed Y b t v:=
 (h.block b hb.lt hn (.inr ⟨_,hb,rfl⟩)).trans hb
theorem Moves.under(h:Moves own B X Y){n₀:Nat}{w:World}(hb:Below n₀ w X)(hn:n₀≤w.heap.size)(ho:∀b,own b→n₀≤b)(hB:n₀≤B):Below n₀ w Y:=
 ⟨h.os.trans hb.os,h.tape.trans hb.tape,h.output.trans hb.output,Nat.le_trans hb.size h.size,fun i hi=>by
  refine(h.block i (by have:=hb.size;omega) (fun e=>?_) (.inl (by omega))).trans (hb.block i hi);have:=ho i e
  omega⟩
end
theorem KD{B:Nat}{X Y:World}(h:Below X.heap.size X Y):KeepsFrom B X Y:=⟨h.size,fun k _ _ hk _=>(h.block k (Array.getElem?_eq_some_iff.1 hk).1).trans hk⟩
theorem MV{B:Nat}{X Y:World}(h:KeepsFrom B X Y){b:Nat}(hb:b<B)(v:Value):KeepsFrom B X (Y.setCell ⟨b,0,none⟩ v):=
 h.trans (KeepsFrom.of_grownBy (grownBy_setCell' Y b v) (fun j e=>by cases e;exact hb))
theorem Hu{W:World}{b D:Nat}{t:TypeId}{v:Value}(h:Boxed W b t v)(hne:b≠D)(o:Obj):Boxed (W.putObj D o) b t v:=h.kept (grownBy_putObj' W D o) (fun e=>hne (by injection e))
theorem KE{B:Nat}{w W:World}(h:Below B w W){D:Nat}(hD:B≤D)(o:Obj):Below B w (W.putObj D o):=
 have g:=grownBy_putObj' W D o
 ⟨g.os.trans h.os,g.tape.trans h.tape,g.output.trans h.output,Nat.le_trans h.size g.size,fun k hk=>(World.putObj_heap_other (by omega)).trans (h.block k hk)⟩
theorem Dw{P:Program}{n m f:Nat}{args:Array Value}{w:World}{R:Ending→World→Prop}(h:CallsIn Fence.wide m P f args w R):
    Fence.wide.fn f∧(Fence.wide.depth.isSome=true→1≤n)∧CallsIn Fence.wide m P f args w R:=⟨trivial,(fun h=>by cases h),h⟩
def SeqW{α:Type}(F:Fence)(n:Nat)(P:Program)(g:Nat)(lb:Array Value)(encs:α→Array Value)(own:Nat→Prop)(Kp:World→World→Prop)(Pf:List α→Prop)(S Sp:List α→Prop)(w:World):Prop:=
 ∀(l:Nat) (J Jx:List α→World→Prop) (W:World),Below w.heap.size w W→
  (∀s X Y,J s X→Moves own W.heap.size X Y→J s Y)→(∀s X Y,Jx s X→Moves own W.heap.size X Y→Jx s Y)→
  (∀pre x W1,J pre W1→Pf (pre++[x])→YieldAt F (n - 1) P l (encs x) W1 fun e W'=>
    (e= .returned (.bool true)∧J (pre++[x]) W'∧Kp W1 W')∨(e= .returned (.bool false)∧Jx (pre++[x]) W'))→
  J [] W→
  CallsIn F n P g (#[.func (.yield l) #[] #[]]++lb) W fun e W'=>(∃v,e= .returned v)∧((∃xs,S xs∧J xs W')∨(∃pre,Sp pre∧Jx pre W'))
variable {F:Fence}{n:Nat}{P:Program}
theorem Ty{α:Type}{g:Operand}{ps:Array Tmp}{assign body:Code}{Q:Exit→Act→World→Prop}{a:Act}{w:World}
    (hro:F.round=none) (h1:1≤n) {gf:Nat} {lb:Array Value} (hg:a.eval g= .func (.func gf) #[] lb) (hFg:F.fn gf) (eg:∀args w,(callFunc gf args).run P w= .ok (.enter gf args) w)
    {encs:α→Array Value} {own:Nat→Prop} {Kp:World→World→Prop} {Pf:List α→Prop} {S Sp:List α→Prop} {w0:World} (hseq:SeqW F (n - 1) P gf lb encs own Kp Pf S Sp w0)
    (hown:∀b,own b→b<w.heap.size) (hKt:∀{A B C:World},Kp A B→Kp B C→Kp A C) (hKb:∀(W:World) (l:Nat) (o o':Obj),w.heap.size≤l→W.heap[l]?=some o→o.isCells=false→Kp W (W.putObj l o'))
    (hb0:Below w0.heap.size w0 w) (hps:∀x,(encs x).size=ps.size)
    (I:List α→World→Prop) (Ix:Code→List α→World→Prop) (hI:∀s X Y,I s X→Moves own w.heap.size X Y→I s Y) (hIx:∀c s X Y,Ix c s X→Moves own w.heap.size X Y→Ix c s Y) (h0:I [] w) (a₁:α→Act)
    (hassign:∀(l:Nat) (x:α) (W:World) (K:Act→World→Prop),K (a₁ x) W→
      assign.wpIn (F.inRound l) (n - 1 - 1) P (Exit.then K (fun _ _ _=>False)) {tmps:=(ps.zip (encs x)).foldl (fun t (p,v)=>t.setIfInBounds p v) a.tmps,defers:=[]} W)
    (hbody:∀(l:Nat) (pre:List α) (x:α) (W:World),I pre W→Pf (pre++[x])→w.heap.size+2≤W.heap.size→body.wpIn (F.inRound l) (n - 1 - 1) P (ownPostG w.heap.size Kp I Ix (pre++[x]) W) (a₁ x) W)
    (hdone:∀(D:Nat) (xs:List α) (W:World),w.heap.size≤D→S xs→I xs W→W.heap[D]?=some (.deferred (some []))→Q .normal {a with defers:={target:= .collected D,args:=#[]}::a.defers} W)
    (hstop:∀(D:Nat) (c:Code) (pre:List α) (W:World),w.heap.size≤D→Sp pre→Ix c pre W→W.heap[D]?=some (.deferred (some []))→c.wpIn F n P Q {a with defers:={target:= .collected D,args:=#[]}::a.defers} W):
    (Code.rangeFunc g ps assign body).wpIn F n P Q a w:=by
 refine wpIn_rangeFunc ?_;intro fn hfn;rw[hro];obtain⟨rec,hrec⟩:∃rec:LoopState→Option Code→Loop,rec=fun st pe=>{state:=st,pending:=pe,fn,tmps:=a.tmps,params:=ps,assign,body,defers:=w.heap.size}:=⟨_,rfl⟩;obtain⟨W1,hW1⟩:∃W1,(w.alloc (.deferred (some []))).alloc (.loop (rec .ready none))=W1:=⟨_,rfl⟩;have hbw:Below w.heap.size w W1:=by rw[←hW1];exact Gy w _ _
 have hsz:W1.heap.size=w.heap.size+2:=by rw[←hW1];simp
 have hL1:W1.heap[w.heap.size+1]?=some (.loop (rec .ready none)):=by rw[←hW1];exact Hn _ _ _
 have hK1:W1.heap[w.heap.size]?=some (.deferred (some [])):=by rw[←hW1];exact Hm _ _ _
 have hn0:¬own w.heap.size:=fun h=>by have:=hown _ h;omega
 have hn1:¬own (w.heap.size+1):=fun h=>by have:=hown _ h;omega
 refine⟨w.heap.size+1,[{target:= .collected w.heap.size,args:=#[]}],W1,{target:= .fn (.func gf) lb,args:=#[.func (.yield (w.heap.size+1)) #[] #[]]},W1,gf,
  #[.func (.yield (w.heap.size+1)) #[] #[]]++lb,W1,?_,?_,?_,?_,fun _=>h1,?_⟩
 ·rw[←hW1,hrec];exact run_enterLoop_outer _ _ _ _ _
 ·simp only[resolve,hg];simp[go_sem]
 ·intro f' hf';simp[Target.leads]at hf';subst hf';exact hFg
 ·simp[invoke,go_sem,eg]
 have lt_of:∀{W:World} {k:Nat} {o:Obj},W.heap[k]?=some o→k<W.heap.size:=fun h=>(Array.getElem?_eq_some_iff.1 h).1;have keep:∀{X Y:World} {k:Nat} {o:Obj},Moves own W1.heap.size X Y→X.heap[k]?=some o→k<W1.heap.size→¬own k→Y.heap[k]?=some o:=fun hm hx hk hn=>(hm.block _ (lt_of hx) hn (.inl hk)).trans hx
 refine(hseq (w.heap.size+1)
  (fun pre W=>I pre W∧W.heap[w.heap.size+1]?=some (.loop (rec .ready none))∧W.heap[w.heap.size]?=some (.deferred (some [])))
  (fun pre W=>∃c,Ix c pre W∧W.heap[w.heap.size+1]?=some (.loop (rec .done (some c)))∧W.heap[w.heap.size]?=some (.deferred (some [])))
  W1 (hb0.trans (hbw.mono hb0.size))
  (fun s X Y hs hm=>⟨hI s X Y hs.1 (hm.mono (by omega)),keep hm hs.2.1 (by omega) hn1,keep hm hs.2.2 (by omega) hn0⟩)
  (fun s X Y hs hm=>by
    obtain⟨c,hc,hl,hk⟩:=hs
    exact⟨c,hIx c s X Y hc (hm.mono (by omega)),keep hm hl (by omega) hn1,keep hm hk (by omega) hn0⟩)
  ?_ ⟨hI _ _ _ h0 (.below hbw),hL1,hK1⟩).mono ?_
 ·rintro pre x W ⟨hi,hl,hk⟩ hpf;have hlt:w.heap.size+1<W.heap.size:=lt_of hl;have hy:=run_yield (P:=P) (args:=encs x) hl (by rw[hrec];exact hps x);rw[hrec]at hy;refine⟨fn,_,assign,body,hy,roundIn_of_wpIn hfn (hassign _ x W _ ⟨_,run_beginRound hl (by rw[hrec]),?_⟩)⟩;have hl2:(W.putObj (w.heap.size+1) (.loop {rec .ready none with state:= .busy})).heap[w.heap.size+1]?=some (.loop {rec .ready none with state:= .busy}):=World.putObj_heap_same hlt;have hk2:(W.putObj (w.heap.size+1) (.loop {rec .ready none with state:= .busy})).heap[w.heap.size]?=some (.deferred (some [])):=(World.putObj_heap_other (by omega)).trans hk;have hw2:Kp W (W.putObj (w.heap.size+1) (.loop {rec .ready none with state:= .busy})):=hKb _ _ _ _ (by omega) hl rfl;refine wpIn_mono (hbody _ pre x _ (hI _ _ _ hi (.put_ _ hl rfl (by omega))) hpf (lt_of hl2)) ?_
  have fin:∀(jump:Option Code) (W3:World),KeepsFrom w.heap.size (W.putObj (w.heap.size+1) (.loop {rec .ready none with state:= .busy})) W3→
      (Instr.endRound (w.heap.size+1) jump).run P W3= .ok (.bool jump.isNone) (W3.putObj (w.heap.size+1) (.loop (rec (if jump.isNone then .ready else .done) jump)))∧
      W3.heap[w.heap.size+1]?=some (.loop {rec .ready none with state:= .busy})∧
      (W3.putObj (w.heap.size+1) (.loop (rec (if jump.isNone then .ready else .done) jump))).heap[w.heap.size+1]?=some (.loop (rec (if jump.isNone then .ready else .done) jump))∧
      (W3.putObj (w.heap.size+1) (.loop (rec (if jump.isNone then .ready else .done) jump))).heap[w.heap.size]?=some (.deferred (some [])):=fun jump W3 hk3=>by
   have hl3:=hk3.same _ _ (by omega) hl2 rfl;have:=run_endRound (P:=P) jump hl3;rw[hrec]at this ⊢;exact⟨this,by rw[hrec]at hl3;exact hl3,World.putObj_heap_same (lt_of hl3),(World.putObj_heap_other (by omega)).trans (hk3.same _ _ (Av _) hk2 rfl)⟩
  rintro e a3 W3 hp
  cases e with
  |normal=>
    obtain⟨hk3,hkp3,hi3⟩:=hp;obtain⟨hr,hl3,hl4,hk4⟩:=fin none W3 hk3;exact⟨_,_,hr, .inl ⟨rfl,⟨hI _ _ _ hi3 (.put_ _ hl3 rfl (by omega)),hl4,hk4⟩,hKt (hKt hw2 hkp3) (hKb _ _ _ _ (by omega) hl3 rfl)⟩⟩
  |ret=>
    obtain⟨hk3,hi3⟩:=hp;obtain⟨hr,hl3,hl4,hk4⟩:=fin (some .ret) W3 hk3;exact⟨_,_,hr, .inr ⟨rfl, .ret,hIx _ _ _ _ hi3 (.put_ _ hl3 rfl (by omega)),hl4,hk4⟩⟩
  |exit id=>
    obtain⟨hk3,hi3⟩:=hp;obtain⟨hr,hl3,hl4,hk4⟩:=fin (some (.exit id)) W3 hk3;exact⟨_,_,hr, .inr ⟨rfl, .exit id,hIx _ _ _ _ hi3 (.put_ _ hl3 rfl (by omega)),hl4,hk4⟩⟩
  |goto t=>
    obtain⟨hk3,hi3⟩:=hp;obtain⟨hr,hl3,hl4,hk4⟩:=fin (some (.goto t)) W3 hk3;exact⟨_,_,hr, .inr ⟨rfl, .goto t,hIx _ _ _ _ hi3 (.put_ _ hl3 rfl (by omega)),hl4,hk4⟩⟩
  |panic ch=>exact hp.elim
  |outgrown=>exact hp.elim
 rintro e W2 ⟨⟨v,rfl⟩,(⟨xs,hS,hi,hl,hk⟩|⟨pre,hSp,c,hi,hl,hk⟩)⟩
 ·exact⟨none,_,by have:=run_endLoop (P:=P) hl (by rw[hrec];simp);rw[hrec]at this;exact this,hdone _ xs _ (Av _) hS (hI _ _ _ hi (.put_ _ hl rfl (by omega))) ((World.putObj_heap_other (by omega)).trans hk)⟩
 exact⟨some c,_,by have:=run_endLoop (P:=P) hl (by rw[hrec];simp);rw[hrec]at this;exact this,hstop _ c pre _ (Av _) hSp (hIx _ _ _ _ hi (.put_ _ hl rfl (by omega))) ((World.putObj_heap_other (by omega)).trans hk)⟩
end
theorem MW{P:Program}{f:FuncId}{xs:List AV}{R:AV}(h:AFn P f xs fun r=>r=R){w:World}{N:Nat}{vs:List Value}(hN:N≤w.heap.size)(hv:Bc (fun b _=>b<N) w xs vs):
    Calls P f vs.toArray w fun e w'=>∃(v:Value) (G':Gh),e= .returned v∧rep G' w' R v∧Below w.heap.size w w':=by
 refine Calls.mono (h w (fun b _=>b<N) [] vs (SL (fun b o hb=>Nat.lt_of_lt_of_le hb hN)) (J5 _ _ hv)) ?_;intro e w' h3
 cases e with
 |returned v=>
   obtain⟨r,b,t,G',⟨_,_,rfl⟩,k2,_,k4⟩:=h3;have k:=k2.kept;exact⟨v,G',rfl,k4,⟨k.os,k.tape,k.output,k.size,fun i hi=>k.block i hi (by simp)⟩⟩
 |panicked c=>exact h3.elim
 |outgrown=>exact h3.elim
def SpcIn(s:Spc)(N:Nat)(w:World)(ds ms:Value):Prop:=N≤w.heap.size∧Bc (fun b _=>b<N) w (Ar s) [ds,ms]
theorem SpcIn.keep{s:Spc}{N:Nat}{w w':World}{ds ms:Value}(h:SpcIn s N w ds ms)(hs:w.heap.size≤w'.heap.size)(hb:∀b,b<N→w'.heap[b]?=w.heap[b]?):SpcIn s N w' ds ms:=
 ⟨Nat.le_trans h.1 hs,KP (fun b o hN=>⟨hN,World.cell?_of_block (w:=w) (a:=⟨b,o,none⟩) (hb b hN)⟩) _ _ h.2⟩
theorem SpcIn.below{s:Spc}{N B:Nat}{w w':World}{ds ms:Value}(h:SpcIn s N w ds ms)(hb:Below B w w')(hN:N≤B):SpcIn s N w' ds ms:=
 h.keep hb.size fun b hbN=>hb.block b (Nat.lt_of_lt_of_le hbN hN)
section
variable {s:Spc}{N:Nat}{w:World}{ds ms:Value}(h:SpcIn s N w ds ms)(hs:SpcB s)
include h hs
theorem ZT(a:A9):Calls prog 72 #[.agg #[ds],DW a] w fun e w'=>
    (∃(A:Option Addr) (m c:Nat),e= .returned (.tuple #[.agg #[.int .i64 (AZ s.files a).ino, .int .i64 (AZ s.files a).kind, .int .i64 (AZ s.files a).mode, .int .i64 (AZ s.files a).uid, .int .i64 (AZ s.files a).gid, .int .i64 (AZ s.files a).parent, .string (AZ s.files a).target, .slice A m c], .bool (Cc s.files a)]))∧Below w.heap.size w w':=by
 have h2:=h.2;simp only[Ar,Bc]at h2;obtain⟨z,zs,e1,h3,_⟩:=h2;obtain⟨rfl,rfl⟩:=List.cons.inj e1;refine(MW (Gw s.files a hs.files) (vs:=[.agg #[ds],DW a]) h.1 ?_).mono ?_
 ·simp only[Bc,Ak,Al,AB,DW];exact⟨_,_,rfl,⟨[ds],rfl,ds,[],rfl,by simpa only[Ak]using h3,rfl⟩,_,_,rfl,⟨[.int .i64 a.1, .int .i64 a.2],rfl,_,_,rfl,rfl,_,_,rfl,rfl,rfl⟩,rfl⟩
 rintro e w' ⟨v,G',rfl,hr,hb⟩;refine⟨?_,hb⟩;simp only[rep,AY,Ab,Ak]at hr;obtain⟨ys,rfl,z1,zs1,rfl,⟨ys2,rfl,_,_,rfl,rfl,_,_,rfl,rfl,_,_,rfl,rfl,_,_,rfl,rfl,_,_,rfl,rfl,_,_,rfl,rfl,_,_,rfl,rfl,_,_,rfl,⟨_,A,c,rfl,_⟩,rfl⟩,_,_,rfl,rfl,rfl⟩:=hr;exact⟨A,_,c,rfl⟩
theorem Tz(xs:List AV)(vs:List Value)(hx:Bc (fun b _=>b<N) w xs vs):Bc (fun b _=>b<N) w (.agg (Ar s)::xs) (.agg #[ds,ms]::vs):=by
 have _:=hs;simp only[Bc];refine⟨_,_,rfl,?_,hx⟩;simp only[Ak];exact⟨[ds,ms],rfl,h.2⟩
theorem U0(a:A9):Bc (fun b _=>b<N) w [.agg (Ar s), .agg (AB a)] [.agg #[ds,ms],DW a]:=by
 refine Tz h hs _ _ ?_;simp only[Bc,Ak,AB,DW];exact⟨_,_,rfl,⟨[.int .i64 a.1, .int .i64 a.2],rfl,_,_,rfl,rfl,_,_,rfl,rfl,rfl⟩,rfl⟩
theorem U1(d:Int):Bc (fun b _=>b<N) w [.agg (Ar s), .v (.int .i64 d)] [.agg #[ds,ms], .int .i64 d]:=by
 refine Tz h hs _ _ ?_;simp only[Bc,Ak];exact⟨_,_,rfl,rfl,rfl⟩
theorem ZU(d:Int):Calls prog 110 #[.agg #[ds,ms], .int .i64 d] w fun e w'=>
    e= .returned (.tuple #[DW ((Bu s d).getD (0,0)), .bool (Bu s d).isSome])∧Below w.heap.size w w':=by
 refine(MW (Pa s d hs) (vs:=[.agg #[ds,ms], .int .i64 d]) h.1 (U1 h hs d)).mono ?_;rintro e w' ⟨v,G',rfl,hr,hb⟩;refine⟨?_,hb⟩;simp only[rep,AY,AB]at hr;obtain⟨ys,rfl,z1,zs1,rfl,⟨ys2,rfl,_,_,rfl,rfl,_,_,rfl,rfl,rfl⟩,_,_,rfl,rfl,rfl⟩:=hr;rfl
theorem ZV(a:A9):Calls prog 161 #[.agg #[ds,ms],DW a] w fun e w'=>e= .returned (.bool (Ag s.files a))∧Below w.heap.size w w':=by
 refine(MW (XO s a hs) (vs:=[.agg #[ds,ms],DW a]) h.1 (U0 h hs a)).mono ?_;rintro e w' ⟨v,G',rfl,hr,hb⟩;simp only[rep]at hr;exact⟨by rw[hr],hb⟩
theorem ZW(d:Int):Calls prog 70 #[.agg #[ds,ms], .int .i64 d] w fun e w'=>e= .returned (.bool (C4 s d))∧Below w.heap.size w w':=by
 refine(MW (Sh s d hs) (vs:=[.agg #[ds,ms], .int .i64 d]) h.1 (U1 h hs d)).mono ?_;rintro e w' ⟨v,G',rfl,hr,hb⟩;simp only[rep]at hr;exact⟨by rw[hr],hb⟩
end
theorem SpcIn.devs{s:Spc}{N:Nat}{w:World}{ds ms:Value}(h:SpcIn s N w ds ms):∃A cap,ds= .slice A s.files.length cap∧s.files.length≤cap∧cap≤maxLen∧
    (0<s.files.length→∃b off,A=some ⟨b,off,none⟩∧b<N∧∀i d,s.files[i]?=some d→w.cell? ⟨b,off+i * 2,none⟩=some (.int .i64 d.next)∧∃A2 cap2,w.cell? ⟨b,off+i * 2+1,none⟩=some (.slice A2 d.nodes.length cap2)):=by
 have h2:=h.2;simp only[Ar,Bc]at h2;obtain⟨z,zs,e1,h3,_⟩:=h2;obtain⟨rfl,rfl⟩:=List.cons.inj e1;simp only[Ak,List.length_map]at h3;obtain⟨_,A,cap,rfl,h4,h5,h6⟩:=h3;refine⟨A,cap,rfl,h4,h5,fun hpos=>?_⟩;rcases h6 with h6|⟨b,off,rfl,h6⟩
 ·simp at h6;rw[h6]at hpos;simp at hpos
 refine⟨b,off,rfl,?_,?_⟩
 ·obtain⟨_,h8⟩:=Jg h6 (i:=0) (r:=Be (s.files[0]'hpos)) (by simp[hpos]);simp only[Be,Cu]at h8;exact h8.1.1
 intro i d hd;obtain⟨_,h8⟩:=Jg h6 (i:=i) (r:=Be d) (by simp[hd]);simp only[Be,Cu,Ak,List.length_map]at h8;obtain⟨⟨_,u,h9,_,rfl⟩,⟨_,u2,h10,_,_,A2,cap2,rfl,_⟩,_⟩:=h8;exact⟨h9,A2,cap2,h10⟩
theorem U2(ds ms:Value)(a:A9)(w:World):
    Calls prog 73 #[.agg #[ds,ms],DW a] w fun e w'=>
     e= .returned (.func (.func 115) #[] #[.pointer (some ⟨w.heap.size,0,none⟩), .pointer (some ⟨w.heap.size+1,0,none⟩)])∧
     w'=(w.alloc (.cells #[ds,ms] 30)).alloc (.cells #[.int .i64 a.1, .int .i64 a.2] 33):=by
 unfold DW
 go_enter Tryz.func73,Tryz.ntmps73
 go_wp2
 go_ret
 exact⟨by simp,rfl⟩
end Go.Proofs.YtobclmbkdhbnpaaGreatDoor
namespace Go.Proofs.YtobclmbkdhbnpaaGreatDoor
open Go.RowKit Go.Shelf
attribute [local go_sem] Oper.semAt_some
theorem ZX{n:Nat}{P:Program}{c:Code}{Q:Exit→Act→World→Prop}{a:Act}{w:World}(h:c.wpIn Fence.wide n P (Exit.noGoto Q) a w):(Code.scope c).wpIn Fence.wide n P Q a w:=
 wpIn_wide.2 (wp_scope_straight (wpIn_wide.1 h))
theorem Moves.setc{own:Nat→Prop}{B:Nat}(X:World){p:Addr}(hb:own p.block)(v:Value):Moves own B X (X.setCell p v):=
 have h:Below 0 X (X.setCell p v):=(Below.refl 0 X).setCell (BJ _) v
 ⟨h.os,h.tape,h.output,h.size,fun k _ hk _=>Below.heap_setCell X p v k fun e=>hk (by rw[e];exact hb)⟩
def EC(s:Spc)(a:A9):Option A9:=
 if(AZ s.files a).ino≠1 then some (a.1,(AZ s.files a).parent)
 else if a.1=0 then none else Bu s a.1
def BT(s:Spc):Nat→A9→List A9
 |0,_=>[]
 |k+1,a=>if Ag s.files a then a::(match EC s a with
   |none=>[]
   |some b=>BT s k b)else[]
def Bd(f:AT):Nat:=(f.map fun d=>d.nodes.length).sum
def KeepC(N sb db:Nat)(X Y:World):Prop:=X.heap.size≤Y.heap.size∧Y.heap[sb]?=X.heap[sb]?∧Y.heap[db]?=X.heap[db]?∧(∀b,b<N→Y.heap[b]?=X.heap[b]?)∧
 ∀(b:Nat) (cs:Array Value),X.heap[b]?=some (.cells cs 65)→Y.heap[b]?=some (.cells cs 65)
theorem KeepC.trans{N sb db:Nat}{X Y Z:World}(h:KeepC N sb db X Y)(k:KeepC N sb db Y Z):KeepC N sb db X Z:=
 ⟨Nat.le_trans h.1 k.1,k.2.1.trans h.2.1,k.2.2.1.trans h.2.2.1,fun b hb=>(k.2.2.2.1 b hb).trans (h.2.2.2.1 b hb),fun b cs hb=>k.2.2.2.2 b cs (h.2.2.2.2 b cs hb)⟩
theorem U3{N sb db B:Nat}(hN:N≤B)(hs:sb<B)(hd:db<B)(W:World)(l:Nat)(o o':Obj)(hl:B≤l)(ho:W.heap[l]?=some o)(hc:o.isCells=false):KeepC N sb db W (W.putObj l o'):=
 ⟨(grownBy_putObj' W l o').size,World.putObj_heap_other (by omega),World.putObj_heap_other (by omega),fun b hb=>World.putObj_heap_other (by omega),fun b cs hb=>by
  refine(World.putObj_heap_other fun e=>?_).trans hb;subst e;rw[ho]at hb;injection hb with hb;subst hb
  cases hc⟩
theorem MX{N sb db:Nat}{X Y:World}(h:Below X.heap.size X Y)(hN:N≤X.heap.size)(hs:sb<X.heap.size)(hd:db<X.heap.size):KeepC N sb db X Y:=
 ⟨h.size,h.block _ hs,h.block _ hd,fun b hb=>h.block _ (by omega),fun b cs hb=>(h.block _ (Array.getElem?_eq_some_iff.1 hb).1).trans hb⟩
theorem U4{f:AT}(hf:FlsB f)(j:Nat):Bd (f.take j)≤1000000:=by
 have:∀(l:AT),(∀d∈l,d.nodes.length≤1000)→Bd l≤l.length * 1000:=by
  intro l
  induction l with
  |nil=>intro _;simp[Bd]
  |cons d l ih=>
    intro h;have h1:=ih fun d hd=>h d (List.mem_cons_of_mem _ hd);have h2:=h d (List.mem_cons_self ..);simp only[Bd,List.map_cons,List.sum_cons,List.length_cons]at h1 ⊢;omega
 have h1:=this (f.take j) fun d hd=>hf.nodes d (List.mem_of_mem_take hd);have h2:=hf.few;have h3:(f.take j).length≤f.length:=by simp;omega
 have:(f.take j).length * 1000≤1000 * 1000:=Nat.mul_le_mul_right _ (by omega);omega
theorem ZY{f:AT}{j:Nat}{d:Dvc}(h:f[j]?=some d):Bd (f.take (j+1))=Bd (f.take j)+d.nodes.length:=by
 rw[List.take_add_one,h];simp[Bd]
set_option maxRecDepth 100000 in
set_option maxHeartbeats 2000000 in
theorem U5(n:Nat)(s:Spc)(hs:SpcB s)(a0:A9)(N sb db:Nat)(ds ms:Value)(w:World)(h0:w.heap[sb]?=some (.cells #[ds,ms] 30))(h1:w.heap[db]?=some (.cells #[.int .i64 a0.1, .int .i64 a0.2] 33))
    (hS:SpcIn s N w ds ms) (hNs:N≤sb) (hNd:N≤db) (hne:sb≠db):
    SeqW Fence.wide n prog 115 #[.pointer (some ⟨sb,0,none⟩), .pointer (some ⟨db,0,none⟩)] (fun x:A9=>#[DW x]) (fun b=>b=db) (KeepC N sb db) (fun xs=>xs<+:BT s (Bd s.files) a0)
     (fun xs=>xs=BT s (Bd s.files) a0) (fun pre=>pre<+:BT s (Bd s.files) a0) w:=fun l J Jx W hW hJ hJx hY hst=>by
 have lt_of:∀{W:World} {k:Nat} {o:Obj},W.heap[k]?=some o→k<W.heap.size:=fun h=>(Array.getElem?_eq_some_iff.1 h).1;have k0:W.heap[sb]?=some (.cells #[ds,ms] 30):=Ba h0 hW (lt_of h0);have k1:W.heap[db]?=some (.cells #[.int .i64 a0.1, .int .i64 a0.2] 33):=Ba h1 hW (lt_of h1);have kS:SpcIn s N W ds ms:=hS.below hW hS.1;obtain⟨A,cap,rfl,hcap,hcm,hdev⟩:=kS.devs;obtain⟨c0,f0⟩:=C0 k0;obtain⟨c1,f1⟩:=C0 k1;have hfew:=hs.files.few;have HD:=Lib.hid hdev;have HW:=Lib.hid hW;have HJ:=Lib.hid hJ;have HJx:=Lib.hid hJx;have HY:=Lib.hid hY;clear hdev hS hW hJ hJx hY h0 h1;refine callsIn_of_wp Tryz.func115 rfl trivial ?_ rfl;simp only[Tryz.ntmps115,List.size_toArray,List.length_cons,List.length_nil,Nat.reduceAdd,Nat.reduceSub,Array.replicate_succ,Array.replicate_zero,List.push_toArray,List.append_toArray,List.nil_append,List.cons_append]
 gi_wp2
 refine ZX ?_
 gi_wp2
 gi_loopw [4,14] (fun t i wr=>∃j:Nat,j≤s.files.length∧i= .int .i64 j∧t= .int .i64 (Bd (s.files.take j))∧Below W.heap.size W wr) (fun _ i _=>s.files.length - (intOf i).toNat)
 case atStart=>exact⟨0,BJ _,rfl,rfl,Below.refl _ _⟩
 case round=>
  obtain⟨j,hj,rfl,rfl,hb⟩:=hrel;have hNW:=kS.1;by_cases hlt:j<s.files.length
  ·obtain⟨b,off,rfl,hbN,hrow⟩:=HD.out (by omega);obtain⟨r1,A2,cap2,r2⟩:=hrow j _ (BM hlt);have r1':=(World.cell?_of_block (w:=W) (w':=wr) (a:=⟨b,off+j * 2,none⟩) (hb.block b (by omega))).trans r1;have r2':=(World.cell?_of_block (w:=W) (w':=wr) (a:=⟨b,off+j * 2+1,none⟩) (hb.block b (by omega))).trans r2;have hM:=U4 hs.files j;have hL:=hs.files.nodes _ (List.getElem_mem hlt);have HE:=Lib.hid (ZY (BM hlt));generalize (s.files[j]).nodes.length=L at *;generalize (s.files[j]).next=nx at *;generalize Bd (s.files.take j)=M at *;clear hrow r1 r2 hs
   gi_wp2
   go_roundw
   case rel=>exact⟨j+1,by omega,by go_num,by rw[HE.out];go_num,hb.alloc hb.size _⟩
   case measure=>simp[intOf];omega
  have ej:j=s.files.length:=by omega
  subst ej;have hM:=U4 hs.files s.files.length;rw[List.take_length]at hM;rw[List.take_length];have k0':=Ba k0 hb (lt_of k0);have k1':=Ba k1 hb (lt_of k1);have kS':=kS.below hb hNW;have hJ0:J [] wr:=HJ.out _ _ _ hst (Moves.below hb)
  gi_wp2
  refine wpIn_label ?_
  gi_wp2
  clear c0 f0 c1 f1 k0 k1 kS hst;obtain⟨M,hM0⟩:∃M,Bd s.files=M:=⟨_,rfl⟩;rw[hM0]at hM ⊢;have HM:=Lib.hid hM0;clear hM0
  gi_loopw [25] (fun i wr=>∃(j:Nat) (pre:List A9) (cur:A9),j≤M∧i= .int .i64 j∧J pre wr∧wr.heap[sb]?=some (.cells #[.slice A s.files.length cap,ms] 30)∧
   wr.heap[db]?=some (.cells #[.int .i64 cur.1, .int .i64 cur.2] 33)∧SpcIn s N wr (.slice A s.files.length cap) ms∧Hid (pre++BT s (M - j) cur=BT s M a0)) (fun i _=>M - (intOf i).toNat)
  case atStart=>exact⟨0,[],a0,BJ _,rfl,hJ0,k0',k1',kS',rfl⟩
  case round=>
   obtain⟨j,pre,cur,hj,rfl,hJp,m0,m1,mS,hch⟩:=hrel;clear k0' k1' kS' hJ0;obtain⟨c0,f0⟩:=C0 m0;obtain⟨c1,f1⟩:=C0 m1;by_cases hlt:j<M
   ·have HC:Hid (BT s (M - j) cur=if Ag s.files cur then cur::(match EC s cur with
       |none=>[]
       |some b=>BT s (M - (j+1)) b)else[]):=by
       rw[show M - j=(M - (j+1))+1 by omega];exact Lib.hid rfl
    gi_wp2_with fail
    refine Dw ((callsIn_wide.2 (ZT mS hs cur)).mono ?_);rintro e w1 ⟨⟨eA,em,ec,rfl⟩,hb1⟩;have HB1:=Lib.hid hb1;have HD1:=Lib.hid (G7 s.files cur);obtain⟨nd,hnd⟩:∃nd,AZ s.files cur=nd:=⟨_,rfl⟩;have HN:=Lib.hid hnd;obtain⟨hg,hhg⟩:∃hg,Cc s.files cur=hg:=⟨_,rfl⟩;have HH:=Lib.hid hhg;have n0:=Ba m0 hb1 (lt_of m0);have n1:=Ba m1 hb1 (lt_of m1);have nS:=mS.below hb1 mS.1;have hz:=hb1.size;clear c0 f0 c1 f1;obtain⟨c0,f0⟩:=C0 n0;obtain⟨c1,f1⟩:=C0 n1;rw[hnd,hhg];clear hb1 hnd hhg
    cases hg with
    |false=>
      have HE:Hid (BT s (M - j) cur=[]):=Lib.hid (by rw[HC.out,HD1.out,HH.out];simp)
      gi_wp2
      refine⟨fun _ h=>(by cases h),?_⟩
      gi_wp2
      rw[Exit.noGoto_ret];refine bodyPost_ret (results_none rfl _ _ _) rfl ?_;exact⟨⟨_,rfl⟩, .inl ⟨pre,by rw[HM.out,←hch.out,HE.out];simp,HJ.out _ _ _ hJp (Moves.below (HB1.out.alloc hz _))⟩⟩
    |true=>
      by_cases hk:nd.kind=2
      ·have HE:Hid (BT s (M - j) cur=cur::(match EC s cur with
          |none=>[]
          |some b=>BT s (M - (j+1)) b)):=Lib.hid (by rw[HC.out,HD1.out,HH.out,HN.out];simp[hk])
       obtain⟨W2,hW2⟩:∃W2,w1.alloc (.cells #[.int .i64 nd.ino, .int .i64 2, .int .i64 nd.mode, .int .i64 nd.uid, .int .i64 nd.gid, .int .i64 nd.parent, .string nd.target, .slice eA em ec] 65)=W2:=⟨_,rfl⟩;have hB2:Below wr.heap.size wr W2:=by rw[←hW2];exact HB1.out.alloc hz _
       have hJ2:J pre W2:=HJ.out _ _ _ hJp (Moves.below hB2);have q7:W2.heap[w1.heap.size]?=some (.cells #[.int .i64 nd.ino, .int .i64 2, .int .i64 nd.mode, .int .i64 nd.uid, .int .i64 nd.gid, .int .i64 nd.parent, .string nd.target, .slice eA em ec] 65):=by rw[←hW2];exact Hl _ _
       have q0:=Ba m0 hB2 (lt_of m0);have q1:=Ba m1 hB2 (lt_of m1);have qS:=mS.below hB2 mS.1;obtain⟨fn,tmps,assign,body,hy,hR⟩:=HY.out pre cur W2 hJ2 (by rw[HM.out,←hch.out,HE.out];exact⟨_,by rw[List.append_assoc];rfl⟩);rw[←hW2]at hy;unfold DW at hy;have HH2:=Lib.hid hW2;clear hW2
       gi_wp2
       refine⟨(fun h=>by cases h),?_⟩;rw[HH2.out];refine hR.mono ?_;rintro e W3 (⟨rfl,hJ3,hk3⟩|⟨rfl,hJx3⟩)
       ·obtain⟨z0,z1,z2,z3,z4⟩:=hk3;have r0:=z1.trans q0;have r1:=z2.trans q1;have r7:=z4 _ _ q7;have rS:=qS.keep z0 z3;clear hy hR c0 f0 c1 f1 q0 q1 q7 qS;obtain⟨c0,f0⟩:=C0 r0;obtain⟨c1,f1⟩:=C0 r1;obtain⟨c7,f7⟩:=C0 r7;by_cases hi:nd.ino=1
        ·gi_wp2_with fail
         refine Dw ((callsIn_wide.2 (ZU rS hs cur.1)).mono ?_);rintro e w4 ⟨rfl,hb4⟩;have HP:=Lib.hid (show EC s cur=if cur.1=0 then none else Bu s cur.1 by unfold EC;rw[HN.out,if_neg (by simp[hi])]);obtain⟨pl,hpl⟩:∃pl,Bu s cur.1=pl:=⟨_,rfl⟩;rw[hpl];have HPL:=Lib.hid hpl;have s0:=Ba r0 hb4 (lt_of r0);have s1:=Ba r1 hb4 (lt_of r1);have sS:=rS.below hb4 rS.1;have sz:=hb4.size;have sJ:=HJ.out _ _ _ hJ3 (Moves.below hb4);clear c0 f0 c1 f1 c7 f7 hb4 hpl r0 r1 r7 rS;obtain⟨c0,f0⟩:=C0 s0;obtain⟨c1,f1⟩:=C0 s1;unfold DW
         cases pl with
         |none=>
           have HS:Hid (EC s cur=none):=Lib.hid (by rw[HP.out,HPL.out];split<;>rfl)
           gi_wp2
           rw[Exit.noGoto_ret];refine bodyPost_ret (results_none rfl _ _ _) rfl ?_;exact⟨⟨_,rfl⟩, .inl ⟨pre++[cur],by rw[HM.out,←hch.out,HE.out,HS.out],HJ.out _ _ _ sJ (Moves.below ((Below.refl _ _).alloc (Av _) _))⟩⟩
         |some on=>
           by_cases hd:cur.1=0
           ·have HS:Hid (EC s cur=none):=Lib.hid (by rw[HP.out,if_pos hd])
            gi_wp2
            rw[Exit.noGoto_ret];refine bodyPost_ret (results_none rfl _ _ _) rfl ?_;exact⟨⟨_,rfl⟩, .inl ⟨pre++[cur],by rw[HM.out,←hch.out,HE.out,HS.out],HJ.out _ _ _ sJ (Moves.below ((Below.refl _ _).alloc (Av _) _))⟩⟩
           have HS:Hid (EC s cur=some on):=Lib.hid (by rw[HP.out,if_neg hd,HPL.out])
           gi_wp2
           have t1:=Cj (Kh (Kh s1 0 (.int .i64 on.1)) 1 (.int .i64 on.2)) (.cells #[.int .i64 on.1, .int .i64 on.2] 33);have t0:=Cj (Jw (Jw s0 (p:=⟨db,0,none⟩) hne (.int .i64 on.1)) (p:=⟨db,1,none⟩) hne (.int .i64 on.2)) (.cells #[.int .i64 on.1, .int .i64 on.2] 33)
           have hb5:Below N w4 (((w4.setCell ⟨db,0,none⟩ (.int .i64 on.1)).setCell ⟨db,1,none⟩ (.int .i64 on.2)).alloc (.cells #[.int .i64 on.1, .int .i64 on.2] 33)):=
            (((Below.refl _ _).setCell hNd _).setCell hNd _).alloc (by simpa using sS.1) _
           refine⟨⟨j+1,pre++[cur],on,by omega,by go_num,?_,t0,by simpa using t1,sS.below hb5 (Av _),Lib.hid ?_⟩,by simp[intOf];omega⟩
           ·exact HJ.out _ _ _ (HJ.out _ _ _ (HJ.out _ _ _ sJ (Moves.setc (own:=fun b=>b=db) (p:=⟨db,0,none⟩) _ rfl _)) (Moves.setc (own:=fun b=>b=db) (p:=⟨db,1,none⟩) _ rfl _)) (Moves.below ((Below.refl _ _).alloc (Av _) _))
           rw[←hch.out,HE.out,HS.out];simp
        have HS:Hid (EC s cur=some (cur.1,nd.parent)):=Lib.hid (by unfold EC;rw[HN.out,if_pos hi])
        gi_wp2
        have m1':=Kh r1 1 (.int .i64 nd.parent);have m0':=Jw r0 (p:=⟨db,1,none⟩) hne (.int .i64 nd.parent);have hb4:Below N W3 (W3.setCell ⟨db,1,none⟩ (.int .i64 nd.parent)):=(Below.refl _ _).setCell hNd _;refine⟨⟨j+1,pre++[cur],(cur.1,nd.parent),by omega,by go_num,HJ.out _ _ _ hJ3 (Moves.setc (own:=fun b=>b=db) (p:=⟨db,1,none⟩) _ rfl _),m0',by simpa using m1',rS.below hb4 (Av _),Lib.hid ?_⟩,by simp[intOf];omega⟩;rw[←hch.out,HE.out,HS.out];simp
       clear hy hR
       gi_wp2
       rw[Exit.noGoto_ret];refine bodyPost_ret (results_none rfl _ _ _) rfl ?_;exact⟨⟨_,rfl⟩, .inr ⟨pre++[cur],by rw[HM.out,←hch.out,HE.out];exact⟨_,by rw[List.append_assoc];rfl⟩,hJx3⟩⟩
      have HE:Hid (BT s (M - j) cur=[]):=Lib.hid (by rw[HC.out,HD1.out,HH.out,HN.out];simp[hk])
      gi_wp2
      refine⟨fun _ h=>(by cases h),?_⟩
      gi_wp2
      rw[Exit.noGoto_ret];refine bodyPost_ret (results_none rfl _ _ _) rfl ?_;exact⟨⟨_,rfl⟩, .inl ⟨pre,by rw[HM.out,←hch.out,HE.out];simp,HJ.out _ _ _ hJp (Moves.below (HB1.out.alloc hz _))⟩⟩
   have HC:Hid (BT s (M - j) cur=[]):=by rw[show M - j=0 by omega];exact Lib.hid rfl
   gi_wp2
   rw[Exit.noGoto_normal]
   go_end0
   exact⟨⟨_,rfl⟩, .inl ⟨pre,by rw[HM.out,←hch.out,HC.out];simp,hJp⟩⟩
end Go.Proofs.YtobclmbkdhbnpaaGreatDoor
namespace Go.Proofs.YtobclmbkdhbnpaaGreatDoor
def Cm(s:Spc)(a:A9):Option A9:=if a.2≠1 then some (a.1,(AZ s.files a).parent)else Bu s a.1
def ends(s:Spc):Nat→A9→Prop
 |0,a=>Ag s.files a=false
 |k+1,a=>Ag s.files a=false∨∀b,Cm s a=some b→ends s k b
theorem MY{s:Spc}{dev:Int}{on:A9}(h:Bu s dev=some on):∃m∈s.mounts,m.1=dev∧m.2=on:=by
 unfold Bu at h
 cases hf:s.mounts.find? fun m:Db=>decide (m.1=dev)with
 |none=>rw[hf]at h;cases h
 |some m=>
   rw[hf]at h;injection h with h;exact⟨m,List.mem_of_find?_eq_some hf,by have:=List.find?_some hf;simpa using this,h⟩
theorem JW{f:AT}{a:A9}(h:¬Ag f a=false):∃(q:Nat) (d:Dvc) (m:Nod),a.1=(q:Int)∧f[q]?=some d∧m∈d.nodes∧m.ino=a.2∧AZ f a=m∧m.kind=2:=by
 rw[Bool.not_eq_false,G7,Bool.and_eq_true,decide_eq_true_eq]at h;obtain⟨q,i,d,m,h1,h2,h3,h4,_,h6⟩:=K5 h.1;exact⟨q,d,m,h1,h2,Aj h3,h4,h6,by rw[←h6];exact h.2⟩
theorem Kw{s:Spc}(hv:SpcV s){a:A9}(h:¬Ag s.files a=false):EC s a=Cm s a:=by
 obtain⟨q,d,m,_,_,_,h4,h5,_⟩:=JW h;unfold EC Cm;rw[h5,h4];split
 ·rfl
 split
 ·rename_i h0
  cases ho:Bu s a.1 with
  |none=>rfl
  |some on=>
    obtain⟨m',hm,h1,_⟩:=MY ho;obtain⟨i,hi⟩:=List.getElem?_of_mem hm;have:=(hv.mnt i m' hi).dev1;omega
 rfl
def JX(s:Spc)(dev:Int):Nat:=match s.mounts.findIdx? fun m:Db=>decide (m.1=dev)with
 |none=>0
 |some i=>i+1
theorem U6{s:Spc}(hv:SpcV s){dev:Int}{on:A9}(h:Bu s dev=some on):JX s on.1<JX s dev:=by
 unfold Bu at h
 cases hf:s.mounts.find? fun m:Db=>decide (m.1=dev)with
 |none=>rw[hf]at h;cases h
 |some m=>
   rw[hf]at h;injection h with h;subst h;rw[List.find?_eq_some_iff_getElem]at hf;obtain⟨hp,i,hi,hmi,hbefore⟩:=hf
   have e1:s.mounts.findIdx? (fun m:Db=>decide (m.1=dev))=some i:=by
    rw[List.findIdx?_eq_some_iff_getElem];exact⟨hi,by rw[hmi];exact hp,fun j hj=>by simpa using hbefore j hj⟩
   have hthere:=(hv.mnt i m (by rw[BM hi,hmi])).there;unfold JX;rw[e1]
   cases e2:s.mounts.findIdx? (fun m':Db=>decide (m'.1=m.2.1))with
   |none=>simp
   |some j=>
     simp only;by_cases h0:m.2.1=0
     ·rw[List.findIdx?_eq_some_iff_getElem]at e2;obtain⟨hj,h1,_⟩:=e2;have:=(hv.mnt j _ (BM hj)).dev1;simp only[decide_eq_true_eq]at h1;omega
     unfold C4 Bu at hthere;simp only[Bool.or_eq_true,decide_eq_true_eq,h0,or_false,Option.isSome_map]at hthere
     cases hg:(s.mounts.take i).find? fun m':Db=>decide (m'.1=m.2.1)with
     |none=>rw[hg]at hthere;cases hthere
     |some m'=>
       rw[List.find?_eq_some_iff_getElem]at hg;obtain⟨hp',k,hk,hmk,_⟩:=hg;rw[List.findIdx?_eq_some_iff_getElem]at e2;obtain⟨hj,_,hno⟩:=e2;have hki:k<i:=by simp at hk;omega
       by_cases hjk:j≤k
       ·omega
       have:=hno k (by omega);simp only[List.getElem_take]at hmk;rw[hmk]at this;rw[hp']at this;exact absurd rfl this
theorem ZZ{s:Spc}(hv:SpcV s):∀(p:Nat) (a:A9),JX s a.1<p→∃k,ends s k a:=by
 intro p
 induction p with
 |zero=>intro a h;omega
 |succ p ih=>
   intro a hp;by_cases hd:Ag s.files a=false
   ·exact⟨0,hd⟩
   obtain⟨q,d,m,hq,hfd,_⟩:=JW hd;have hvd:=hv.files.vd d (Aj hfd);obtain⟨rk,hrk⟩:=hvd.rank
   have key:∀(r:Nat) (ino:Int),rk ino<r→∃k,ends s k (a.1,ino):=by
    intro r
    induction r with
    |zero=>intro ino h;omega
    |succ r ihr=>
      intro ino hr;by_cases hd2:Ag s.files (a.1,ino)=false
      ·exact⟨0,hd2⟩
      obtain⟨q',d',m',hq',hfd',hm',hi',hn',hk'⟩:=JW hd2;have:q'=q:=by simp only at hq';omega
      subst this;rw[hfd]at hfd';injection hfd' with hfd';subst hfd';simp only at hi';by_cases h1:ino=1
      ·cases ho:Bu s a.1 with
       |none=>exact⟨1, .inr fun b hb=>by simp[Cm,h1,ho]at hb⟩
       |some on=>
         obtain⟨k,hk⟩:=ih on (by have:=U6 hv ho;omega);refine⟨k+1, .inr fun b hb=>?_⟩;simp[Cm,h1,ho]at hb;rw[←hb];exact hk
      obtain⟨k,hk⟩:=ihr m'.parent (by have:=hrk m' hm' (by omega) hk';rw[hi']at this;omega);refine⟨k+1, .inr fun b hb=>?_⟩;simp[Cm,h1,hn']at hb;rw[←hb];exact hk
   exact key (rk a.2+1) a.2 (by omega)
theorem KF{s:Spc}{a:A9}(h:Ag s.files a=false):∀k,BT s k a=[]
 |0=>rfl
 |k+1=>by unfold BT;rw[h];rfl
theorem GY{s:Spc}{a:A9}(h:¬Ag s.files a=false)(k:Nat):BT s (k+1) a=a::(match EC s a with
    |none=>[]
    |some b=>BT s k b):=by
 conv=>lhs;unfold BT
 rw[if_pos (by simpa using h)];all_goals (cases EC s a<;>rfl)
theorem QZ{s:Spc}(hv:SpcV s):∀(k k':Nat) (a:A9),ends s k a→ends s k' a→BT s k a=BT s k' a:=by
 intro k
 induction k with
 |zero=>intro k' a h _;rw[KF h,KF h]
 |succ k ih=>
   intro k' a h h';by_cases hd:Ag s.files a=false
   ·rw[KF hd,KF hd]
   cases k' with
   |zero=>exact absurd h' hd
   |succ k'=>
     rw[GY hd,GY hd];have h1:=h.resolve_left hd;have h2:=h'.resolve_left hd;rw[←Kw hv hd]at h1 h2
     cases hs:EC s a with
     |none=>rfl
     |some b=>simp only;rw[ih k' b (h1 b hs) (h2 b hs)]
theorem Qa{s:Spc}(hv:SpcV s):∀(k:Nat) (a x:A9),ends s k a→x∈BT s k a→(¬Ag s.files x=false)∧∃j,ends s j x∧(BT s j x).length≤(BT s k a).length:=by
 intro k
 induction k with
 |zero=>intro a x h hx;cases hx
 |succ k ih=>
   intro a x h hx;by_cases hd:Ag s.files a=false
   ·rw[KF hd]at hx;cases hx
   have h1:=h.resolve_left hd;rw[←Kw hv hd]at h1;rw[GY hd]at hx;rcases List.mem_cons.1 hx with rfl|hx
   ·exact⟨hd,k+1,h,Av _⟩
   rw[GY hd]
   cases hs:EC s a with
   |none=>rw[hs]at hx;cases hx
   |some b=>
     rw[hs]at hx;obtain⟨h2,j,h3,h4⟩:=ih b x (h1 b hs) hx;exact⟨h2,j,h3,by simp;omega⟩
theorem U7{s:Spc}(hv:SpcV s):∀(k:Nat) (a:A9),ends s k a→(BT s k a).Nodup:=by
 intro k
 induction k with
 |zero=>intro a h;exact List.nodup_nil
 |succ k ih=>
   intro a h;by_cases hd:Ag s.files a=false
   ·rw[KF hd];exact List.nodup_nil
   have h1:=h.resolve_left hd;rw[←Kw hv hd]at h1
   cases hs:EC s a with
   |none=>rw[GY hd,hs];simp
   |some b=>
     have e:BT s (k+1) a=a::BT s k b:=by rw[GY hd,hs]
     rw[e,List.nodup_cons];refine⟨fun hm=>?_,ih b (h1 b hs)⟩;obtain⟨_,j,h3,h4⟩:=Qa hv k b a (h1 b hs) hm;rw[QZ hv j (k+1) a h3 h,e]at h4;simp at h4;omega
def Kx:Nat→AT→List A9
 |_,[]=>[]
 |q,d::ds=>d.nodes.map (fun n=>((q:Int),n.ino))++Kx (q+1) ds
theorem U8:∀(f:AT) (q:Nat),(Kx q f).length=Bd f
 |[],_=>rfl
 |d::ds,q=>by
   have:=U8 ds (q+1);unfold Bd at this ⊢;simp only[Kx,List.length_append,List.length_map,List.map_cons,List.sum_cons];omega
theorem U9:∀(f:AT) (q i:Nat) (d:Dvc) (m:Nod),f[i]?=some d→m∈d.nodes→(((q+i:Nat):Int),m.ino)∈Kx q f
 |[],_,i,_,_,h,_=>by simp at h
 |d0::ds,q,0,d,m,h,hm=>by
   simp only[List.getElem?_cons_zero,Option.some.injEq]at h;subst h;simp only[Kx,Nat.add_zero];exact List.mem_append_left _ (List.mem_map.2 ⟨m,hm,rfl⟩)
 |d0::ds,q,i+1,d,m,h,hm=>by
   simp only[List.getElem?_cons_succ]at h;have:=U9 ds (q+1) i d m h hm;simp only[Kx];refine List.mem_append_right _ ?_
   rwa [show q+(i+1)=q+1+i by omega]
theorem Za{l:List A9}(hn:l.Nodup):∀{m:List A9},(∀x∈l,x∈m)→l.length≤m.length:=by
 induction l with
 |nil=>intro m _;simp
 |cons x xs ih=>
   intro m h;rw[List.nodup_cons]at hn
   have h1:=ih hn.2 (m:=m.erase x) fun y hy=>by
    have hne:y≠x:=fun e=>hn.1 (e ▸ hy);exact(List.mem_erase_of_ne hne).2 (h y (List.mem_cons_of_mem _ hy))
   have h2:=List.length_erase_of_mem (h x (List.mem_cons_self ..));have h3:0<m.length:=List.length_pos_of_mem (h x (List.mem_cons_self ..));simp only[List.length_cons];omega
theorem Zb{s:Spc}(hv:SpcV s){k:Nat}{a:A9}(h:ends s k a):(BT s k a).length≤Bd s.files:=by
 rw[←U8 s.files 0];refine Za (U7 hv k a h) fun x hx=>?_;obtain⟨hd,_⟩:=Qa hv k a x h hx;obtain⟨q,d,m,h1,h2,h3,h4,_⟩:=JW hd;have:=U9 s.files 0 q d m h2 h3;rw[Nat.zero_add,h4,←h1]at this;exact this
theorem Zc{s:Spc}(hv:SpcV s):∀(k m:Nat) (a:A9),ends s k a→(BT s k a).length≤m→ends s m a:=by
 intro k
 induction k with
 |zero=>
   intro m a h _
   cases m with
   |zero=>exact h
   |succ m=>exact .inl h
 |succ k ih=>
   intro m a h hl;by_cases hd:Ag s.files a=false
   ·cases m with
    |zero=>exact hd
    |succ m=>exact .inl hd
   have h1:=h.resolve_left hd;rw[GY hd]at hl
   cases m with
   |zero=>simp at hl
   |succ m=>
     refine .inr fun b hb=>?_;have hb':=hb;rw[←Kw hv hd]at hb';rw[hb']at hl;exact ih m b (h1 b hb) (by simpa using hl)
theorem H5{s:Spc}(hv:SpcV s)(a:A9):ends s (Bd s.files) a:=by
 obtain⟨k,hk⟩:=ZZ hv (JX s a.1+1) a (Nat.lt_succ_self _);exact Zc hv k _ a hk (Zb hv hk)
end Go.Proofs.YtobclmbkdhbnpaaGreatDoor
namespace Go.Proofs.YtobclmbkdhbnpaaGreatDoor
theorem Zd{s:Spc}(hv:SpcV s):∀(k:Nat) (a x:A9),ends s k a→x∈BT s k a→∃j,ends s j x∧BT s j x<:+BT s k a:=by
 intro k
 induction k with
 |zero=>intro a x h hx;cases hx
 |succ k ih=>
   intro a x h hx;by_cases hd:Ag s.files a=false
   ·rw[KF hd]at hx;cases hx
   have h1:=h.resolve_left hd;rw[←Kw hv hd]at h1;rw[GY hd]at hx;rcases List.mem_cons.1 hx with rfl|hx
   ·exact⟨k+1,h,List.suffix_refl _⟩
   rw[GY hd]
   cases hs:EC s a with
   |none=>rw[hs]at hx;cases hx
   |some b=>
     rw[hs]at hx;obtain⟨j,h3,h4⟩:=ih b x (h1 b hs) hx;exact⟨j,h3,h4.trans (List.suffix_cons _ _)⟩
section
variable {s:Spc}(hv:SpcV s)
include hv
theorem Ze{a b:A9}(h:a∈BT s (Bd s.files) b):BT s (Bd s.files) a<:+BT s (Bd s.files) b:=by
 obtain⟨j,h1,h2⟩:=Zd hv _ b a (H5 hv b) h
 rwa [QZ hv j (Bd s.files) a h1 (H5 hv a)]at h2
theorem OA{a:A9}(h:Ag s.files a=true):∃t,BT s (Bd s.files) a=a::t:=by
 have hd:¬Ag s.files a=false:=by rw[h];simp
 have:=H5 hv a
 cases hm:Bd s.files with
 |zero=>rw[hm]at this;exact absurd this hd
 |succ m=>exact⟨_,GY hd m⟩
theorem Zf{a b:A9}(h:a∈BT s (Bd s.files) b):Ag s.files a=true:=by
 have:=(Qa hv _ b a (H5 hv b) h).1
 simpa using this
end
end Go.Proofs.YtobclmbkdhbnpaaGreatDoor
namespace Go.Proofs.YtobclmbkdhbnpaaGreatDoor
open Go.RowKit Go.Shelf
section
variable {F:Fence}{n:Nat}{P:Program}
theorem UA{α:Type}{g:Operand}{ps:Array Tmp}{assign body:Code}{Q:Exit→Act→World→Prop}{a:Act}{w:World}
    (hro:F.round=none) (h1:1≤n) {gf:Nat} {lb:Array Value} (hg:a.eval g= .func (.func gf) #[] lb) (hFg:F.fn gf) (eg:∀args w,(callFunc gf args).run P w= .ok (.enter gf args) w)
    {encs:α→Array Value} {own:Nat→Prop} {Kp:World→World→Prop} {Pf:List α→Prop} {S Sp:List α→Prop} {w0:World} (hseq:SeqW F (n - 1) P gf lb encs own Kp Pf S Sp w0)
    (hown:∀b,own b→b<w.heap.size) (hKt:∀{A B C:World},Kp A B→Kp B C→Kp A C) (hKb:∀(W:World) (l:Nat) (o o':Obj),w.heap.size≤l→W.heap[l]?=some o→o.isCells=false→Kp W (W.putObj l o'))
    (hb0:Below w0.heap.size w0 w) (hps:∀x,(encs x).size=ps.size)
    (I:List α→World→Prop) (Ix:Code→List α→World→Prop) (hI:∀s X Y,I s X→Moves own w.heap.size X Y→I s Y) (hIx:∀c s X Y,Ix c s X→Moves own w.heap.size X Y→Ix c s Y) (h0:I [] w) (a₁:α→World→Act) (w₁:α→World→World) (hw1:∀x W,w.heap.size+2≤W.heap.size→Below W.heap.size W (w₁ x W)∧Kp W (w₁ x W))
    (hassign:∀(l:Nat) (x:α) (W:World) (K:Act→World→Prop),w.heap.size+2≤W.heap.size→K (a₁ x W) (w₁ x W)→
      assign.wpIn (F.inRound l) (n - 1 - 1) P (Exit.then K (fun _ _ _=>False)) {tmps:=(ps.zip (encs x)).foldl (fun t (p,v)=>t.setIfInBounds p v) a.tmps,defers:=[]} W)
    (hbody:∀(l:Nat) (pre:List α) (x:α) (W0 W:World),I pre W→Pf (pre++[x])→w.heap.size+2≤W0.heap.size→(w₁ x W0).heap.size≤W.heap.size→(∀(k:Nat) (o:Obj),(w₁ x W0).heap[k]?=some o→o.isCells=true→W.heap[k]?=some o)→w.heap.size≤l→(∃r,W.heap[l]?=some (.loop r))→
      body.wpIn (F.inRound l) (n - 1 - 1) P (ownPostG w.heap.size Kp I Ix (pre++[x]) W) (a₁ x W0) W)
    (hdone:∀(D:Nat) (xs:List α) (W:World),w.heap.size≤D→S xs→I xs W→W.heap[D]?=some (.deferred (some []))→Q .normal {a with defers:={target:= .collected D,args:=#[]}::a.defers} W)
    (hstop:∀(D:Nat) (c:Code) (pre:List α) (W:World),w.heap.size≤D→Sp pre→Ix c pre W→W.heap[D]?=some (.deferred (some []))→c.wpIn F n P Q {a with defers:={target:= .collected D,args:=#[]}::a.defers} W):
    (Code.rangeFunc g ps assign body).wpIn F n P Q a w:=by
 refine wpIn_rangeFunc ?_;intro fn hfn;rw[hro];obtain⟨rec,hrec⟩:∃rec:LoopState→Option Code→Loop,rec=fun st pe=>{state:=st,pending:=pe,fn,tmps:=a.tmps,params:=ps,assign,body,defers:=w.heap.size}:=⟨_,rfl⟩;obtain⟨W1,hW1⟩:∃W1,(w.alloc (.deferred (some []))).alloc (.loop (rec .ready none))=W1:=⟨_,rfl⟩;have hbw:Below w.heap.size w W1:=by rw[←hW1];exact Gy w _ _
 have hsz:W1.heap.size=w.heap.size+2:=by rw[←hW1];simp
 have hL1:W1.heap[w.heap.size+1]?=some (.loop (rec .ready none)):=by rw[←hW1];exact Hn _ _ _
 have hK1:W1.heap[w.heap.size]?=some (.deferred (some [])):=by rw[←hW1];exact Hm _ _ _
 have hn0:¬own w.heap.size:=fun h=>by have:=hown _ h;omega
 have hn1:¬own (w.heap.size+1):=fun h=>by have:=hown _ h;omega
 refine⟨w.heap.size+1,[{target:= .collected w.heap.size,args:=#[]}],W1,{target:= .fn (.func gf) lb,args:=#[.func (.yield (w.heap.size+1)) #[] #[]]},W1,gf,
  #[.func (.yield (w.heap.size+1)) #[] #[]]++lb,W1,?_,?_,?_,?_,fun _=>h1,?_⟩
 ·rw[←hW1,hrec];exact run_enterLoop_outer _ _ _ _ _
 ·simp only[resolve,hg];simp[go_sem]
 ·intro f' hf';simp[Target.leads]at hf';subst hf';exact hFg
 ·simp[invoke,go_sem,eg]
 have lt_of:∀{W:World} {k:Nat} {o:Obj},W.heap[k]?=some o→k<W.heap.size:=fun h=>(Array.getElem?_eq_some_iff.1 h).1;have keep:∀{X Y:World} {k:Nat} {o:Obj},Moves own W1.heap.size X Y→X.heap[k]?=some o→k<W1.heap.size→¬own k→Y.heap[k]?=some o:=fun hm hx hk hn=>(hm.block _ (lt_of hx) hn (.inl hk)).trans hx
 refine(hseq (w.heap.size+1)
  (fun pre W=>I pre W∧W.heap[w.heap.size+1]?=some (.loop (rec .ready none))∧W.heap[w.heap.size]?=some (.deferred (some [])))
  (fun pre W=>∃c,Ix c pre W∧W.heap[w.heap.size+1]?=some (.loop (rec .done (some c)))∧W.heap[w.heap.size]?=some (.deferred (some [])))
  W1 (hb0.trans (hbw.mono hb0.size))
  (fun s X Y hs hm=>⟨hI s X Y hs.1 (hm.mono (by omega)),keep hm hs.2.1 (by omega) hn1,keep hm hs.2.2 (by omega) hn0⟩)
  (fun s X Y hs hm=>by
    obtain⟨c,hc,hl,hk⟩:=hs
    exact⟨c,hIx c s X Y hc (hm.mono (by omega)),keep hm hl (by omega) hn1,keep hm hk (by omega) hn0⟩)
  ?_ ⟨hI _ _ _ h0 (.below hbw),hL1,hK1⟩).mono ?_
 ·rintro pre x W0 ⟨hi0,hl0,hk0⟩ hpf;have hlt0:w.heap.size+1<W0.heap.size:=lt_of hl0;obtain⟨hbV,hkV⟩:=hw1 x W0 hlt0;obtain⟨W,hWe⟩:∃W,w₁ x W0=W:=⟨_,rfl⟩;rw[hWe]at hbV hkV;have hi:I pre W:=hI _ _ _ hi0 (.below hbV);have hl:=(hbV.block _ (by omega)).trans hl0;have hk:=(hbV.block _ (by omega)).trans hk0;have hlt:w.heap.size+1<W.heap.size:=lt_of hl;have hy:=run_yield (P:=P) (args:=encs x) hl0 (by rw[hrec];exact hps x);rw[hrec]at hy;refine⟨fn,_,assign,body,hy,roundIn_of_wpIn hfn (hassign _ x W0 _ hlt0 ⟨_,run_beginRound (by rw[hWe];exact hl) (by rw[hrec]),?_⟩)⟩;rw[hWe];have hl2:(W.putObj (w.heap.size+1) (.loop {rec .ready none with state:= .busy})).heap[w.heap.size+1]?=some (.loop {rec .ready none with state:= .busy}):=World.putObj_heap_same hlt;have hk2:(W.putObj (w.heap.size+1) (.loop {rec .ready none with state:= .busy})).heap[w.heap.size]?=some (.deferred (some [])):=(World.putObj_heap_other (by omega)).trans hk;have hw2:Kp W0 (W.putObj (w.heap.size+1) (.loop {rec .ready none with state:= .busy})):=hKt hkV (hKb _ _ _ _ (by omega) hl rfl)
  refine wpIn_mono (hbody _ pre x W0 _ (hI _ _ _ hi (.put_ _ hl rfl (by omega))) hpf hlt0 (by rw[hWe];exact(grownBy_putObj' W (w.heap.size+1) _).size) (fun k o hko hoc=>by
   rw[hWe]at hko;refine(World.putObj_heap_other fun e=>?_).trans hko;subst e;rw[hl]at hko;injection hko with hko;subst hko
   cases hoc) (by omega) ⟨_,hl2⟩) ?_
  have fin:∀(jump:Option Code) (W3:World),KeepsFrom w.heap.size (W.putObj (w.heap.size+1) (.loop {rec .ready none with state:= .busy})) W3→
      (Instr.endRound (w.heap.size+1) jump).run P W3= .ok (.bool jump.isNone) (W3.putObj (w.heap.size+1) (.loop (rec (if jump.isNone then .ready else .done) jump)))∧
      W3.heap[w.heap.size+1]?=some (.loop {rec .ready none with state:= .busy})∧
      (W3.putObj (w.heap.size+1) (.loop (rec (if jump.isNone then .ready else .done) jump))).heap[w.heap.size+1]?=some (.loop (rec (if jump.isNone then .ready else .done) jump))∧
      (W3.putObj (w.heap.size+1) (.loop (rec (if jump.isNone then .ready else .done) jump))).heap[w.heap.size]?=some (.deferred (some [])):=fun jump W3 hk3=>by
   have hl3:=hk3.same _ _ (by omega) hl2 rfl;have:=run_endRound (P:=P) jump hl3;rw[hrec]at this ⊢;exact⟨this,by rw[hrec]at hl3;exact hl3,World.putObj_heap_same (lt_of hl3),(World.putObj_heap_other (by omega)).trans (hk3.same _ _ (Av _) hk2 rfl)⟩
  rintro e a3 W3 hp
  cases e with
  |normal=>
    obtain⟨hk3,hkp3,hi3⟩:=hp;obtain⟨hr,hl3,hl4,hk4⟩:=fin none W3 hk3;exact⟨_,_,hr, .inl ⟨rfl,⟨hI _ _ _ hi3 (.put_ _ hl3 rfl (by omega)),hl4,hk4⟩,hKt (hKt hw2 hkp3) (hKb _ _ _ _ (by omega) hl3 rfl)⟩⟩
  |ret=>
    obtain⟨hk3,hi3⟩:=hp;obtain⟨hr,hl3,hl4,hk4⟩:=fin (some .ret) W3 hk3;exact⟨_,_,hr, .inr ⟨rfl, .ret,hIx _ _ _ _ hi3 (.put_ _ hl3 rfl (by omega)),hl4,hk4⟩⟩
  |exit id=>
    obtain⟨hk3,hi3⟩:=hp;obtain⟨hr,hl3,hl4,hk4⟩:=fin (some (.exit id)) W3 hk3;exact⟨_,_,hr, .inr ⟨rfl, .exit id,hIx _ _ _ _ hi3 (.put_ _ hl3 rfl (by omega)),hl4,hk4⟩⟩
  |goto t=>
    obtain⟨hk3,hi3⟩:=hp;obtain⟨hr,hl3,hl4,hk4⟩:=fin (some (.goto t)) W3 hk3;exact⟨_,_,hr, .inr ⟨rfl, .goto t,hIx _ _ _ _ hi3 (.put_ _ hl3 rfl (by omega)),hl4,hk4⟩⟩
  |panic ch=>exact hp.elim
  |outgrown=>exact hp.elim
 rintro e W2 ⟨⟨v,rfl⟩,(⟨xs,hS,hi,hl,hk⟩|⟨pre,hSp,c,hi,hl,hk⟩)⟩
 ·exact⟨none,_,by have:=run_endLoop (P:=P) hl (by rw[hrec];simp);rw[hrec]at this;exact this,hdone _ xs _ (Av _) hS (hI _ _ _ hi (.put_ _ hl rfl (by omega))) ((World.putObj_heap_other (by omega)).trans hk)⟩
 exact⟨some c,_,by have:=run_endLoop (P:=P) hl (by rw[hrec];simp);rw[hrec]at this;exact this,hstop _ c pre _ (Av _) hSp (hIx _ _ _ _ hi (.put_ _ hl rfl (by omega))) ((World.putObj_heap_other (by omega)).trans hk)⟩
end
theorem Bw{W:World}{k:Nat}{o:Obj}(h:W.heap[k]?=some o):k<W.heap.size:=(Array.getElem?_eq_some_iff.1 h).1
attribute [local go_sem] Oper.semAt_some
set_option maxRecDepth 100000 in
set_option maxHeartbeats 2000000 in
theorem Zg(n:Nat)(hn:Hid (1≤n))(s:Spc)(hs:SpcB s)(root dir:A9)(ds ms:Value)(w:World)(h:SpcIn s w.heap.size w ds ms):
    CallsIn Fence.wide n prog 48 #[.agg #[ds,ms],DW root,DW dir] w fun e w'=>e= .returned (.bool (decide (root∈BT s (Bd s.files) dir)))∧Below w.heap.size w w':=by
 obtain⟨rd,ri⟩:=root;obtain⟨dd,di⟩:=dir;unfold DW;refine callsIn_of_wp_marks Tryz.func48 rfl trivial ?_ rfl;simp only[Tryz.ntmps48,List.size_toArray,List.length_cons,List.length_nil,Nat.reduceAdd,Nat.reduceSub,Array.replicate_succ,Array.replicate_zero,List.push_toArray,List.append_toArray,List.nil_append,List.cons_append]
 gi_wp2_with fail
 obtain⟨W4,hW4⟩:∃W4,(((w.alloc (.cells #[ds,ms] 30)).alloc (.cells #[.int .i64 rd, .int .i64 ri] 33)).alloc (.cells #[.int .i64 dd, .int .i64 di] 33)).alloc (.cells #[.bool false] 4)=W4:=⟨_,rfl⟩;have hz4:W4.heap.size=w.heap.size+4:=by rw[←hW4];simp
 have hB4:Below w.heap.size w W4:=by rw[←hW4];exact Pk _ _ _ _ _
 have kR:W4.heap[w.heap.size+1]?=some (.cells #[.int .i64 rd, .int .i64 ri] 33):=by rw[←hW4];exact Pl _ _ _ _ _
 have kE:Boxed W4 (w.heap.size+1+1+1) 4 (.bool false):=by rw[←hW4];exact Pm _ _ _ _ _
 rw[hW4];have HZ4:=Lib.hid hz4;clear hW4;refine Dw ((callsIn_wide.2 (U2 ds ms (dd,di) W4)).mono ?_);rintro e W6 ⟨rfl,hW6⟩;have hB6:Below W4.heap.size W4 W6:=by rw[hW6];exact Gy _ _ _
 have hz6:W6.heap.size=w.heap.size+6:=by rw[hW6];simp[hz4]
 have kS:W6.heap[W4.heap.size]?=some (.cells #[ds,ms] 30):=by rw[hW6];exact Hm _ _ _
 have kD:W6.heap[W4.heap.size+1]?=some (.cells #[.int .i64 dd, .int .i64 di] 33):=by rw[hW6];exact Hn _ _ _
 have kR6:=Ba kR hB6 (by omega);have kE6:Boxed W6 (w.heap.size+1+1+1) 4 (.bool false):=Ba kE hB6 (by omega);have hBw:Below w.heap.size w W6:=hB4.trans (hB6.mono (by omega));have kSp:=h.below hBw (Av _);have HZ6:=Lib.hid hz6;clear hW6 kR kE hB4 hB6 hz6 hz4
 gi_wp2_with fail
 refine UA rfl hn.out (gf:=115) rfl trivial (enters_of Tryz.func115 (by kernel_rfl) rfl)
  (U5 (n - 1) s hs (dd,di) w.heap.size W4.heap.size (W4.heap.size+1) ds ms W6 kS kD kSp (by have:=HZ4.out;omega) (by have:=HZ4.out;omega) (by omega))
  (fun b hb=>by have:=HZ4.out;have:=HZ6.out;omega) KeepC.trans (fun W l o o' hl ho hc=>by have:=HZ4.out;have:=HZ6.out;exact U3 (B:=W6.heap.size) (by omega) (by omega) (by omega) W l o o' hl ho hc) (Below.refl _ _) (fun _=>rfl)
  (fun pre W=>W.heap[w.heap.size+1]?=some (.cells #[.int .i64 rd, .int .i64 ri] 33)∧Boxed W (w.heap.size+1+1+1) 4 (.bool false)∧(rd,ri)∉pre∧Below w.heap.size w W)
  (fun c pre W=>c= .ret∧Boxed W (w.heap.size+1+1+1) 4 (.bool true)∧(rd,ri)∈pre∧Below w.heap.size w W)
  (fun s X Y h hm=>⟨(hm.block _ (Bw h.1) (by have:=HZ4.out;omega) (.inr ⟨_,h.1,rfl⟩)).trans h.1,hm.boxed h.2.1 (by have:=HZ4.out;omega),h.2.2.1,hm.under h.2.2.2 (Av _) (fun b hb=>by have:=HZ4.out;omega) (by have:=HZ6.out;omega)⟩)
  (fun c s X Y h hm=>⟨h.1,hm.boxed h.2.1 (by have:=HZ4.out;omega),h.2.2.1,hm.under h.2.2.2 (Av _) (fun b hb=>by have:=HZ4.out;omega) (by have:=HZ6.out;omega)⟩)
  ⟨kR6,kE6,by simp,hBw⟩
  (fun x W=>{tmps:=#[.agg #[ds,ms], .agg #[.int .i64 rd, .int .i64 ri], .agg #[.int .i64 dd, .int .i64 di], .pointer (some ⟨w.heap.size,0,none⟩), .pointer (some ⟨w.heap.size+1,0,none⟩), .pointer (some ⟨w.heap.size+1+1,0,none⟩), .pointer (some ⟨w.heap.size+1+1+1,0,none⟩), .pointer (some ⟨W.heap.size,0,none⟩), .agg #[ds,ms], .agg #[.int .i64 dd, .int .i64 di],
    .func (.func 115) #[] #[.pointer (some ⟨W4.heap.size,0,none⟩), .pointer (some ⟨W4.heap.size+1,0,none⟩)], .agg #[.int .i64 x.1, .int .i64 x.2],undef,undef,undef],defers:=[]})
  (fun x W=>W.alloc (.cells #[.int .i64 x.1, .int .i64 x.2] 33))
  (fun x W hsz=>⟨FM _ _,by have:=HZ4.out;have:=HZ6.out;exact MX (FM _ _) (by omega) (by omega) (by omega)⟩) ?assign ?body ?done ?stop
 case assign=>
  intro l x W K hsz hK;unfold DW
  gi_wp2
  exact hK
 case body=>
  rintro l pre x W0 W ⟨c1,cE,hnm,hbw⟩ _ hsz hszW hcell _ _;have cX:=hcell _ _ (Hl W0 (.cells #[.int .i64 x.1, .int .i64 x.2] 33)) rfl;have HN:=Lib.hid hnm;have HZ:=Lib.hid hsz;clear hnm hsz hcell;obtain⟨c1',f1'⟩:=C0 c1;obtain⟨cX',fX'⟩:=C0 cX;have cE':=cE.cell;have fE':=cE.frozen;have h4:=HZ4.out;have h6:=HZ6.out;simp only[Lw]at hszW
  gi_wp2_with fail
  ·exact⟨MV (KD (Below.refl _ _)) (by omega) _,rfl,cE.set _,List.mem_append_right _ (by simp;exact Prod.ext (by simp[*]) (by simp[*])),hbw.setCell (by show w.heap.size≤w.heap.size+1+1+1;omega) _⟩
  all_goals
   have hz:=HZ.out
   exact⟨KD (Below.refl _ _),MX (Below.refl _ _) (by omega) (by omega) (by omega),c1,cE,by
    intro hm;rcases List.mem_append.1 hm with hm|hm
    ·exact HN.out hm
    simp only[List.mem_singleton]at hm;subst hm
    simp_all,hbw⟩
 case done=>
  rintro D xs W hD hS ⟨_,hc,hnm,hbw⟩ hK;have HS:=Lib.hid hS;have HN:=Lib.hid hnm;clear hS hnm;have hcell:=hc.cell;have hfz:=hc.frozen
  gi_wp2
  have h4:=HZ4.out;have h6:=HZ6.out;refine⟨by simp, .inl ⟨_,_,rfl,run_takeDeferred ((KeepsOthers.setCell _ _ _).same D _ hK rfl),?_⟩⟩;have hcb:=(Hu (hc.set (.bool false)) (show w.heap.size+1+1+1≠D by omega) (.deferred none)).cell;refine⟨.bool false,by simp[results,Tryz.f48,go_sem,hcb],by rw[decide_eq_false (by rw[←HS.out];exact HN.out)],KE (hbw.setCell (p:=⟨w.heap.size+1+1+1,0,none⟩) (by show w.heap.size≤w.heap.size+1+1+1;omega) _) (by omega) _⟩
 case stop=>
  rintro D c pre W hD hSp ⟨rfl,hc,hnm,hbw⟩ hK;have HS:=Lib.hid hSp;have HN:=Lib.hid hnm;clear hSp hnm;have hcell:=hc.cell
  gi_wp2
  have h4:=HZ4.out;have h6:=HZ6.out;refine⟨by simp, .inl ⟨_,_,rfl,run_takeDeferred hK,?_⟩⟩;have hcb:=(Hu hc (show w.heap.size+1+1+1≠D by omega) (.deferred none)).cell;refine⟨.bool true,by simp[results,Tryz.f48,go_sem,hcb],by rw[decide_eq_true (HS.out.subset HN.out)],KE hbw (by omega) _⟩
end Go.Proofs.YtobclmbkdhbnpaaGreatDoor
namespace Go.Proofs.YtobclmbkdhbnpaaGreatDoor
open Go.RowKit Go.Shelf
attribute [local go_sem] Oper.semAt_some
end Go.Proofs.YtobclmbkdhbnpaaGreatDoor
namespace Go.Proofs.YtobclmbkdhbnpaaGreatDoor
open Go.RowKit
def Ew(s:Spc)(a:A9):Nod:=AZ s.files (a.1,(AZ s.files a).parent)
def C9(s:Spc)(a:A9):AE:=(((Ew s a).entries.find? fun e:B1=>decide (e.2=a.2)).map (·.1)).getD ⟨#[]⟩
section
theorem Zh(s:Spc)(a:A9)(hs:SpcB s):AFn prog 163 [.agg (Ar s), .agg (AB a)] (fun r=>r= .v (.string (C9 s a))):=by
 have hen:=Kc hs.files (a.1,(AZ s.files a).parent);change (Ew s a).entries.length≤1000 at hen;refine enter Tryz.func163 rfl rfl rfl rfl rfl 0 rfl ?_;refine w_ (b_ (h:=b_ (h:=a_ (h:=e_ (w_ (f_ (h:=l_ (h:=l_ (h:=?_)))))))));refine A7 rfl (AK (Gw s.files a hs.files) ?_);rintro r rfl
 skip
 refine m_ (h:=x_ (h:=x_ (h:=Af (h:=s_ (h:=a_ (h:=e_ (w_ (f_ (h:=l_ (h:=f_ (h:=l_ (h:=f_ (h:=l_ (h:=Aa (h:=?_)))))))))))))));refine A7 rfl (AK (Gw s.files (a.1,(AZ s.files a).parent) hs.files) ?_);rintro r rfl
 skip
 refine m_ (h:=x_ (h:=x_ (h:=Af (h:=s_ (h:=a_ (h:=e_ (q_ (w_ (f_ (h:=l_ (h:=n_ (h:=m_ (h:=e_ (Ao (?_)))))))))))))));refine Bm (fun m t=>∃j:Nat,j≤(Ew s a).entries.length∧m=(Ew s a).entries.length - j∧(∀i y,i<j→(Ew s a).entries[i]?=some y→decide (y.2=a.2)=false)∧t=⟨look [(3, .bp 1 0),(30, .sl 2 ((Ew s a).entries.map C7) none),(31, .v (.int .i64 (((Ew s a).entries.map C7).length:Int))),(32, .v (.int .i64 (j:Int)))],⟨[Ar s,AB a],[]⟩⟩) ((Ew s a).entries.length) ((wk 2 0)) (⟨0,by omega,rfl,fun i y hi=>by omega,rfl⟩) ?_;rintro m t ⟨j,hj,rfl,ha,rfl⟩;refine w_ (BO (h:=e_ (q_ (?_))));refine A8 rfl (fun hb1=>?_) (fun hb1=>?_)
 ·have hc1:=bp hb1;obtain⟨hlt,x,hy,hrow, -⟩:=CF C7 hc1;refine AN (q_ (Ao (w_ (i_ (h:=l_ (h:=Af (h:=s_ (h:=e_ (w_ (f_ (h:=l_ (h:=f_ (h:=l_ (h:=Ac (h:=e_ (?_))))))))))))))));refine A8 rfl (fun hb2=>?_) (fun hb2=>?_)
  ·have hc2:=bp hb2;refine w_ (f_ (h:=l_ (h:=a_ (h:=e_ (A6 (AR (A4 (A4 (AR (A4 (?_)))))))))));refine AA ?_;rw[show C9 s a=x.1 by simp only[C9];rw[GM hy (by simpa using hc2) ha];rfl];rfl
  have hc2:=bp hb2;refine BA (Au (t_ (AX (B2 (h:=m_ (h:=AW (?_)))))));refine AJ ?_;refine⟨_,_,?_,⟨j+1,by omega,rfl,EW hy ha (by simpa using hc2),rfl⟩,(wk 2 0)⟩;omega
 have hc1:=bp hb1;have e3:=Cx C7 hj hc1;subst e3;refine BU (Am (Am (BV (t_ (w_ (a_ (h:=e_ (A6 (?_)))))))));refine AA ?_;rw[show C9 s a=⟨#[]⟩ by simp only[C9];rw[GN ha];rfl];rfl
end
end Go.Proofs.YtobclmbkdhbnpaaGreatDoor
namespace Go.Proofs.YtobclmbkdhbnpaaGreatDoor
open Go.RowKit Go.Shelf
section
variable {F:Fence}{n:Nat}{P:Program}
theorem Zi{α:Type}{g:Operand}{ps:Array Tmp}{assign body:Code}{Q:Exit→Act→World→Prop}{a:Act}{w:World}
    {l₀:Nat} {r₀:Loop} (hro:F.round=some l₀) (hl₀:w.heap[l₀]?=some (.loop r₀)) (h1:1≤n) {gf:Nat} {lb:Array Value} (hg:a.eval g= .func (.func gf) #[] lb) (hFg:F.fn gf) (eg:∀args w,(callFunc gf args).run P w= .ok (.enter gf args) w)
    {encs:α→Array Value} {own:Nat→Prop} {Kp:World→World→Prop} {Pf:List α→Prop} {S Sp:List α→Prop} {w0:World} (hseq:SeqW F (n - 1) P gf lb encs own Kp Pf S Sp w0)
    (hown:∀b,own b→b<w.heap.size) (hKt:∀{A B C:World},Kp A B→Kp B C→Kp A C) (hKb:∀(W:World) (l:Nat) (o o':Obj),w.heap.size≤l→W.heap[l]?=some o→o.isCells=false→Kp W (W.putObj l o'))
    (hb0:Below w0.heap.size w0 w) (hps:∀x,(encs x).size=ps.size)
    (I:List α→World→Prop) (Ix:Code→List α→World→Prop) (hI:∀s X Y,I s X→Moves own w.heap.size X Y→I s Y) (hIx:∀c s X Y,Ix c s X→Moves own w.heap.size X Y→Ix c s Y) (h0:I [] w) (a₁:α→Act)
    (hassign:∀(l:Nat) (x:α) (W:World) (K:Act→World→Prop),K (a₁ x) W→
      assign.wpIn (F.inRound l) (n - 1 - 1) P (Exit.then K (fun _ _ _=>False)) {tmps:=(ps.zip (encs x)).foldl (fun t (p,v)=>t.setIfInBounds p v) a.tmps,defers:=[]} W)
    (hbody:∀(l:Nat) (pre:List α) (x:α) (W:World),I pre W→Pf (pre++[x])→w.heap.size+1≤W.heap.size→body.wpIn (F.inRound l) (n - 1 - 1) P (ownPostG w.heap.size Kp I Ix (pre++[x]) W) (a₁ x) W)
    (hdone:∀(xs:List α) (W:World),S xs→I xs W→Q .normal a W)
    (hstop:∀(c:Code) (pre:List α) (W:World),Sp pre→Ix c pre W→c.wpIn F n P Q a W):
    (Code.rangeFunc g ps assign body).wpIn F n P Q a w:=by
 refine wpIn_rangeFunc ?_;intro fn hfn;rw[hro];obtain⟨rec,hrec⟩:∃rec:LoopState→Option Code→Loop,rec=fun st pe=>{state:=st,pending:=pe,fn,tmps:=a.tmps,params:=ps,assign,body,defers:=r₀.defers}:=⟨_,rfl⟩;obtain⟨W1,hW1⟩:∃W1,w.alloc (.loop (rec .ready none))=W1:=⟨_,rfl⟩;have hbw:Below w.heap.size w W1:=by rw[←hW1];exact FM w _
 have hsz:W1.heap.size=w.heap.size+1:=by rw[←hW1];simp
 have hL1:W1.heap[w.heap.size]?=some (.loop (rec .ready none)):=by rw[←hW1];exact Hl _ _
 have hn1:¬own w.heap.size:=fun h=>by have:=hown _ h;omega
 refine⟨w.heap.size,[],W1,{target:= .fn (.func gf) lb,args:=#[.func (.yield w.heap.size) #[] #[]]},W1,gf,
  #[.func (.yield w.heap.size) #[] #[]]++lb,W1,?_,?_,?_,?_,fun _=>h1,?_⟩
 ·rw[←hW1,hrec];exact run_enterLoop_inner hl₀ _ _ _ _ _
 ·simp only[resolve,hg];simp[go_sem]
 ·intro f' hf';simp[Target.leads]at hf';subst hf';exact hFg
 ·simp[invoke,go_sem,eg]
 have lt_of:∀{W:World} {k:Nat} {o:Obj},W.heap[k]?=some o→k<W.heap.size:=fun h=>(Array.getElem?_eq_some_iff.1 h).1;have keep:∀{X Y:World} {k:Nat} {o:Obj},Moves own W1.heap.size X Y→X.heap[k]?=some o→k<W1.heap.size→¬own k→Y.heap[k]?=some o:=fun hm hx hk hn=>(hm.block _ (lt_of hx) hn (.inl hk)).trans hx
 refine(hseq w.heap.size
  (fun pre W=>I pre W∧W.heap[w.heap.size]?=some (.loop (rec .ready none)))
  (fun pre W=>∃c,Ix c pre W∧W.heap[w.heap.size]?=some (.loop (rec .done (some c))))
  W1 (hb0.trans (hbw.mono hb0.size))
  (fun s X Y hs hm=>⟨hI s X Y hs.1 (hm.mono (by omega)),keep hm hs.2 (by omega) hn1⟩)
  (fun s X Y hs hm=>by
    obtain⟨c,hc,hl⟩:=hs
    exact⟨c,hIx c s X Y hc (hm.mono (by omega)),keep hm hl (by omega) hn1⟩)
  ?_ ⟨hI _ _ _ h0 (.below hbw),hL1⟩).mono ?_
 ·rintro pre x W ⟨hi,hl⟩ hpf;have hlt:w.heap.size<W.heap.size:=lt_of hl;have hy:=run_yield (P:=P) (args:=encs x) hl (by rw[hrec];exact hps x);rw[hrec]at hy;refine⟨fn,_,assign,body,hy,roundIn_of_wpIn hfn (hassign _ x W _ ⟨_,run_beginRound hl (by rw[hrec]),?_⟩)⟩;have hl2:(W.putObj w.heap.size (.loop {rec .ready none with state:= .busy})).heap[w.heap.size]?=some (.loop {rec .ready none with state:= .busy}):=World.putObj_heap_same hlt;have hw2:Kp W (W.putObj w.heap.size (.loop {rec .ready none with state:= .busy})):=hKb _ _ _ _ (by omega) hl rfl;refine wpIn_mono (hbody _ pre x _ (hI _ _ _ hi (.put_ _ hl rfl (by omega))) hpf (lt_of hl2)) ?_
  have fin:∀(jump:Option Code) (W3:World),KeepsFrom w.heap.size (W.putObj w.heap.size (.loop {rec .ready none with state:= .busy})) W3→
      (Instr.endRound w.heap.size jump).run P W3= .ok (.bool jump.isNone) (W3.putObj w.heap.size (.loop (rec (if jump.isNone then .ready else .done) jump)))∧
      W3.heap[w.heap.size]?=some (.loop {rec .ready none with state:= .busy})∧
      (W3.putObj w.heap.size (.loop (rec (if jump.isNone then .ready else .done) jump))).heap[w.heap.size]?=some (.loop (rec (if jump.isNone then .ready else .done) jump)):=fun jump W3 hk3=>by
   have hl3:=hk3.same _ _ (by omega) hl2 rfl;have:=run_endRound (P:=P) jump hl3;rw[hrec]at this ⊢;exact⟨this,by rw[hrec]at hl3;exact hl3,World.putObj_heap_same (lt_of hl3)⟩
  rintro e a3 W3 hp
  cases e with
  |normal=>
    obtain⟨hk3,hkp3,hi3⟩:=hp;obtain⟨hr,hl3,hl4⟩:=fin none W3 hk3;exact⟨_,_,hr, .inl ⟨rfl,⟨hI _ _ _ hi3 (.put_ _ hl3 rfl (by omega)),hl4⟩,hKt (hKt hw2 hkp3) (hKb _ _ _ _ (by omega) hl3 rfl)⟩⟩
  |ret=>
    obtain⟨hk3,hi3⟩:=hp;obtain⟨hr,hl3,hl4⟩:=fin (some .ret) W3 hk3;exact⟨_,_,hr, .inr ⟨rfl, .ret,hIx _ _ _ _ hi3 (.put_ _ hl3 rfl (by omega)),hl4⟩⟩
  |exit id=>
    obtain⟨hk3,hi3⟩:=hp;obtain⟨hr,hl3,hl4⟩:=fin (some (.exit id)) W3 hk3;exact⟨_,_,hr, .inr ⟨rfl, .exit id,hIx _ _ _ _ hi3 (.put_ _ hl3 rfl (by omega)),hl4⟩⟩
  |goto t=>
    obtain⟨hk3,hi3⟩:=hp;obtain⟨hr,hl3,hl4⟩:=fin (some (.goto t)) W3 hk3;exact⟨_,_,hr, .inr ⟨rfl, .goto t,hIx _ _ _ _ hi3 (.put_ _ hl3 rfl (by omega)),hl4⟩⟩
  |panic ch=>exact hp.elim
  |outgrown=>exact hp.elim
 rintro e W2 ⟨⟨v,rfl⟩,(⟨xs,hS,hi,hl⟩|⟨pre,hSp,c,hi,hl⟩)⟩
 ·exact⟨none,_,by have:=run_endLoop (P:=P) hl (by rw[hrec];simp);rw[hrec]at this;exact this,hdone xs _ hS (hI _ _ _ hi (.put_ _ hl rfl (by omega)))⟩
 exact⟨some c,_,by have:=run_endLoop (P:=P) hl (by rw[hrec];simp);rw[hrec]at this;exact this,hstop c pre _ hSp (hIx _ _ _ _ hi (.put_ _ hl rfl (by omega)))⟩
end
theorem Zj(l:Bs):Lib.hasSuffix l [47]=decide (l.getLast?=some 47):=by
 unfold Lib.hasSuffix;rw[Bool.eq_iff_iff,List.isSuffixOf_iff_suffix,decide_eq_true_iff];rcases List.eq_nil_or_concat l with rfl|⟨a,x,rfl⟩
 ·simp
 simp only[List.concat_eq_append,List.getLast?_concat,Option.some.injEq];constructor
 ·rintro⟨t,ht⟩;have:=congrArg List.getLast? ht
  simpa[eq_comm]using this
 rintro rfl;exact⟨a,rfl⟩
def D7(d m:AE):AE:=if d.data.toList.getLast?=some 47 then d++m else d++⟨#[47]⟩++m
set_option maxHeartbeats 400000 in
theorem UB(d m:AE)(w:World)(hd:d.size≤1000000)(hm:m.size≤1000000):
    Calls prog 126 #[.string d, .string m] w fun e w'=>e= .returned (.string (D7 d m))∧w'=w:=by
 have HL:=Lib.hid (Zj d.data.toList);by_cases h:d.data.toList.getLast?=some 47
 ·have HJ:Hid (D7 d m=d++m):=Lib.hid (if_pos h);have HD:Hid (decide (d.data.toList.getLast?=some 47)=true):=Lib.hid (decide_eq_true h);clear h
  go_enter Tryz.func126,Tryz.ntmps126
  go_wp2_with fail
  refine(Tryz.strings_HasSuffix _ _ _ (by omega)).mono ?_;rintro e w' ⟨rfl,rfl⟩;rw[show({data:=#[47]}:ByteArray).data.toList=[47] from rfl,HL.out,HD.out]
  go_wp2
  go_ret
  exact⟨by rw[HJ.out];rfl,rfl⟩
 have HJ:Hid (D7 d m=d++⟨#[47]⟩++m):=Lib.hid (if_neg h);have HD:Hid (decide (d.data.toList.getLast?=some 47)=false):=Lib.hid (decide_eq_false h);clear h
 go_enter Tryz.func126,Tryz.ntmps126
 go_wp2_with fail
 refine(Tryz.strings_HasSuffix _ _ _ (by omega)).mono ?_;rintro e w' ⟨rfl,rfl⟩;rw[show({data:=#[47]}:ByteArray).data.toList=[47] from rfl,HL.out,HD.out]
 go_wp2
 go_ret
 exact⟨by rw[HJ.out];rfl,rfl⟩
end Go.Proofs.YtobclmbkdhbnpaaGreatDoor
namespace Go.Proofs.YtobclmbkdhbnpaaGreatDoor
open Go.RowKit Go.Shelf
attribute [local go_sem] Oper.semAt_some
theorem SeqW.inRound{α:Type}{F:Fence}{n:Nat}{P:Program}{g:Nat}{lb:Array Value}{encs:α→Array Value}{own:Nat→Prop}{Kp:World→World→Prop}{Pf:List α→Prop}{S Sp:List α→Prop}{w:World}(l:Nat)(h:SeqW F n P g lb encs own Kp Pf S Sp w):SeqW (F.inRound l) n P g lb encs own Kp Pf S Sp w:=h
theorem Zk(A:Option Addr)(m c:Nat)(w:World):
    Calls prog 162 #[.slice A m c] w fun e w'=>
     e= .returned (.func (.func 176) #[] #[.pointer (some ⟨w.heap.size,0,none⟩)])∧w'=w.alloc (.cells #[.slice A m c] 68):=by
 go_enter Tryz.func162,Tryz.ntmps162
 go_wp2
 go_ret
 exact⟨rfl,rfl⟩
def NamesIn(w:World)(A:Option Addr)(m c:Nat)(ns:List AE)(g:Nat):Prop:=
 ns.length=m∧m≤c∧(ns=[]∨A=some ⟨g,0,none⟩∧∀i x,ns[i]?=some x→w.cell? ⟨g,i,none⟩=some (.string x))
theorem NamesIn.keep{w w':World}{A:Option Addr}{m c:Nat}{ns:List AE}{g:Nat}(h:NamesIn w A m c ns g)(hg:w'.heap[g]?=w.heap[g]?):NamesIn w' A m c ns g:=
 ⟨h.1,h.2.1,h.2.2.imp id fun h=>⟨h.1,fun i x hx=>(World.cell?_of_block (w:=w) (w':=w') (a:=⟨g,i,none⟩) hg).trans (h.2 i x hx)⟩⟩
def Zl(b0 g:Nat)(X Y:World):Prop:=Y.heap[b0]?=X.heap[b0]?∧Y.heap[g]?=X.heap[g]?
set_option maxRecDepth 100000 in
set_option maxHeartbeats 2000000 in
theorem Zm(n:Nat)(ns:List AE)(hns:ns.length≤1000000)(b0 g:Nat)(A:Option Addr)(m c:Nat)(w:World)(h0:Boxed w b0 68 (.slice A m c))(hN:NamesIn w A m c ns g)(hg:ns=[]∨g<w.heap.size):
    SeqW Fence.wide n prog 176 #[.pointer (some ⟨b0,0,none⟩)] (fun x:Int×AE=>#[.int .i64 x.1, .string x.2]) (fun _=>False) (Zl b0 g) (fun xs=>xs.map (·.2)<+:ns.reverse)
     (fun xs=>xs.map (·.2)=ns.reverse) (fun _=>True) w:=fun l J Jx W hW hJ hJx hY hst=>by
 have k0:Boxed W b0 68 (.slice A m c):=Ba h0 hW h0.lt
 have kN:NamesIn W A m c ns g:=by
  rcases hg with hg|hg
  ·exact⟨hN.1,hN.2.1, .inl hg⟩
  exact hN.keep (hW.block g hg)
 have hmc:=kN.2.1;have hme:=kN.1;subst hme;have c0:=k0.cell;have f0:=k0.frozen;have HJ:=Lib.hid hJ;have HJx:=Lib.hid hJx;have HY:=Lib.hid hY;clear hN hg hW hJ hJx hY h0;refine callsIn_of_wp Tryz.func176 rfl trivial ?_ rfl;simp only[Tryz.ntmps176,List.size_toArray,List.length_cons,List.length_nil,Nat.reduceAdd,Nat.reduceSub,Array.replicate_succ,Array.replicate_zero,List.push_toArray,List.append_toArray,List.nil_append,List.cons_append]
 gi_wp2
 gi_loopw [3] (fun i wr=>∃(j:Nat) (pre:List (Int×AE)),j≤ns.length∧i= .int .i64 ((j:Int) - 1)∧J pre wr∧Boxed wr b0 68 (.slice A ns.length c)∧NamesIn wr A ns.length c ns g∧Hid (pre.map (·.2)=(ns.drop j).reverse)) (fun i _=>(intOf i+1).toNat)
 case atStart=>exact⟨ns.length,[],Av _,rfl,hst,k0,kN,by rw[List.drop_length];exact Lib.hid rfl⟩
 case round=>
  obtain⟨j,pre,hj,rfl,hJp,m0,mN,hpre⟩:=hrel;clear k0 kN hst c0 f0;have c0:=m0.cell;have f0:=m0.frozen
  cases j with
  |zero=>
    gi_wp2
    go_end0
    exact⟨⟨_,rfl⟩, .inl ⟨pre,by rw[hpre.out];simp,hJp⟩⟩
  |succ j=>
    have hlt:j<ns.length:=by omega
    have hx:ns[j]?=some ns[j]:=BM hlt;obtain⟨_,_,hA⟩:=mN;obtain⟨rfl,hcell⟩:=hA.resolve_left (fun e=>by rw[e]at hlt;simp at hlt);have hc:=hcell j _ hx;have HD:Hid ((ns.drop j).reverse=(ns.drop (j+1)).reverse++[ns[j]]):=Lib.hid (by rw[List.drop_eq_getElem_cons hlt];simp);obtain⟨fn,tmps,assign,body,hy,hR⟩:=HY.out pre ((j:Int),ns[j]) wr hJp (by rw[List.map_append,hpre.out];refine⟨(ns.take j).reverse,?_⟩;rw[show(ns.drop (j+1)).reverse++List.map (·.2) [((j:Int),ns[j])]=(ns.drop j).reverse by rw[HD.out];rfl,←List.reverse_append,List.take_append_drop]);have HC:=Lib.hid hcell;clear hcell hA hx;generalize ns[j]=x at *
    gi_wp2_with fail
    refine⟨(fun h=>by cases h),hR.mono ?_⟩;rintro e W3 (⟨rfl,hJ3,hk3⟩|⟨rfl,hJx3⟩)
    ·have q0:Boxed W3 b0 68 (.slice (some ⟨g,0,none⟩) ns.length c):=hk3.1.trans m0;have qN:NamesIn W3 (some ⟨g,0,none⟩) ns.length c ns g:=⟨rfl,hmc, .inr ⟨rfl,fun i y hy=>(World.cell?_of_block (w:=wr) (w':=W3) (a:=⟨g,i,none⟩) hk3.2).trans (HC.out i y hy)⟩⟩;clear c0 f0 hy hR hc
     gi_wp2
     go_roundw
     case rel=>exact⟨j,pre++[((j:Int),x)],by omega,rfl,hJ3,q0,qN,by rw[HD.out,←hpre.out];exact Lib.hid (by simp)⟩
     case measure=>simp[intOf]
    gi_wp2
    refine bodyPost_ret (results_none rfl _ _ _) rfl ?_;exact⟨⟨_,rfl⟩, .inr ⟨pre++[((j:Int),x)],trivial,hJx3⟩⟩
end Go.Proofs.YtobclmbkdhbnpaaGreatDoor
