/-
  Part 9 of the proof of WatchNamesP: what the statement's proof uses of the texts in wip/tpl.
-/
import Derived.Test.YtobclmbkdhbnpaaGreatDoorShelf
import Derived.Maps.AppendAt
import Derived.OwnWalk
import Derived.StillTailTactics
import Derived.Test.YtobclmbkdhbnpaaGreatDoorQb8
open Go.Proofs.Tryz (prog)
set_option maxRecDepth 10000
set_option maxHeartbeats 4000000
set_option linter.unusedVariables false
set_option linter.unusedSimpArgs false
namespace Go.Proofs.YtobclmbkdhbnpaaGreatDoor
open Go.RowKit Go.Shelf
section
variable {F:Fence}{n:Nat}{P:Program}
theorem SJ{α:Type}{g:Operand}{ps:Array Tmp}{assign body:Code}{Q:Exit→Act→World→Prop}{a:Act}{w:World}
    (hro:F.round=none) (h1:1≤n) {gf:Nat} {lb:Array Value} (hg:a.eval g= .func (.func gf) #[] lb) (hFg:F.fn gf) (eg:∀args w,(callFunc gf args).run P w= .ok (.enter gf args) w)
    {encs:α→Array Value} {own:Nat→Prop} {Kp:World→World→Prop} {Pf:List α→Prop} {S Sp:List α→Prop} {w0:World} (hseq:SeqW F (n - 1) P gf lb encs own Kp Pf S Sp w0)
    (hown:∀b,own b→b<w.heap.size) (hKt:∀{A B C:World},Kp A B→Kp B C→Kp A C) (hKb:∀(W:World) (l:Nat) (o o':Obj),w.heap.size≤l→W.heap[l]?=some o→o.isCells=false→Kp W (W.putObj l o'))
    (hb0:Below w0.heap.size w0 w) (hps:∀x,(encs x).size=ps.size)
    (I:List α→World→Prop) (Ix:Code→List α→World→Prop) (hI:∀s X Y,I s X→Moves own w.heap.size X Y→I s Y) (hIx:∀c s X Y,Ix c s X→Moves own w.heap.size X Y→Ix c s Y) (h0:I [] w) (a₁:α→World→Act) (w₁:α→World→World) (hw1:∀x W,w.heap.size+2≤W.heap.size→Below W.heap.size W (w₁ x W)∧Kp W (w₁ x W))
    (hassign:∀(l:Nat) (x:α) (W:World) (K:Act→World→Prop),w.heap.size+2≤W.heap.size→K (a₁ x W) (w₁ x W)→
      assign.wpIn (F.inRound l) (n - 1 - 1) P (Exit.then K (fun _ _ _=>False)) {tmps:=(ps.zip (encs x)).foldl (fun t (p,v)=>t.setIfInBounds p v) a.tmps,defers:=[]} W)
    (hbody:∀(l:Nat) (pre:List α) (x:α) (W0 W:World),I pre W→Pf (pre++[x])→w.heap.size+2≤W0.heap.size→(w₁ x W0).heap.size≤W.heap.size→(∀(k:Nat) (o:Obj),(w₁ x W0).heap[k]?=some o→o.isCells=true→W.heap[k]?=some o)→w.heap.size≤l→(∃r,W.heap[l]?=some (.loop r))→
      body.wpIn (F.inRound l) (n - 1 - 1) P (ownPostG w.heap.size Kp I Ix (pre++[x]) W) (a₁ x W0) W)
    (hdone:∀(D:Nat) (xs:List α) (W:World),w.heap.size≤D→S xs→I xs W→W.heap[D]?=some (.deferred (some []))→Q .normal {a with defers:={target:= .collected D,args:=#[]}::a.defers} W)
    (hstop:∀(D:Nat) (c:Code) (pre:List α) (W:World),w.heap.size≤D→Sp pre→Ix c pre W→W.heap[D]?=some (.deferred (some []))→c.wpIn F n P Q {a with defers:={target:= .collected D,args:=#[]}::a.defers} W):
    (Code.rangeFunc g ps assign body).wpIn F n P Q a w:=by
 refine wpIn_rangeFunc ?_;intro fn hfn;rw[hro];obtain⟨rec,hrec⟩:∃rec:LoopState→Option Code→Loop,rec=fun st pe=>{state:=st,pending:=pe,fn,tmps:=a.tmps,params:=ps,assign,body,defers:=w.heap.size}:=⟨_,rfl⟩;obtain⟨W1,hW1⟩:∃W1,(w.alloc (.deferred (some []))).alloc (.loop (rec .ready none))=W1:=⟨_,rfl⟩;have hbw:Below w.heap.size w W1:=by rw[←hW1];exact G7 w _ _
 have hsz:W1.heap.size=w.heap.size+2:=by rw[←hW1];simp
 have hL1:W1.heap[w.heap.size+1]?=some (.loop (rec .ready none)):=by rw[←hW1];exact Gb _ _ _
 have hK1:W1.heap[w.heap.size]?=some (.deferred (some [])):=by rw[←hW1];exact Ga _ _ _
 have hn0:¬own w.heap.size:=fun h=>by have:=hown _ h;omega
 have hn1:¬own (w.heap.size+1):=fun h=>by have:=hown _ h;omega
 refine⟨w.heap.size+1,[{target:= .collected w.heap.size,args:=#[]}],W1,{target:= .fn (.func gf) lb,args:=#[.func (.yield (w.heap.size+1)) #[] #[]]},W1,gf,
  #[.func (.yield (w.heap.size+1)) #[] #[]]++lb,W1,?_,?_,?_,?_,fun _=>h1,?_⟩
 ·rw[←hW1,hrec];exact run_enterLoop_outer _ _ _ _ _
 ·simp only[resolve,hg];simp[go_sem]
 ·intro f' hf';simp[Target.leads]at hf';subst hf';exact hFg
 ·simp[invoke,go_sem,eg]
 have lt_of:∀{W:World} {k:Nat} {o:Obj},W.heap[k]?=some o→k<W.heap.size:=fun h=>(Array.getElem?_eq_some_iff.1 h).1;have keep:∀{X Y:World} {k:Nat} {o:Obj},Moves own W1.heap.size X Y→X.heap[k]?=some o→k<W1.heap.size→¬own k→Y.heap[k]?=some o:=fun hm hx hk hn=>(hm.block _ (lt_of hx) hn (.inl hk)).trans hx
 refine(hseq (w.heap.size+1)
  (fun pre W=>I pre W∧W.heap[w.heap.size+1]?=some (.loop (rec .ready none))∧W.heap[w.heap.size]?=some (.deferred (some [])))
  (fun pre W=>∃c,Ix c pre W∧W.heap[w.heap.size+1]?=some (.loop (rec .done (some c)))∧W.heap[w.heap.size]?=some (.deferred (some [])))
  W1 (hb0.trans (hbw.mono hb0.size))
  (fun s X Y hs hm=>⟨hI s X Y hs.1 (hm.mono (by omega)),keep hm hs.2.1 (by omega) hn1,keep hm hs.2.2 (by omega) hn0⟩)
  (fun s X Y hs hm=>by
    obtain⟨c,hc,hl,hk⟩:=hs
    exact⟨c,hIx c s X Y hc (hm.mono (by omega)),keep hm hl (by omega) hn1,keep hm hk (by omega) hn0⟩)
  ?_ ⟨hI _ _ _ h0 (.below hbw),hL1,hK1⟩).mono ?_
 ·rintro pre x W0 ⟨hi0,hl0,hk0⟩ hpf;have hlt0:w.heap.size+1<W0.heap.size:=lt_of hl0;obtain⟨hbV,hkV⟩:=hw1 x W0 hlt0;obtain⟨W,hWe⟩:∃W,w₁ x W0=W:=⟨_,rfl⟩;rw[hWe]at hbV hkV;have hi:I pre W:=hI _ _ _ hi0 (.below hbV);have hl:=(hbV.block _ (by omega)).trans hl0;have hk:=(hbV.block _ (by omega)).trans hk0;have hlt:w.heap.size+1<W.heap.size:=lt_of hl;have hy:=run_yield (P:=P) (args:=encs x) hl0 (by rw[hrec];exact hps x);rw[hrec]at hy;refine⟨fn,_,assign,body,hy,roundIn_of_wpIn hfn (hassign _ x W0 _ hlt0 ⟨_,run_beginRound (by rw[hWe];exact hl) (by rw[hrec]),?_⟩)⟩;rw[hWe];have hl2:(W.putObj (w.heap.size+1) (.loop {rec .ready none with state:= .busy})).heap[w.heap.size+1]?=some (.loop {rec .ready none with state:= .busy}):=World.putObj_heap_same hlt;have hk2:(W.putObj (w.heap.size+1) (.loop {rec .ready none with state:= .busy})).heap[w.heap.size]?=some (.deferred (some [])):=(World.putObj_heap_other (by omega)).trans hk;have hw2:Kp W0 (W.putObj (w.heap.size+1) (.loop {rec .ready none with state:= .busy})):=hKt hkV (hKb _ _ _ _ (by omega) hl rfl)
  refine wpIn_mono (hbody _ pre x W0 _ (hI _ _ _ hi (.put_ _ hl rfl (by omega))) hpf hlt0 (by rw[hWe];exact(grownBy_putObj' W (w.heap.size+1) _).size) (fun k o hko hoc=>by
   rw[hWe]at hko;refine(World.putObj_heap_other fun e=>?_).trans hko;subst e;rw[hl]at hko;injection hko with hko;subst hko
   cases hoc) (by omega) ⟨_,hl2⟩) ?_
  have fin:∀(jump:Option Code) (W3:World),KeepsFrom w.heap.size (W.putObj (w.heap.size+1) (.loop {rec .ready none with state:= .busy})) W3→
      (Instr.endRound (w.heap.size+1) jump).run P W3= .ok (.bool jump.isNone) (W3.putObj (w.heap.size+1) (.loop (rec (if jump.isNone then .ready else .done) jump)))∧
      W3.heap[w.heap.size+1]?=some (.loop {rec .ready none with state:= .busy})∧
      (W3.putObj (w.heap.size+1) (.loop (rec (if jump.isNone then .ready else .done) jump))).heap[w.heap.size+1]?=some (.loop (rec (if jump.isNone then .ready else .done) jump))∧
      (W3.putObj (w.heap.size+1) (.loop (rec (if jump.isNone then .ready else .done) jump))).heap[w.heap.size]?=some (.deferred (some [])):=fun jump W3 hk3=>by
   have hl3:=hk3.same _ _ (by omega) hl2 rfl;have:=run_endRound (P:=P) jump hl3;rw[hrec]at this ⊢;exact⟨this,by rw[hrec]at hl3;exact hl3,World.putObj_heap_same (lt_of hl3),(World.putObj_heap_other (by omega)).trans (hk3.same _ _ (Av _) hk2 rfl)⟩
  rintro e a3 W3 hp
  cases e with
  |normal=>
    obtain⟨hk3,hkp3,hi3⟩:=hp;obtain⟨hr,hl3,hl4,hk4⟩:=fin none W3 hk3;exact⟨_,_,hr, .inl ⟨rfl,⟨hI _ _ _ hi3 (.put_ _ hl3 rfl (by omega)),hl4,hk4⟩,hKt (hKt hw2 hkp3) (hKb _ _ _ _ (by omega) hl3 rfl)⟩⟩
  |ret=>
    obtain⟨hk3,hi3⟩:=hp;obtain⟨hr,hl3,hl4,hk4⟩:=fin (some .ret) W3 hk3;exact⟨_,_,hr, .inr ⟨rfl, .ret,hIx _ _ _ _ hi3 (.put_ _ hl3 rfl (by omega)),hl4,hk4⟩⟩
  |exit id=>
    obtain⟨hk3,hi3⟩:=hp;obtain⟨hr,hl3,hl4,hk4⟩:=fin (some (.exit id)) W3 hk3;exact⟨_,_,hr, .inr ⟨rfl, .exit id,hIx _ _ _ _ hi3 (.put_ _ hl3 rfl (by omega)),hl4,hk4⟩⟩
  |goto t=>
    obtain⟨hk3,hi3⟩:=hp;obtain⟨hr,hl3,hl4,hk4⟩:=fin (some (.goto t)) W3 hk3;exact⟨_,_,hr, .inr ⟨rfl, .goto t,hIx _ _ _ _ hi3 (.put_ _ hl3 rfl (by omega)),hl4,hk4⟩⟩
  |panic ch=>exact hp.elim
  |outgrown=>exact hp.elim
 rintro e W2 ⟨⟨v,rfl⟩,(⟨xs,hS,hi,hl,hk⟩|⟨pre,hSp,c,hi,hl,hk⟩)⟩
 ·exact⟨none,_,by have:=run_endLoop (P:=P) hl (by rw[hrec];simp);rw[hrec]at this;exact this,hdone _ xs _ (Av _) hS (hI _ _ _ hi (.put_ _ hl rfl (by omega))) ((World.putObj_heap_other (by omega)).trans hk)⟩
 exact⟨some c,_,by have:=run_endLoop (P:=P) hl (by rw[hrec];simp);rw[hrec]at this;exact this,hstop _ c pre _ (Av _) hSp (hIx _ _ _ _ hi (.put_ _ hl rfl (by omega))) ((World.putObj_heap_other (by omega)).trans hk)⟩
end
theorem Bl{W:World}{k:Nat}{o:Obj}(h:W.heap[k]?=some o):k<W.heap.size:=(Array.getElem?_eq_some_iff.1 h).1
attribute [local go_sem] Oper.semAt_some
set_option maxRecDepth 100000 in
set_option maxHeartbeats 2000000 in
theorem Xd(n:Nat)(hn:Hid (1≤n))(s:Spc)(hs:SpcB s)(root dir:A6)(ds ms:Value)(w:World)(h:SpcIn s w.heap.size w ds ms):
    CallsIn Fence.wide n prog 48 #[.agg #[ds,ms],D9 root,D9 dir] w fun e w'=>e= .returned (.bool (decide (root∈B8 s (BM s.files) dir)))∧Below w.heap.size w w':=by
 obtain⟨rd,ri⟩:=root;obtain⟨dd,di⟩:=dir;unfold D9;refine callsIn_of_wp_marks Tryz.func48 rfl trivial ?_ rfl;simp only[Tryz.ntmps48,List.size_toArray,List.length_cons,List.length_nil,Nat.reduceAdd,Nat.reduceSub,Array.replicate_succ,Array.replicate_zero,List.push_toArray,List.append_toArray,List.nil_append,List.cons_append]
 gi_wp2_with fail
 obtain⟨W4,hW4⟩:∃W4,(((w.alloc (.cells #[ds,ms] 30)).alloc (.cells #[.int .i64 rd, .int .i64 ri] 33)).alloc (.cells #[.int .i64 dd, .int .i64 di] 33)).alloc (.cells #[.bool false] 4)=W4:=⟨_,rfl⟩;have hz4:W4.heap.size=w.heap.size+4:=by rw[←hW4];simp
 have hB4:Below w.heap.size w W4:=by rw[←hW4];exact O8 _ _ _ _ _
 have kR:W4.heap[w.heap.size+1]?=some (.cells #[.int .i64 rd, .int .i64 ri] 33):=by rw[←hW4];exact O9 _ _ _ _ _
 have kE:Boxed W4 (w.heap.size+1+1+1) 4 (.bool false):=by rw[←hW4];exact OA _ _ _ _ _
 rw[hW4];have HZ4:=Lib.hid hz4;clear hW4;refine Db ((callsIn_wide.2 (RS ds ms (dd,di) W4)).mono ?_);rintro e W6 ⟨rfl,hW6⟩;have hB6:Below W4.heap.size W4 W6:=by rw[hW6];exact G7 _ _ _
 have hz6:W6.heap.size=w.heap.size+6:=by rw[hW6];simp[hz4]
 have kS:W6.heap[W4.heap.size]?=some (.cells #[ds,ms] 30):=by rw[hW6];exact Ga _ _ _
 have kD:W6.heap[W4.heap.size+1]?=some (.cells #[.int .i64 dd, .int .i64 di] 33):=by rw[hW6];exact Gb _ _ _
 have kR6:=BJ kR hB6 (by omega);have kE6:Boxed W6 (w.heap.size+1+1+1) 4 (.bool false):=BJ kE hB6 (by omega);have hBw:Below w.heap.size w W6:=hB4.trans (hB6.mono (by omega));have kSp:=h.below hBw (Av _);have HZ6:=Lib.hid hz6;clear hW6 kR kE hB4 hB6 hz6 hz4
 gi_wp2_with fail
 refine SJ rfl hn.out (gf:=115) rfl trivial (enters_of Tryz.func115 (by kernel_rfl) rfl)
  (RV (n - 1) s hs (dd,di) w.heap.size W4.heap.size (W4.heap.size+1) ds ms W6 kS kD kSp (by have:=HZ4.out;omega) (by have:=HZ4.out;omega) (by omega))
  (fun b hb=>by have:=HZ4.out;have:=HZ6.out;omega) KeepC.trans (fun W l o o' hl ho hc=>by have:=HZ4.out;have:=HZ6.out;exact RT (B:=W6.heap.size) (by omega) (by omega) (by omega) W l o o' hl ho hc) (Below.refl _ _) (fun _=>rfl)
  (fun pre W=>W.heap[w.heap.size+1]?=some (.cells #[.int .i64 rd, .int .i64 ri] 33)∧Boxed W (w.heap.size+1+1+1) 4 (.bool false)∧(rd,ri)∉pre∧Below w.heap.size w W)
  (fun c pre W=>c= .ret∧Boxed W (w.heap.size+1+1+1) 4 (.bool true)∧(rd,ri)∈pre∧Below w.heap.size w W)
  (fun s X Y h hm=>⟨(hm.block _ (Bl h.1) (by have:=HZ4.out;omega) (.inr ⟨_,h.1,rfl⟩)).trans h.1,hm.boxed h.2.1 (by have:=HZ4.out;omega),h.2.2.1,hm.under h.2.2.2 (Av _) (fun b hb=>by have:=HZ4.out;omega) (by have:=HZ6.out;omega)⟩)
  (fun c s X Y h hm=>⟨h.1,hm.boxed h.2.1 (by have:=HZ4.out;omega),h.2.2.1,hm.under h.2.2.2 (Av _) (fun b hb=>by have:=HZ4.out;omega) (by have:=HZ6.out;omega)⟩)
  ⟨kR6,kE6,by simp,hBw⟩
  (fun x W=>{tmps:=#[.agg #[ds,ms], .agg #[.int .i64 rd, .int .i64 ri], .agg #[.int .i64 dd, .int .i64 di], .pointer (some ⟨w.heap.size,0,none⟩), .pointer (some ⟨w.heap.size+1,0,none⟩), .pointer (some ⟨w.heap.size+1+1,0,none⟩), .pointer (some ⟨w.heap.size+1+1+1,0,none⟩), .pointer (some ⟨W.heap.size,0,none⟩), .agg #[ds,ms], .agg #[.int .i64 dd, .int .i64 di],
    .func (.func 115) #[] #[.pointer (some ⟨W4.heap.size,0,none⟩), .pointer (some ⟨W4.heap.size+1,0,none⟩)], .agg #[.int .i64 x.1, .int .i64 x.2],undef,undef,undef],defers:=[]})
  (fun x W=>W.alloc (.cells #[.int .i64 x.1, .int .i64 x.2] 33))
  (fun x W hsz=>⟨Ep _ _,by have:=HZ4.out;have:=HZ6.out;exact L4 (Ep _ _) (by omega) (by omega) (by omega)⟩) ?assign ?body ?done ?stop
 case assign=>
  intro l x W K hsz hK;unfold D9
  gi_wp2
  exact hK
 case body=>
  rintro l pre x W0 W ⟨c1,cE,hnm,hbw⟩ _ hsz hszW hcell _ _;have cX:=hcell _ _ (GZ W0 (.cells #[.int .i64 x.1, .int .i64 x.2] 33)) rfl;have HN:=Lib.hid hnm;have HZ:=Lib.hid hsz;clear hnm hsz hcell;obtain⟨c1',f1'⟩:=Bq c1;obtain⟨cX',fX'⟩:=Bq cX;have cE':=cE.cell;have fE':=cE.frozen;have h4:=HZ4.out;have h6:=HZ6.out;simp only[Ko]at hszW
  gi_wp2_with fail
  ·exact⟨L0 (J6 (Below.refl _ _)) (by omega) _,rfl,cE.set _,List.mem_append_right _ (by simp;exact Prod.ext (by simp[*]) (by simp[*])),hbw.setCell (by show w.heap.size≤w.heap.size+1+1+1;omega) _⟩
  all_goals
   have hz:=HZ.out
   exact⟨J6 (Below.refl _ _),L4 (Below.refl _ _) (by omega) (by omega) (by omega),c1,cE,by
    intro hm;rcases List.mem_append.1 hm with hm|hm
    ·exact HN.out hm
    simp only[List.mem_singleton]at hm;subst hm
    simp_all,hbw⟩
 case done=>
  rintro D xs W hD hS ⟨_,hc,hnm,hbw⟩ hK;have HS:=Lib.hid hS;have HN:=Lib.hid hnm;clear hS hnm;have hcell:=hc.cell;have hfz:=hc.frozen
  gi_wp2
  have h4:=HZ4.out;have h6:=HZ6.out;refine⟨by simp, .inl ⟨_,_,rfl,run_takeDeferred ((KeepsOthers.setCell _ _ _).same D _ hK rfl),?_⟩⟩;have hcb:=(Gg (hc.set (.bool false)) (show w.heap.size+1+1+1≠D by omega) (.deferred none)).cell;refine⟨.bool false,by simp[results,Tryz.f48,go_sem,hcb],by rw[decide_eq_false (by rw[←HS.out];exact HN.out)],J7 (hbw.setCell (p:=⟨w.heap.size+1+1+1,0,none⟩) (by show w.heap.size≤w.heap.size+1+1+1;omega) _) (by omega) _⟩
 case stop=>
  rintro D c pre W hD hSp ⟨rfl,hc,hnm,hbw⟩ hK;have HS:=Lib.hid hSp;have HN:=Lib.hid hnm;clear hSp hnm;have hcell:=hc.cell
  gi_wp2
  have h4:=HZ4.out;have h6:=HZ6.out;refine⟨by simp, .inl ⟨_,_,rfl,run_takeDeferred hK,?_⟩⟩;have hcb:=(Gg hc (show w.heap.size+1+1+1≠D by omega) (.deferred none)).cell;refine⟨.bool true,by simp[results,Tryz.f48,go_sem,hcb],by rw[decide_eq_true (HS.out.subset HN.out)],J7 hbw (by omega) _⟩
end Go.Proofs.YtobclmbkdhbnpaaGreatDoor
namespace Go.Proofs.YtobclmbkdhbnpaaGreatDoor
open Go.RowKit Go.Shelf
attribute [local go_sem] Oper.semAt_some
end Go.Proofs.YtobclmbkdhbnpaaGreatDoor
namespace Go.Proofs.YtobclmbkdhbnpaaGreatDoor
open Go.RowKit
def EW(s:Spc)(a:A6):Nod:=AU s.files (a.1,(AU s.files a).parent)
def Bw(s:Spc)(a:A6):AB:=(((EW s a).entries.find? fun e:B6=>decide (e.2=a.2)).map (·.1)).getD ⟨#[]⟩
section
theorem Xe(s:Spc)(a:A6)(hs:SpcB s):AFn prog 163 [.agg (As s), .agg (A7 a)] (fun r=>r= .v (.string (Bw s a))):=by
 have hen:=Ki hs.files (a.1,(AU s.files a).parent);change (EW s a).entries.length≤1000 at hen;refine enter Tryz.func163 rfl rfl rfl rfl rfl 0 rfl ?_;refine w_ (b_ (h:=b_ (h:=a_ (h:=e_ (w_ (f_ (h:=l_ (h:=l_ (h:=?_)))))))));refine A8 rfl (AN (G5 s.files a hs.files) ?_);rintro r rfl
 skip
 refine m_ (h:=x_ (h:=x_ (h:=Ak (h:=s_ (h:=a_ (h:=e_ (w_ (f_ (h:=l_ (h:=f_ (h:=l_ (h:=f_ (h:=l_ (h:=Aa (h:=?_)))))))))))))));refine A8 rfl (AN (G5 s.files (a.1,(AU s.files a).parent) hs.files) ?_);rintro r rfl
 skip
 refine m_ (h:=x_ (h:=x_ (h:=Ak (h:=s_ (h:=a_ (h:=e_ (q_ (w_ (f_ (h:=l_ (h:=n_ (h:=m_ (h:=e_ (Ap (?_)))))))))))))));refine By (fun m t=>∃j:Nat,j≤(EW s a).entries.length∧m=(EW s a).entries.length - j∧(∀i y,i<j→(EW s a).entries[i]?=some y→decide (y.2=a.2)=false)∧t=⟨look [(3, .bp 1 0),(30, .sl 2 ((EW s a).entries.map CA) none),(31, .v (.int .i64 (((EW s a).entries.map CA).length:Int))),(32, .v (.int .i64 (j:Int)))],⟨[As s,A7 a],[]⟩⟩) ((EW s a).entries.length) ((wk 2 0)) (⟨0,by omega,rfl,fun i y hi=>by omega,rfl⟩) ?_;rintro m t ⟨j,hj,rfl,ha,rfl⟩;refine w_ (BQ (h:=e_ (q_ (?_))));refine AA rfl (fun hb1=>?_) (fun hb1=>?_)
 ·have hc1:=bp hb1;obtain⟨hlt,x,hy,hrow, -⟩:=Cp CA hc1;refine AO (q_ (Ap (w_ (i_ (h:=l_ (h:=Ak (h:=s_ (h:=e_ (w_ (f_ (h:=l_ (h:=f_ (h:=l_ (h:=Ah (h:=e_ (?_))))))))))))))));refine AA rfl (fun hb2=>?_) (fun hb2=>?_)
  ·have hc2:=bp hb2;refine w_ (f_ (h:=l_ (h:=a_ (h:=e_ (A4 (Ab (A9 (A9 (Ab (A9 (?_)))))))))));refine AD ?_;rw[show Bw s a=x.1 by simp only[Bw];rw[G0 hy (by simpa using hc2) ha];rfl];rfl
  have hc2:=bp hb2;refine BH (Ay (t_ (AX (BB (h:=m_ (h:=AT (?_)))))));refine AG ?_;refine⟨_,_,?_,⟨j+1,by omega,rfl,Eb hy ha (by simpa using hc2),rfl⟩,(wk 2 0)⟩;omega
 have hc1:=bp hb1;have e3:=D0 CA hj hc1;subst e3;refine Ba (Ao (Ao (Bb (t_ (w_ (a_ (h:=e_ (A4 (?_)))))))));refine AD ?_;rw[show Bw s a=⟨#[]⟩ by simp only[Bw];rw[G4 ha];rfl];rfl
end
end Go.Proofs.YtobclmbkdhbnpaaGreatDoor
namespace Go.Proofs.YtobclmbkdhbnpaaGreatDoor
open Go.RowKit Go.Shelf
section
variable {F:Fence}{n:Nat}{P:Program}
theorem Xf{α:Type}{g:Operand}{ps:Array Tmp}{assign body:Code}{Q:Exit→Act→World→Prop}{a:Act}{w:World}
    {l₀:Nat} {r₀:Loop} (hro:F.round=some l₀) (hl₀:w.heap[l₀]?=some (.loop r₀)) (h1:1≤n) {gf:Nat} {lb:Array Value} (hg:a.eval g= .func (.func gf) #[] lb) (hFg:F.fn gf) (eg:∀args w,(callFunc gf args).run P w= .ok (.enter gf args) w)
    {encs:α→Array Value} {own:Nat→Prop} {Kp:World→World→Prop} {Pf:List α→Prop} {S Sp:List α→Prop} {w0:World} (hseq:SeqW F (n - 1) P gf lb encs own Kp Pf S Sp w0)
    (hown:∀b,own b→b<w.heap.size) (hKt:∀{A B C:World},Kp A B→Kp B C→Kp A C) (hKb:∀(W:World) (l:Nat) (o o':Obj),w.heap.size≤l→W.heap[l]?=some o→o.isCells=false→Kp W (W.putObj l o'))
    (hb0:Below w0.heap.size w0 w) (hps:∀x,(encs x).size=ps.size)
    (I:List α→World→Prop) (Ix:Code→List α→World→Prop) (hI:∀s X Y,I s X→Moves own w.heap.size X Y→I s Y) (hIx:∀c s X Y,Ix c s X→Moves own w.heap.size X Y→Ix c s Y) (h0:I [] w) (a₁:α→Act)
    (hassign:∀(l:Nat) (x:α) (W:World) (K:Act→World→Prop),K (a₁ x) W→
      assign.wpIn (F.inRound l) (n - 1 - 1) P (Exit.then K (fun _ _ _=>False)) {tmps:=(ps.zip (encs x)).foldl (fun t (p,v)=>t.setIfInBounds p v) a.tmps,defers:=[]} W)
    (hbody:∀(l:Nat) (pre:List α) (x:α) (W:World),I pre W→Pf (pre++[x])→w.heap.size+1≤W.heap.size→body.wpIn (F.inRound l) (n - 1 - 1) P (ownPostG w.heap.size Kp I Ix (pre++[x]) W) (a₁ x) W)
    (hdone:∀(xs:List α) (W:World),S xs→I xs W→Q .normal a W)
    (hstop:∀(c:Code) (pre:List α) (W:World),Sp pre→Ix c pre W→c.wpIn F n P Q a W):
    (Code.rangeFunc g ps assign body).wpIn F n P Q a w:=by
 refine wpIn_rangeFunc ?_;intro fn hfn;rw[hro];obtain⟨rec,hrec⟩:∃rec:LoopState→Option Code→Loop,rec=fun st pe=>{state:=st,pending:=pe,fn,tmps:=a.tmps,params:=ps,assign,body,defers:=r₀.defers}:=⟨_,rfl⟩;obtain⟨W1,hW1⟩:∃W1,w.alloc (.loop (rec .ready none))=W1:=⟨_,rfl⟩;have hbw:Below w.heap.size w W1:=by rw[←hW1];exact Ep w _
 have hsz:W1.heap.size=w.heap.size+1:=by rw[←hW1];simp
 have hL1:W1.heap[w.heap.size]?=some (.loop (rec .ready none)):=by rw[←hW1];exact GZ _ _
 have hn1:¬own w.heap.size:=fun h=>by have:=hown _ h;omega
 refine⟨w.heap.size,[],W1,{target:= .fn (.func gf) lb,args:=#[.func (.yield w.heap.size) #[] #[]]},W1,gf,
  #[.func (.yield w.heap.size) #[] #[]]++lb,W1,?_,?_,?_,?_,fun _=>h1,?_⟩
 ·rw[←hW1,hrec];exact run_enterLoop_inner hl₀ _ _ _ _ _
 ·simp only[resolve,hg];simp[go_sem]
 ·intro f' hf';simp[Target.leads]at hf';subst hf';exact hFg
 ·simp[invoke,go_sem,eg]
 have lt_of:∀{W:World} {k:Nat} {o:Obj},W.heap[k]?=some o→k<W.heap.size:=fun h=>(Array.getElem?_eq_some_iff.1 h).1;have keep:∀{X Y:World} {k:Nat} {o:Obj},Moves own W1.heap.size X Y→X.heap[k]?=some o→k<W1.heap.size→¬own k→Y.heap[k]?=some o:=fun hm hx hk hn=>(hm.block _ (lt_of hx) hn (.inl hk)).trans hx
 refine(hseq w.heap.size
  (fun pre W=>I pre W∧W.heap[w.heap.size]?=some (.loop (rec .ready none)))
  (fun pre W=>∃c,Ix c pre W∧W.heap[w.heap.size]?=some (.loop (rec .done (some c))))
  W1 (hb0.trans (hbw.mono hb0.size))
  (fun s X Y hs hm=>⟨hI s X Y hs.1 (hm.mono (by omega)),keep hm hs.2 (by omega) hn1⟩)
  (fun s X Y hs hm=>by
    obtain⟨c,hc,hl⟩:=hs
    exact⟨c,hIx c s X Y hc (hm.mono (by omega)),keep hm hl (by omega) hn1⟩)
  ?_ ⟨hI _ _ _ h0 (.below hbw),hL1⟩).mono ?_
 ·rintro pre x W ⟨hi,hl⟩ hpf;have hlt:w.heap.size<W.heap.size:=lt_of hl;have hy:=run_yield (P:=P) (args:=encs x) hl (by rw[hrec];exact hps x);rw[hrec]at hy;refine⟨fn,_,assign,body,hy,roundIn_of_wpIn hfn (hassign _ x W _ ⟨_,run_beginRound hl (by rw[hrec]),?_⟩)⟩;have hl2:(W.putObj w.heap.size (.loop {rec .ready none with state:= .busy})).heap[w.heap.size]?=some (.loop {rec .ready none with state:= .busy}):=World.putObj_heap_same hlt;have hw2:Kp W (W.putObj w.heap.size (.loop {rec .ready none with state:= .busy})):=hKb _ _ _ _ (by omega) hl rfl;refine wpIn_mono (hbody _ pre x _ (hI _ _ _ hi (.put_ _ hl rfl (by omega))) hpf (lt_of hl2)) ?_
  have fin:∀(jump:Option Code) (W3:World),KeepsFrom w.heap.size (W.putObj w.heap.size (.loop {rec .ready none with state:= .busy})) W3→
      (Instr.endRound w.heap.size jump).run P W3= .ok (.bool jump.isNone) (W3.putObj w.heap.size (.loop (rec (if jump.isNone then .ready else .done) jump)))∧
      W3.heap[w.heap.size]?=some (.loop {rec .ready none with state:= .busy})∧
      (W3.putObj w.heap.size (.loop (rec (if jump.isNone then .ready else .done) jump))).heap[w.heap.size]?=some (.loop (rec (if jump.isNone then .ready else .done) jump)):=fun jump W3 hk3=>by
   have hl3:=hk3.same _ _ (by omega) hl2 rfl;have:=run_endRound (P:=P) jump hl3;rw[hrec]at this ⊢;exact⟨this,by rw[hrec]at hl3;exact hl3,World.putObj_heap_same (lt_of hl3)⟩
  rintro e a3 W3 hp
  cases e with
  |normal=>
    obtain⟨hk3,hkp3,hi3⟩:=hp;obtain⟨hr,hl3,hl4⟩:=fin none W3 hk3;exact⟨_,_,hr, .inl ⟨rfl,⟨hI _ _ _ hi3 (.put_ _ hl3 rfl (by omega)),hl4⟩,hKt (hKt hw2 hkp3) (hKb _ _ _ _ (by omega) hl3 rfl)⟩⟩
  |ret=>
    obtain⟨hk3,hi3⟩:=hp;obtain⟨hr,hl3,hl4⟩:=fin (some .ret) W3 hk3;exact⟨_,_,hr, .inr ⟨rfl, .ret,hIx _ _ _ _ hi3 (.put_ _ hl3 rfl (by omega)),hl4⟩⟩
  |exit id=>
    obtain⟨hk3,hi3⟩:=hp;obtain⟨hr,hl3,hl4⟩:=fin (some (.exit id)) W3 hk3;exact⟨_,_,hr, .inr ⟨rfl, .exit id,hIx _ _ _ _ hi3 (.put_ _ hl3 rfl (by omega)),hl4⟩⟩
  |goto t=>
    obtain⟨hk3,hi3⟩:=hp;obtain⟨hr,hl3,hl4⟩:=fin (some (.goto t)) W3 hk3;exact⟨_,_,hr, .inr ⟨rfl, .goto t,hIx _ _ _ _ hi3 (.put_ _ hl3 rfl (by omega)),hl4⟩⟩
  |panic ch=>exact hp.elim
  |outgrown=>exact hp.elim
 rintro e W2 ⟨⟨v,rfl⟩,(⟨xs,hS,hi,hl⟩|⟨pre,hSp,c,hi,hl⟩)⟩
 ·exact⟨none,_,by have:=run_endLoop (P:=P) hl (by rw[hrec];simp);rw[hrec]at this;exact this,hdone xs _ hS (hI _ _ _ hi (.put_ _ hl rfl (by omega)))⟩
 exact⟨some c,_,by have:=run_endLoop (P:=P) hl (by rw[hrec];simp);rw[hrec]at this;exact this,hstop c pre _ hSp (hIx _ _ _ _ hi (.put_ _ hl rfl (by omega)))⟩
end
theorem Xg(l:Bs):Lib.hasSuffix l [47]=decide (l.getLast?=some 47):=by
 unfold Lib.hasSuffix;rw[Bool.eq_iff_iff,List.isSuffixOf_iff_suffix,decide_eq_true_iff];rcases List.eq_nil_or_concat l with rfl|⟨a,x,rfl⟩
 ·simp
 simp only[List.concat_eq_append,List.getLast?_concat,Option.some.injEq];constructor
 ·rintro⟨t,ht⟩;have:=congrArg List.getLast? ht
  simpa[eq_comm]using this
 rintro rfl;exact⟨a,rfl⟩
def Cl(d m:AB):AB:=if d.data.toList.getLast?=some 47 then d++m else d++⟨#[47]⟩++m
set_option maxHeartbeats 400000 in
theorem SK(d m:AB)(w:World)(hd:d.size≤1000000)(hm:m.size≤1000000):
    Calls prog 126 #[.string d, .string m] w fun e w'=>e= .returned (.string (Cl d m))∧w'=w:=by
 have HL:=Lib.hid (Xg d.data.toList);by_cases h:d.data.toList.getLast?=some 47
 ·have HJ:Hid (Cl d m=d++m):=Lib.hid (if_pos h);have HD:Hid (decide (d.data.toList.getLast?=some 47)=true):=Lib.hid (decide_eq_true h);clear h
  go_enter Tryz.func126,Tryz.ntmps126
  go_wp2_with fail
  refine(Tryz.strings_HasSuffix _ _ _ (by omega)).mono ?_;rintro e w' ⟨rfl,rfl⟩;rw[show({data:=#[47]}:ByteArray).data.toList=[47] from rfl,HL.out,HD.out]
  go_wp2
  go_ret
  exact⟨by rw[HJ.out];rfl,rfl⟩
 have HJ:Hid (Cl d m=d++⟨#[47]⟩++m):=Lib.hid (if_neg h);have HD:Hid (decide (d.data.toList.getLast?=some 47)=false):=Lib.hid (decide_eq_false h);clear h
 go_enter Tryz.func126,Tryz.ntmps126
 go_wp2_with fail
 refine(Tryz.strings_HasSuffix _ _ _ (by omega)).mono ?_;rintro e w' ⟨rfl,rfl⟩;rw[show({data:=#[47]}:ByteArray).data.toList=[47] from rfl,HL.out,HD.out]
 go_wp2
 go_ret
 exact⟨by rw[HJ.out];rfl,rfl⟩
end Go.Proofs.YtobclmbkdhbnpaaGreatDoor
namespace Go.Proofs.YtobclmbkdhbnpaaGreatDoor
open Go.RowKit Go.Shelf
attribute [local go_sem] Oper.semAt_some
theorem SeqW.inRound{α:Type}{F:Fence}{n:Nat}{P:Program}{g:Nat}{lb:Array Value}{encs:α→Array Value}{own:Nat→Prop}{Kp:World→World→Prop}{Pf:List α→Prop}{S Sp:List α→Prop}{w:World}(l:Nat)(h:SeqW F n P g lb encs own Kp Pf S Sp w):SeqW (F.inRound l) n P g lb encs own Kp Pf S Sp w:=h
theorem Xh(A:Option Addr)(m c:Nat)(w:World):
    Calls prog 162 #[.slice A m c] w fun e w'=>
     e= .returned (.func (.func 176) #[] #[.pointer (some ⟨w.heap.size,0,none⟩)])∧w'=w.alloc (.cells #[.slice A m c] 68):=by
 go_enter Tryz.func162,Tryz.ntmps162
 go_wp2
 go_ret
 exact⟨rfl,rfl⟩
def NamesIn(w:World)(A:Option Addr)(m c:Nat)(ns:List AB)(g:Nat):Prop:=
 ns.length=m∧m≤c∧(ns=[]∨A=some ⟨g,0,none⟩∧∀i x,ns[i]?=some x→w.cell? ⟨g,i,none⟩=some (.string x))
theorem NamesIn.keep{w w':World}{A:Option Addr}{m c:Nat}{ns:List AB}{g:Nat}(h:NamesIn w A m c ns g)(hg:w'.heap[g]?=w.heap[g]?):NamesIn w' A m c ns g:=
 ⟨h.1,h.2.1,h.2.2.imp id fun h=>⟨h.1,fun i x hx=>(World.cell?_of_block (w:=w) (w':=w') (a:=⟨g,i,none⟩) hg).trans (h.2 i x hx)⟩⟩
def Xi(b0 g:Nat)(X Y:World):Prop:=Y.heap[b0]?=X.heap[b0]?∧Y.heap[g]?=X.heap[g]?
set_option maxRecDepth 100000 in
set_option maxHeartbeats 2000000 in
theorem Xj(n:Nat)(ns:List AB)(hns:ns.length≤1000000)(b0 g:Nat)(A:Option Addr)(m c:Nat)(w:World)(h0:Boxed w b0 68 (.slice A m c))(hN:NamesIn w A m c ns g)(hg:ns=[]∨g<w.heap.size):
    SeqW Fence.wide n prog 176 #[.pointer (some ⟨b0,0,none⟩)] (fun x:Int×AB=>#[.int .i64 x.1, .string x.2]) (fun _=>False) (Xi b0 g) (fun xs=>xs.map (·.2)<+:ns.reverse)
     (fun xs=>xs.map (·.2)=ns.reverse) (fun _=>True) w:=fun l J Jx W hW hJ hJx hY hst=>by
 have k0:Boxed W b0 68 (.slice A m c):=BJ h0 hW h0.lt
 have kN:NamesIn W A m c ns g:=by
  rcases hg with hg|hg
  ·exact⟨hN.1,hN.2.1, .inl hg⟩
  exact hN.keep (hW.block g hg)
 have hmc:=kN.2.1;have hme:=kN.1;subst hme;have c0:=k0.cell;have f0:=k0.frozen;have HJ:=Lib.hid hJ;have HJx:=Lib.hid hJx;have HY:=Lib.hid hY;clear hN hg hW hJ hJx hY h0;refine callsIn_of_wp Tryz.func176 rfl trivial ?_ rfl;simp only[Tryz.ntmps176,List.size_toArray,List.length_cons,List.length_nil,Nat.reduceAdd,Nat.reduceSub,Array.replicate_succ,Array.replicate_zero,List.push_toArray,List.append_toArray,List.nil_append,List.cons_append]
 gi_wp2
 gi_loopw [3] (fun i wr=>∃(j:Nat) (pre:List (Int×AB)),j≤ns.length∧i= .int .i64 ((j:Int) - 1)∧J pre wr∧Boxed wr b0 68 (.slice A ns.length c)∧NamesIn wr A ns.length c ns g∧Hid (pre.map (·.2)=(ns.drop j).reverse)) (fun i _=>(intOf i+1).toNat)
 case atStart=>exact⟨ns.length,[],Av _,rfl,hst,k0,kN,by rw[List.drop_length];exact Lib.hid rfl⟩
 case round=>
  obtain⟨j,pre,hj,rfl,hJp,m0,mN,hpre⟩:=hrel;clear k0 kN hst c0 f0;have c0:=m0.cell;have f0:=m0.frozen
  cases j with
  |zero=>
    gi_wp2
    go_end0
    exact⟨⟨_,rfl⟩, .inl ⟨pre,by rw[hpre.out];simp,hJp⟩⟩
  |succ j=>
    have hlt:j<ns.length:=by omega
    have hx:ns[j]?=some ns[j]:=BG hlt;obtain⟨_,_,hA⟩:=mN;obtain⟨rfl,hcell⟩:=hA.resolve_left (fun e=>by rw[e]at hlt;simp at hlt);have hc:=hcell j _ hx;have HD:Hid ((ns.drop j).reverse=(ns.drop (j+1)).reverse++[ns[j]]):=Lib.hid (by rw[List.drop_eq_getElem_cons hlt];simp);obtain⟨fn,tmps,assign,body,hy,hR⟩:=HY.out pre ((j:Int),ns[j]) wr hJp (by rw[List.map_append,hpre.out];refine⟨(ns.take j).reverse,?_⟩;rw[show(ns.drop (j+1)).reverse++List.map (·.2) [((j:Int),ns[j])]=(ns.drop j).reverse by rw[HD.out];rfl,←List.reverse_append,List.take_append_drop]);have HC:=Lib.hid hcell;clear hcell hA hx;generalize ns[j]=x at *
    gi_wp2_with fail
    refine⟨(fun h=>by cases h),hR.mono ?_⟩;rintro e W3 (⟨rfl,hJ3,hk3⟩|⟨rfl,hJx3⟩)
    ·have q0:Boxed W3 b0 68 (.slice (some ⟨g,0,none⟩) ns.length c):=hk3.1.trans m0;have qN:NamesIn W3 (some ⟨g,0,none⟩) ns.length c ns g:=⟨rfl,hmc, .inr ⟨rfl,fun i y hy=>(World.cell?_of_block (w:=wr) (w':=W3) (a:=⟨g,i,none⟩) hk3.2).trans (HC.out i y hy)⟩⟩;clear c0 f0 hy hR hc
     gi_wp2
     go_roundw
     case rel=>exact⟨j,pre++[((j:Int),x)],by omega,rfl,hJ3,q0,qN,by rw[HD.out,←hpre.out];exact Lib.hid (by simp)⟩
     case measure=>simp[intOf]
    gi_wp2
    refine bodyPost_ret (results_none rfl _ _ _) rfl ?_;exact⟨⟨_,rfl⟩, .inr ⟨pre++[((j:Int),x)],trivial,hJx3⟩⟩
end Go.Proofs.YtobclmbkdhbnpaaGreatDoor
namespace Go.Proofs.YtobclmbkdhbnpaaGreatDoor
open Go.RowKit Go.Shelf
attribute [local go_sem] Oper.semAt_some
theorem Tryz.infoStrH:(prog.info? 9).map (fun i=>(i.zero,i.size,i.bytes))=some (some (.string ⟨#[]⟩),1,16):=by kernel_rfl
def CT(s:Spc)(pre:List A6):List AB:=(pre.filter fun x:A6=>decide (x.2≠1)).map (Bw s)
def Fi(s:Spc)(pre:List A6):AB:=(CT s pre).reverse.foldl Cl ⟨#[47]⟩
def BV(s:Spc)(dir:A6):AB×Bool:=
 if Al s.files dir=true∧Bz s dir.1=true∧(0,1)∈B8 s (BM s.files) dir then(Fi s ((B8 s (BM s.files) dir).takeWhile fun x=>decide (x≠(0,1))),true)else(⟨#[]⟩,false)
theorem Ou(s:Spc):∀(k:Nat) (a:A6),(B8 s k a).length≤k
 |0,_=>by simp[B8]
 |k+1,a=>by
   unfold B8;split
   ·cases h:Dr s a with
    |none=>simp
    |some b=>have:=Ou s k b;simp;omega
   simp
theorem Xk(d m:AB):(Cl d m).size≤d.size+1+m.size:=by
 unfold Cl;split
 ·rw[ByteArray.size_append];omega
 rw[ByteArray.size_append,ByteArray.size_append];exact Av _
theorem SL:∀(l:List AB) (d:AB),(∀x∈l,x.size≤100)→(l.foldl Cl d).size≤d.size+101 * l.length
 |[],d,_=>by simp
 |x::l,d,h=>by
   have h1:=SL l (Cl d x) fun y hy=>h y (List.mem_cons_of_mem _ hy);have h2:=Xk d x;have h3:=h x (List.mem_cons_self ..);simp only[List.foldl_cons,List.length_cons];omega
theorem Xl{w:World}{base:Nat}{e:TypeId}{A:Option Addr}{c g0:Nat}{ns:List AB}(h:w.ownsRow base e 1 (.slice A ns.length c) ns.length (ns.map Value.string))(hg0:g0<w.heap.size):∃g,g<w.heap.size∧NamesIn w A ns.length c ns g:=by
 rcases h.2 with⟨hv,hn⟩|⟨g,cap,cur,hv,_,hb,h1,_,_,h2⟩
 ·injection hv with _ _ hc;exact⟨g0,hg0,rfl,by omega, .inl (List.length_eq_zero_iff.1 hn)⟩
 injection hv with hA _ hc;subst hA hc;refine⟨g,Bl hb,rfl,h1, .inr ⟨rfl,fun i x hx=>?_⟩⟩;rw[(Bq hb).1 i,←Array.getElem?_toList];have hi:i<ns.length:=(Ag.1 hx).1;rw[←List.getElem?_take_of_lt (show i<ns.length * 1 by omega),h2,List.getElem?_map,hx];rfl
theorem Xm{pre l:List A6}(h:pre<+:l)(hm:(0,1)∈pre):(l.takeWhile fun x:A6=>decide (x≠(0,1)))=pre.takeWhile fun x:A6=>decide (x≠(0,1)):=by
 obtain⟨t,rfl⟩:=h
 induction pre with
 |nil=>simp at hm
 |cons y ys ih=>
   by_cases hy:y=(0,1)
   ·simp[hy]
   have hm':(0,1)∈ys:=by
    rcases List.mem_cons.1 hm with h|h
    ·exact absurd h.symm hy
    exact h
   rw[List.cons_append,List.takeWhile_cons,List.takeWhile_cons,ih hm']
theorem Xn{pre:List A6}(h:(0,1)∉pre):((pre++[(0,1)]).takeWhile fun x:A6=>decide (x≠(0,1)))=pre:=by
 induction pre with
 |nil=>simp
 |cons y ys ih=>
   have hy:y≠(0,1):=fun e=>h (by rw[e];simp);rw[List.cons_append,List.takeWhile_cons,if_pos (by simpa using hy),ih (fun hm=>h (List.mem_cons_of_mem _ hm))]
theorem SM(s:Spc)(pre:List A6)(x:A6):CT s (pre++[x])=if x.2=1 then CT s pre else CT s pre++[Bw s x]:=by
 unfold CT;rw[List.filter_append,List.map_append];by_cases h:x.2=1<;>simp[h]
theorem SN(s:Spc)(pre:List A6):(CT s pre).length≤pre.length:=by
 unfold CT;rw[List.length_map];exact List.length_filter_le _ _
theorem Cf{F:Fence}{n:Nat}{P:Program}{ops:Array Oper}{Q:Exit→Act→World→Prop}{fuel:Nat}{listed:Array Bool}{a:Act}{w:World}{rs:List Nat}(hr:Region.ready .any ops listed=rs)(hne:rs≠[])
    (h:∀i∈rs,wpOpIn F n P ops Q i (wpAnyIn F n P .any ops Q fuel (listed.setIfInBounds i true)) a w):wpAnyIn F n P .any ops Q (fuel+1) listed a w:=
 ⟨fun h0=>absurd (hr.symm.trans h0) hne,fun i hi=>h i (hr ▸ hi)⟩
theorem C7{F:Fence}{n:Nat}{P:Program}{ops l:Array Oper}{Q:Exit→Act→World→Prop}{i:Nat}{o:Oper}{K:Act→World→Prop}{a:Act}{w:World}(hops:ops=l)(ho:l[i]?=some o)
    (h:∀K':Act→World→Prop,(∀a w,K a w→K' a w)→wpListIn F n P ops (Exit.then K' Q) [o] a w):wpOpIn F n P ops Q i K a w:=by
 have h1:=h K fun _ _ h=>h;subst hops;unfold wpOpIn;rw[ho];unfold wpListIn at h1;simp only;split at h1
 ·rename_i hw;rw[if_pos hw];refine⟨h1.1,?_⟩;have h2:=h1.2;generalize (o.semAt F.round a.eval).run P w=r at h2
  cases r with
  |ok x w'=>cases x<;>exact h2
  |halt x w'=>cases x<;>exact h2
 rename_i hw;rw[if_neg hw];exact h1
theorem Xo{F:Fence}{n:Nat}{P:Program}{ops:Array Oper}{Q:Exit→Act→World→Prop}{id:Nat}{a:Act}{w:World}(hm:P.follows .mixedOrders=true)(k:Nat)(hk:ops.size=k)
    (h:∀ops',ops'=ops→wpAnyIn F n P .any ops' Q k (Array.replicate k false) a w.drew):(Code.region id ops true).wpIn F n P Q a w:=by
 subst hk;exact wpIn_region_any hm (h ops rfl)
theorem Xp{W w1:World}{base B:Nat}{t e:TypeId}{size:Nat}{v v':Value}{k m:Nat}{xs ys:List Value}{tmp:Obj}
    (hv:Boxed W B t v) (hrow:W.ownsRow base e size v k xs) (hbase:base≤W.heap.size) (hB:B<base)
    (hown':w1.ownsRow base e size v' m ys) (hgrow:(W.alloc tmp).grownBy w1 v.ownBlock):
    Boxed w1 B t v∧Boxed (w1.setCell ⟨B,0,none⟩ v') B t v'∧(w1.setCell ⟨B,0,none⟩ v').ownsRow base e size v' m ys∧KeepsOthers W (w1.setCell ⟨B,0,none⟩ v')∧
     Below B W (w1.setCell ⟨B,0,none⟩ v')∧(∀j:Nat,j<base→j≠B→(w1.setCell ⟨B,0,none⟩ v').heap[j]?=W.heap[j]?)∧
     ∀(j:Nat) (cs:Array Value) (t':TypeId),t'≠e→t'≠t→W.heap[j]?=some (.cells cs t')→(w1.setCell ⟨B,0,none⟩ v').heap[j]?=some (.cells cs t'):=by
 have hne:∀j,j<base→some j≠v.ownBlock:=by
  intro j hj e;have:=World.ownsRow.lt hrow j e.symm;omega
 have hblk:∀j,j<base→w1.heap[j]?=W.heap[j]?:=fun j hj=>(hgrow.block j (by simp;omega) (hne j hj)).trans (Below.heap_alloc W tmp j (by omega));have hv1:Boxed w1 B t v:=(hblk B hB).trans hv;refine⟨hv1,hv1.set v',ownsRow_setCell_below hown' hB v',?_,?_,fun j hj hj'=>(Below.heap_setCell w1 ⟨B,0,none⟩ v' j hj').trans (hblk j hj),?_⟩
 ·refine((KeepsOthers.alloc W tmp).trans (KeepsOthers.of_grownBy hgrow fun j o ej hj=>?_)).trans (KeepsOthers.setCell _ _ _);rcases(hrow.alloc tmp).2 with⟨rfl,_⟩|⟨g,cap,cur,rfl,_,hgb,_⟩
  ·simp[Value.ownBlock]at ej
  obtain rfl:g=j:=by simpa[Value.ownBlock]using ej
  rw[hgb]at hj;cases hj;rfl
 ·have hs:=hgrow.size;simp at hs;exact⟨hgrow.os,hgrow.tape,hgrow.output,by simp[World.setCell];omega,fun j hj=>(Below.heap_setCell w1 ⟨B,0,none⟩ v' j (by show j≠B;omega)).trans (hblk j (by omega))⟩
 intro j cs t' he ht hj;have hjl:=Bl hj;refine(Below.heap_setCell w1 ⟨B,0,none⟩ v' j fun eq=>?_).trans (((hgrow.block j (by simp;omega) fun eq=>?_).trans (Below.heap_alloc W tmp j (by omega))).trans hj)
 ·have eq':j=B:=eq;subst eq';rw[show W.heap[j]?=_ from hv]at hj;injection hj with hj;injection hj with _ h2;exact ht h2.symm
 rcases hrow.2 with⟨rfl,_⟩|⟨g,cap,cur,rfl,_,hgb,_⟩
 ·simp[Value.ownBlock]at eq
 obtain rfl:j=g:=by simpa[Value.ownBlock]using eq
 rw[hgb]at hj;injection hj with hj;injection hj with _ h2;exact he h2.symm
theorem Moves.rowH{own:Nat→Prop}{B:Nat}{X Y:World}(h:Moves own B X Y){base e size k:Nat}{v:Value}{xs:List Value}(hr:X.ownsRow base e size v k xs)(ho:∀b,own b→b<base):Y.ownsRow base e size v k xs:=by
 refine⟨hr.1,?_⟩;rcases hr.2 with h'|⟨g,cap,cur,hv,hg,hb,r⟩
 ·exact .inl h'
 refine .inr ⟨g,cap,cur,hv,hg,?_,r⟩;exact(h.block g (Array.getElem?_eq_some_iff.1 hb).1 (fun e=>by have:=ho g e;omega) (.inr ⟨_,hb,rfl⟩)).trans hb
set_option maxRecDepth 100000 in
set_option maxHeartbeats 4000000 in
theorem Xq(n:Nat)(hn:Hid (4≤n))(s:Spc)(hs:SpcB s)(hnm:∀x,(Bw s x).size≤100)(hmo:BM s.files≤5000)(dir:A6)(ds ms:Value)(w:World)(h:SpcIn s w.heap.size w ds ms):
    CallsIn Fence.wide n prog 125 #[.agg #[ds,ms],D9 dir] w fun e w'=>e= .returned (.tuple #[.string (BV s dir).1, .bool (BV s dir).2])∧Below w.heap.size w w':=by
 obtain⟨i0,hi0,hz0,hz1,hz2⟩:=info_parts Tryz.infoStrH;have HNM:=Lib.hid hnm;clear hnm;unfold D9;refine callsIn_of_wp_marks Tryz.func125 rfl trivial ?_ rfl;simp only[Tryz.ntmps125,List.size_toArray,List.length_cons,List.length_nil,Nat.reduceAdd,Nat.reduceSub,Array.replicate_succ,Array.replicate_zero,List.push_toArray,List.append_toArray,List.nil_append,List.cons_append]
 gi_wp2_with fail
 obtain⟨W4,hW4⟩:∃W4,(((w.alloc (.cells #[ds,ms] 30)).alloc (.cells #[.int .i64 dir.1, .int .i64 dir.2] 33)).alloc (.cells #[.string ⟨#[]⟩] 9)).alloc (.cells #[.bool false] 4)=W4:=⟨_,rfl⟩;have hz4:W4.heap.size=w.heap.size+4:=by rw[←hW4];simp
 have hB4:Below w.heap.size w W4:=by rw[←hW4];exact O8 _ _ _ _ _
 have kS:W4.heap[w.heap.size]?=some (.cells #[ds,ms] 30):=by rw[←hW4];exact Qy _ _ _ _ _
 have kD:W4.heap[w.heap.size+1]?=some (.cells #[.int .i64 dir.1, .int .i64 dir.2] 33):=by rw[←hW4];exact O9 _ _ _ _ _
 have kP:Boxed W4 (w.heap.size+1+1) 9 (.string ⟨#[]⟩):=by rw[←hW4];exact Qz _ _ _ _ _
 have kE:Boxed W4 (w.heap.size+1+1+1) 4 (.bool false):=by rw[←hW4];exact OA _ _ _ _ _
 have hSp:=h.below hB4 (Av _);rw[hW4];have HZ4:=Lib.hid hz4;clear hW4;refine Db ((callsIn_wide.2 (Wh hSp hs dir)).mono ?_);rintro e W5 ⟨rfl,hb5⟩;obtain⟨di,hdi⟩:∃di,Al s.files dir=di:=⟨_,rfl⟩;rw[hdi];have hz5:=hb5.size;have k5S:=BJ kS hb5 (Bl kS);have k5D:=BJ kD hb5 (Bl kD);have k5P:Boxed W5 (w.heap.size+1+1) 9 (.string ⟨#[]⟩):=BJ kP hb5 (Bl kP);have k5E:Boxed W5 (w.heap.size+1+1+1) 4 (.bool false):=BJ kE hb5 (Bl kE);have hB5:Below w.heap.size w W5:=hB4.trans (hb5.mono hB4.size);have h5:=h.below hB5 (Av _);have HZ5:Hid (w.heap.size+4≤W5.heap.size):=Lib.hid (by omega);have HDI:=Lib.hid hdi;clear kS kD kP kE hB4 hSp hb5 hz4 hz5 hdi HZ4;obtain⟨c0,f0⟩:=Bq k5S;obtain⟨c1,f1⟩:=Bq k5D;have c2:=k5P.cell;have f2:=k5P.frozen;have c3:=k5E.cell;have f3:=k5E.frozen
 cases di with
 |false=>
   have HW:Hid (BV s dir=(⟨#[]⟩,false)):=Lib.hid (by unfold BV;rw[HDI.out];simp)
   gi_wp2
   refine⟨trivial,?_⟩
   gi_wp2
   have hP:=(Boxed.other (k5P.set (.string ⟨#[]⟩)) (show w.heap.size+1+1≠w.heap.size+1+1+1 by omega) (.bool false)).cell;have hE:=((Boxed.other k5E (show w.heap.size+1+1+1≠w.heap.size+1+1 by omega) (.string ⟨#[]⟩)).set (.bool false)).cell;refine⟨.tuple #[.string ⟨#[]⟩, .bool false],by simp[results,Tryz.f125,go_sem,hP,hE],by rw[HW.out],(hB5.setCell (by show w.heap.size≤w.heap.size+1+1;omega) _).setCell (by show w.heap.size≤w.heap.size+1+1+1;omega) _⟩
 |true=>
   gi_wp2_with fail
   refine Db ((callsIn_wide.2 (Wi h5 hs dir.1)).mono ?_);rintro e W6 ⟨rfl,hb6⟩;obtain⟨mi,hmi⟩:∃mi,Bz s dir.1=mi:=⟨_,rfl⟩;rw[hmi];have hz6:=hb6.size;have k6S:=BJ k5S hb6 (Bl k5S);have k6D:=BJ k5D hb6 (Bl k5D);have k6P:Boxed W6 (w.heap.size+1+1) 9 (.string ⟨#[]⟩):=BJ k5P hb6 (Bl k5P);have k6E:Boxed W6 (w.heap.size+1+1+1) 4 (.bool false):=BJ k5E hb6 (Bl k5E);have hB6:Below w.heap.size w W6:=hB5.trans (hb6.mono hB5.size);have HZ6:Hid (w.heap.size+4≤W6.heap.size):=Lib.hid (by have:=HZ5.out;omega);have HMI:=Lib.hid hmi;clear k5S k5D k5P k5E hB5 h5 hb6 hz6 hmi HZ5 c0 f0 c1 f1 c2 f2 c3 f3;obtain⟨c0,f0⟩:=Bq k6S;obtain⟨c1,f1⟩:=Bq k6D;have c2:=k6P.cell;have f2:=k6P.frozen;have c3:=k6E.cell;have f3:=k6E.frozen
   cases mi with
   |false=>
     have HW:Hid (BV s dir=(⟨#[]⟩,false)):=Lib.hid (by unfold BV;rw[HMI.out];simp)
     gi_wp2
     have hP:=(Boxed.other (k6P.set (.string ⟨#[]⟩)) (show w.heap.size+1+1≠w.heap.size+1+1+1 by omega) (.bool false)).cell;have hE:=((Boxed.other k6E (show w.heap.size+1+1+1≠w.heap.size+1+1 by omega) (.string ⟨#[]⟩)).set (.bool false)).cell;refine⟨.tuple #[.string ⟨#[]⟩, .bool false],by simp[results,Tryz.f125,go_sem,hP,hE],by rw[HW.out],(hB6.setCell (by show w.heap.size≤w.heap.size+1+1;omega) _).setCell (by show w.heap.size≤w.heap.size+1+1+1;omega) _⟩
   |true=>
     have HW:Hid (BV s dir=if(0,1)∈B8 s (BM s.files) dir then(Fi s ((B8 s (BM s.files) dir).takeWhile fun x=>decide (x≠(0,1))),true)else(⟨#[]⟩,false)):=Lib.hid (by unfold BV;rw[HDI.out,HMI.out];simp);obtain⟨d0,g0⟩:=Bq (CM k6S (.cells #[.slice none 0 0] 68));obtain⟨d1,g1⟩:=Bq (CM k6D (.cells #[.slice none 0 0] 68))
     gi_wp2_with fail
     obtain⟨W7,hW7⟩:∃W7,W6.alloc (.cells #[.slice none 0 0] 68)=W7:=⟨_,rfl⟩;have hB7:Below W6.heap.size W6 W7:=by rw[←hW7];exact Ep _ _
     have hz7:W7.heap.size=W6.heap.size+1:=by rw[←hW7];simp
     have kN:Boxed W7 W6.heap.size 68 (.slice none 0 0):=by rw[←hW7];exact GZ _ _
     rw[hW7];clear hW7 d0 g0 d1 g1 c0 f0 c1 f1 c2 f2 c3 f3;refine Db ((callsIn_wide.2 (RS ds ms dir W7)).mono ?_);rintro e W9 ⟨rfl,hW9⟩;have hB9:Below W7.heap.size W7 W9:=by rw[hW9];exact G7 _ _ _
     have hz9:W9.heap.size=W6.heap.size+3:=by rw[hW9];simp[hz7]
     have cS:W9.heap[W7.heap.size]?=some (.cells #[ds,ms] 30):=by rw[hW9];exact Ga _ _ _
     have cD:W9.heap[W7.heap.size+1]?=some (.cells #[.int .i64 dir.1, .int .i64 dir.2] 33):=by rw[hW9];exact Gb _ _ _
     have hB69:Below W6.heap.size W6 W9:=hB7.trans (hB9.mono (by omega));have kN9:Boxed W9 W6.heap.size 68 (.slice none 0 0):=BJ kN hB9 (by omega);have k9S:=BJ k6S hB69 (Bl k6S);have k9P:Boxed W9 (w.heap.size+1+1) 9 (.string ⟨#[]⟩):=BJ k6P hB69 (Bl k6P);have k9E:Boxed W9 (w.heap.size+1+1+1) 4 (.bool false):=BJ k6E hB69 (Bl k6E);have hBw:Below w.heap.size w W9:=hB6.trans (hB69.mono hB6.size);have kSp:=h.below hBw (Av _);have HZ9:Hid (W7.heap.size=W6.heap.size+1∧W9.heap.size=W6.heap.size+3):=Lib.hid ⟨hz7,hz9⟩;clear hW9 kN hB7 hB9 hB69 hB6 hz7 hz9 k6S k6D k6P k6E
     gi_wp2_with fail
     refine SJ rfl (by have:=hn.out;omega) (gf:=115) rfl trivial (enters_of Tryz.func115 (by kernel_rfl) rfl)
      (RV (n - 1) s hs dir w.heap.size W7.heap.size (W7.heap.size+1) ds ms W9 cS cD kSp (by have:=HZ9.out;have:=HZ6.out;omega) (by have:=HZ9.out;have:=HZ6.out;omega) (by omega))
      (fun b hb=>by have:=HZ9.out;omega) KeepC.trans (fun W l o o' hl ho hc=>by have:=HZ9.out;have:=HZ6.out;exact RT (B:=W9.heap.size) (by omega) (by omega) (by omega) W l o o' hl ho hc) (Below.refl _ _) (fun _=>rfl)
      (fun pre W=>W.heap[w.heap.size]?=some (.cells #[ds,ms] 30)∧Boxed W (w.heap.size+1+1) 9 (.string ⟨#[]⟩)∧Boxed W (w.heap.size+1+1+1) 4 (.bool false)∧(∃v,Boxed W W6.heap.size 68 v∧W.ownsRow W9.heap.size 9 1 v (CT s pre).length ((CT s pre).map Value.string))∧(0,1)∉pre∧Below w.heap.size w W)
      (fun c pre W=>c= .ret∧Boxed W (w.heap.size+1+1) 9 (.string (Fi s (pre.takeWhile fun x:A6=>decide (x≠(0,1)))))∧Boxed W (w.heap.size+1+1+1) 4 (.bool true)∧(0,1)∈pre∧Below w.heap.size w W)
      (fun s X Y h hm=>by
        obtain⟨h1,h2,h3,⟨v,h4,h5⟩,h6,h7⟩:=h;have z9:=HZ9.out;have z6:=HZ6.out
        exact⟨(hm.block _ (Bl h1) (by omega) (.inr ⟨_,h1,rfl⟩)).trans h1,hm.boxed h2 (by omega),hm.boxed h3 (by omega),⟨v,hm.boxed h4 (by omega),hm.rowH h5 (fun b hb=>by omega)⟩,h6,hm.under h7 (Av _) (fun b hb=>by omega) (by omega)⟩)
      (fun c s X Y h hm=>by
        obtain⟨h1,h2,h3,h6,h7⟩:=h;have z9:=HZ9.out;have z6:=HZ6.out
        exact⟨h1,hm.boxed h2 (by omega),hm.boxed h3 (by omega),h6,hm.under h7 (Av _) (fun b hb=>by omega) (by omega)⟩)
      ⟨k9S,k9P,k9E,⟨_,kN9,World.ownsRow_nil _ _ _ _⟩,by simp,hBw⟩
      (fun x W=>{tmps:=#[.agg #[ds,ms], .agg #[.int .i64 dir.1, .int .i64 dir.2], .pointer (some ⟨w.heap.size,0,none⟩), .pointer (some ⟨w.heap.size+1,0,none⟩), .pointer (some ⟨w.heap.size+1+1,0,none⟩), .pointer (some ⟨w.heap.size+1+1+1,0,none⟩), .pointer (some ⟨W6.heap.size,0,none⟩), .pointer (some ⟨W.heap.size,0,none⟩),undef,undef,undef, .agg #[ds,ms],
        .agg #[.int .i64 dir.1, .int .i64 dir.2], .bool true, .bool false, .bool false, .agg #[ds,ms], .pointer (some ⟨w.heap.size+1,0,none⟩), .int .i64 dir.1, .bool true, .bool false, .bool false, .agg #[ds,ms], .agg #[.int .i64 dir.1, .int .i64 dir.2],
        .func (.func 115) #[] #[.pointer (some ⟨W7.heap.size,0,none⟩), .pointer (some ⟨W7.heap.size+1,0,none⟩)], .agg #[.int .i64 x.1, .int .i64 x.2],undef,undef,undef,undef,undef,undef,undef,undef,undef,undef,undef,undef,undef,undef,undef,undef,undef,undef,undef,undef,undef,undef],defers:=[]})
      (fun x W=>W.alloc (.cells #[.int .i64 x.1, .int .i64 x.2] 33))
      (fun x W hsz=>⟨Ep _ _,by have:=HZ9.out;have:=HZ6.out;exact L4 (Ep _ _) (by omega) (by omega) (by omega)⟩) ?assign ?body ?done ?stop
     case assign=>
      intro l x W K hsz hK;unfold D9
      gi_wp2
      exact hK
     case body=>
      rintro l pre x W0 W ⟨c1,cP,cE,⟨v,cN,hrow⟩,hnm,hbw⟩ hpf hsz hszW hcell hlW hrl;have cX:=hcell _ _ (GZ W0 (.cells #[.int .i64 x.1, .int .i64 x.2] 33)) rfl;simp only[Ko]at hszW;have HN:=Lib.hid hnm;have HZ:=Lib.hid hsz;have HPF:=Lib.hid hpf;clear hnm hsz hcell hpf k9S k9P k9E kN9 cS cD kSp;obtain⟨a1,b1⟩:=Bq c1;obtain⟨aX,bX⟩:=Bq cX;have aP:=cP.cell;have bP:=cP.frozen;have aE:=cE.cell;have bE:=cE.frozen;have aN:=cN.cell;have bN:=cN.frozen;obtain⟨xd,xi⟩:=x;simp only at aX cX;by_cases hx:(xd,xi)=(0,1)
      ·obtain⟨rfl,rfl⟩:=Prod.mk.inj hx
       obtain⟨A,cc,rfl⟩:∃A c,v= .slice A (CT s pre).length c:=by
        rcases hrow.2 with⟨rfl,hn⟩|⟨g,cap,cur,rfl,_⟩
        ·exact⟨none,0,by rw[hn]⟩
        exact⟨_,_,rfl⟩
       have cN':Boxed (W.alloc (.cells #[.string ⟨#[47]⟩] 9)) W6.heap.size 68 (.slice A (CT s pre).length cc):=CM cN _;have aN':=cN'.cell
       gi_wp2_with fail
       refine Db ((CallsIn.inRound l (callsIn_wide.2 (Xh A (CT s pre).length cc _))).mono ?_);rintro e Wb ⟨rfl,hWb⟩;have z9:=HZ9.out;have z6:=HZ6.out;have zz:=HZ.out;obtain⟨g,hgl,hNI⟩:=Xl hrow (g0:=w.heap.size) (by omega);have hza:(W.alloc (.cells #[.string ⟨#[47]⟩] 9)).heap.size=W.heap.size+1:=Ko _ _;rw[hza];have hBb:Below W.heap.size W Wb:=by rw[hWb];exact G7 _ _ _
       have hzb:Wb.heap.size=W.heap.size+2:=by rw[hWb];exact Qx _ _ _
       have kW:Boxed Wb W.heap.size 9 (.string ⟨#[47]⟩):=by rw[hWb];exact Ga _ _ _
       have kB:Boxed Wb (W.heap.size+1) 68 (.slice A (CT s pre).length cc):=by rw[hWb];exact Gb _ _ _
       have kP:Boxed Wb (w.heap.size+1+1) 9 (.string ⟨#[]⟩):=BJ cP hBb (Bl cP);have kE:Boxed Wb (w.heap.size+1+1+1) 4 (.bool false):=BJ cE hBb (Bl cE);have kG:=hNI.keep (hBb.block g hgl);have kL:∃r,Wb.heap[l]?=some (.loop r):=hrl.imp fun r hr=>BJ hr hBb (Bl hr);obtain⟨rl,kL⟩:=kL;have hbb:Below w.heap.size w Wb:=hbw.trans (hBb.mono hbw.size);have hkf:KeepsFrom W9.heap.size W Wb:=J6 hBb
       have hlen:(CT s pre).length≤5000:=by
        have h1:=SN s pre;have h2:=HPF.out.length_le;have h3:=Ou s (BM s.files) dir;simp only[List.length_append]at h2;omega
       have hall:∀y∈CT s pre,y.size≤100:=by
        intro y hy;unfold CT at hy;obtain⟨z,_,rfl⟩:=List.mem_map.1 hy;exact HNM.out z
       have HL:=Lib.hid hlen;have HA:=Lib.hid hall;have HB:=Lib.hid hzb;have HGL:=Lib.hid hgl;clear hWb cN' aN' a1 b1 aX bX aP bP aE bE aN bN hza hlen hall hzb hgl z9 z6 zz
       gi_wp2_with fail
       refine Xf (l₀:=l) (r₀:=rl) rfl kL (by have:=hn.out;omega) (gf:=176) rfl trivial (enters_of Tryz.func176 (by kernel_rfl) rfl)
        ((Xj (n - 1 - 1 - 1) (CT s pre) (by have:=HL.out;omega) (W.heap.size+1) g A (CT s pre).length cc Wb kB kG (.inr (by have:=HB.out;have:=HGL.out;omega))).inRound l)
        (fun b hb=>hb.elim) (fun h k=>⟨k.1.trans h.1,k.2.trans h.2⟩) (fun X l' o o' hl' _ _=>by have:=HB.out;have:=HGL.out;exact⟨World.putObj_heap_other (by omega),World.putObj_heap_other (by omega)⟩) (Below.refl _ _) (fun _=>rfl)
        (fun pr X=>Boxed X W.heap.size 9 (.string ((pr.map (·.2)).foldl Cl ⟨#[47]⟩))∧Boxed X (w.heap.size+1+1) 9 (.string ⟨#[]⟩)∧Boxed X (w.heap.size+1+1+1) 4 (.bool false)∧KeepsFrom W9.heap.size W X∧Below w.heap.size w X)
        (fun _ _ _=>False)
        (fun s' X Y h hm=>⟨hm.boxed h.1 (fun h=>h),hm.boxed h.2.1 (fun h=>h),hm.boxed h.2.2.1 (fun h=>h),⟨Nat.le_trans h.2.2.2.1.size hm.size,fun k o hk hko hc=>by
          have hX:=h.2.2.2.1.same k o hk hko hc;have:=Bl hko;have:=HB.out
          exact(hm.block k (Bl hX) (fun h=>h) (.inl (by omega))).trans hX⟩,hm.under h.2.2.2.2 (Av _) (fun b hb=>hb.elim) (by have:=HB.out;have:=HZ.out;have:=HZ9.out;have:=HZ6.out;omega)⟩)
        (fun _ _ _ _ h _=>h)
        ⟨kW,kP,kE,hkf,hbb⟩
        (fun y=>{tmps:=#[.agg #[ds,ms], .agg #[.int .i64 dir.1, .int .i64 dir.2], .pointer (some ⟨w.heap.size,0,none⟩), .pointer (some ⟨w.heap.size+1,0,none⟩), .pointer (some ⟨w.heap.size+1+1,0,none⟩), .pointer (some ⟨w.heap.size+1+1+1,0,none⟩), .pointer (some ⟨W6.heap.size,0,none⟩), .pointer (some ⟨W0.heap.size,0,none⟩), .pointer (some ⟨W.heap.size,0,none⟩),undef, .string y.2, .agg #[ds,ms],
          .agg #[.int .i64 dir.1, .int .i64 dir.2], .bool true, .bool false, .bool false, .agg #[ds,ms], .pointer (some ⟨w.heap.size+1,0,none⟩), .int .i64 dir.1, .bool true, .bool false, .bool false, .agg #[ds,ms], .agg #[.int .i64 dir.1, .int .i64 dir.2],
          .func (.func 115) #[] #[.pointer (some ⟨W7.heap.size,0,none⟩), .pointer (some ⟨W7.heap.size+1,0,none⟩)], .agg #[.int .i64 0, .int .i64 1], .bool true, .agg #[.int .i64 0, .int .i64 1], .agg #[.int .i64 0, .int .i64 1], .bool true, .slice A (CT s pre).length cc,
          .func (.func 176) #[] #[.pointer (some ⟨W.heap.size+1,0,none⟩)], .int .i64 y.1, .string y.2,undef,undef,undef,undef,undef,undef,undef,undef,undef,undef,undef,undef,undef,undef],defers:=[]}) ?assign2 ?body2 ?done2 ?stop2
       case assign2=>
        intro l2 y X K hK
        gi_wp2
        exact hK
       case body2=>
        rintro l2 pr y X ⟨e1,e2,e3,e4,e5⟩ hpf2 hszX;have hp1:(pr.map (·.2)++[y.2])<+:(CT s pre).reverse:=by simpa using hpf2
        have hl1:=hp1.length_le;have hs1:=SL (pr.map (·.2)) ⟨#[47]⟩ fun z hz=>HA.out z (List.mem_reverse.1 (hp1.subset (List.mem_append_left _ hz)));have hs2:y.2.size≤100:=HA.out _ (List.mem_reverse.1 (hp1.subset (by simp)))
        have hs3:((pr.map (·.2)).foldl Cl ⟨#[47]⟩).size≤1000000:=by
         have h1:(⟨#[47]⟩:ByteArray).size=1:=rfl;have:=HL.out;simp only[List.length_append,List.length_map,List.length_cons,List.length_nil,List.length_reverse]at hl1;simp only[List.length_map]at hs1;omega
        have HF:Hid (((pr++[y]).map (·.2)).foldl Cl ⟨#[47]⟩=Cl ((pr.map (·.2)).foldl Cl ⟨#[47]⟩) y.2):=Lib.hid (by simp);clear hpf2 hp1 hl1 hs1;generalize (pr.map (·.2)).foldl Cl ⟨#[47]⟩=dd at *;obtain⟨yi,yn⟩:=y;simp only at hs2 HF;have t1:=e1.cell;have t2:=e1.frozen
        gi_wp2_with fail
        refine Db ((CallsIn.inRound l2 (CallsIn.inRound l (callsIn_wide.2 (SK dd yn X hs3 (by omega))))).mono ?_);rintro e X' ⟨rfl,rfl⟩
        gi_wp2
        have:=HB.out;have hgl:=HGL.out;have z9:=HZ9.out;have z6:=HZ6.out;have zz:=HZ.out;refine⟨L0 (KeepsFrom.refl _ _) (by omega) _,⟨Below.heap_setCell _ _ _ _ (by show W.heap.size+1≠W.heap.size;omega),Below.heap_setCell _ _ _ _ (by show g≠W.heap.size;omega)⟩,by rw[HF.out];exact e1.set _,e2.other (by omega) _,e3.other (by omega) _,?_,e5.setCell (by show w.heap.size≤W.heap.size;omega) _⟩;refine⟨Nat.le_trans e4.size (by simp),fun k o hk hko hc=>?_⟩;have:=Bl hko;exact(Below.heap_setCell _ _ _ _ (by show k≠W.heap.size;omega)).trans (e4.same k o hk hko hc)
       case done2=>
        rintro xs X hS ⟨e1,e2,e3,e4,e5⟩;rw[hS]at e1;change Boxed X W.heap.size 9 (.string (Fi s pre))at e1;have t1:=e1.cell;have t2:=e1.frozen;have t3:=e2.cell;have t4:=e2.frozen;have t5:=e3.cell;have t6:=e3.frozen;clear hS
        gi_wp2_with fail
        have z9:=HZ9.out;have z6:=HZ6.out;have zz:=HZ.out;refine⟨L0 (L0 e4 (by omega) _) (by omega) _,rfl,?_,(Boxed.other e3 (by omega) _).set _,by simp,(e5.setCell (by show w.heap.size≤w.heap.size+1+1;omega) _).setCell (by show w.heap.size≤w.heap.size+1+1+1;omega) _⟩;rw[Xn HN.out];exact Boxed.other (e2.set _) (by omega) _
       case stop2=>
        intro c pr X _ hf;exact hf.elim
      by_cases hi:xi=1
      ·subst hi;have hd:xd≠0:=fun e=>hx (by rw[e])
       gi_wp2_with fail
       have z9:=HZ9.out;have z6:=HZ6.out;have zz:=HZ.out
       exact⟨J6 (Below.refl _ _),L4 (Below.refl _ _) (by omega) (by omega) (by omega),c1,cP,cE,⟨v,cN,by rw[SM,if_pos rfl];exact hrow⟩,by
        intro hm;rcases List.mem_append.1 hm with hm|hm
        ·exact HN.out hm
        exact hx (List.mem_singleton.1 hm).symm,hbw⟩
      gi_wp2_with fail
      have hbd:Below W.heap.size W W.drew:=(Below.refl _ _).drew;have d1:W.drew.heap[w.heap.size]?=some (.cells #[ds,ms] 30):=c1;have dX:W.drew.heap[W0.heap.size]?=some (.cells #[.int .i64 xd, .int .i64 xi] 33):=cX;have dN:Boxed W.drew W6.heap.size 68 v:=cN;have dP:Boxed W.drew (w.heap.size+1+1) 9 (.string ⟨#[]⟩):=cP;have dE:Boxed W.drew (w.heap.size+1+1+1) 4 (.bool false):=cE;have drow:W.drew.ownsRow W9.heap.size 9 1 v (CT s pre).length ((CT s pre).map Value.string):=hrow;refine Xo (by kernel_rfl) 7 rfl ?_;intro ops hops;have HO:=Lib.hid hops;clear hops;have hszD:W.drew.heap.size=W.heap.size:=rfl;have hszO:=hszW;rw[←hszD]at hszW;have hbW:=hbd;clear a1 b1 aX bX aP bP aE bE aN bN c1 cX cN cP cE hrow hszD hrl hbd;generalize W.drew=W1 at *;obtain⟨a1,b1⟩:=Bq d1;obtain⟨aX,bX⟩:=Bq dX;have aN:=dN.cell;have bN:=dN.frozen;have hB1:Below w.heap.size w W1:=hbw.trans (hbW.mono hbw.size)
      have hcall:∀X,Below w.heap.size w X→Calls prog 163 #[.agg #[ds,ms], .agg #[.int .i64 xd, .int .i64 xi]] X fun e w'=>e= .returned (.string (Bw s (xd,xi)))∧Below X.heap.size X w':=by
       intro X hX;have hSX:=h.below hX (Av _);refine(L3 (Xe s (xd,xi) hs) (vs:=[.agg #[ds,ms], .agg #[.int .i64 xd, .int .i64 xi]]) hSX.1 (RQ hSX hs (xd,xi))).mono ?_;rintro e w' ⟨u,G',rfl,hr,hb⟩;simp only[rep]at hr;exact⟨by rw[hr],hb⟩
      have tail:∀w2:World,Below W1.heap.size W1 w2→(w2.alloc (.cells #[.string (Bw s (xd,xi))] 9)).cell? ⟨W6.heap.size,0,none⟩=some v→
          wpAnyIn (Fence.wide.inRound l) (n - 1 - 1) prog .any ops (Exit.inBlock 2 (Exit.inBlock 1 (ownPostG W9.heap.size (KeepC w.heap.size W7.heap.size (W7.heap.size+1))
           (fun pre W=>W.heap[w.heap.size]?=some (.cells #[ds,ms] 30)∧Boxed W (w.heap.size+1+1) 9 (.string ⟨#[]⟩)∧Boxed W (w.heap.size+1+1+1) 4 (.bool false)∧(∃v,Boxed W W6.heap.size 68 v∧W.ownsRow W9.heap.size 9 1 v (CT s pre).length ((CT s pre).map Value.string))∧(0,1)∉pre∧Below w.heap.size w W)
           (fun c pre W=>c= .ret∧Boxed W (w.heap.size+1+1) 9 (.string (Fi s (pre.takeWhile fun x:A6=>decide (x≠(0,1)))))∧Boxed W (w.heap.size+1+1+1) 4 (.bool true)∧(0,1)∈pre∧Below w.heap.size w W)
           (pre++[(xd,xi)]) W))) 2 #[true,true,true,true,true,false,false]
           {tmps:=#[.agg #[ds,ms], .agg #[.int .i64 dir.1, .int .i64 dir.2], .pointer (some ⟨w.heap.size,0,none⟩), .pointer (some ⟨w.heap.size+1,0,none⟩), .pointer (some ⟨w.heap.size+1+1,0,none⟩), .pointer (some ⟨w.heap.size+1+1+1,0,none⟩), .pointer (some ⟨W6.heap.size,0,none⟩), .pointer (some ⟨W0.heap.size,0,none⟩),undef,undef,undef, .agg #[ds,ms], .agg #[.int .i64 dir.1, .int .i64 dir.2], .bool true, .bool false, .bool false, .agg #[ds,ms], .pointer (some ⟨w.heap.size+1,0,none⟩), .int .i64 dir.1, .bool true, .bool false, .bool false, .agg #[ds,ms], .agg #[.int .i64 dir.1, .int .i64 dir.2], .func (.func 115) #[] #[.pointer (some ⟨W7.heap.size,0,none⟩), .pointer (some ⟨W7.heap.size+1,0,none⟩)], .agg #[.int .i64 xd, .int .i64 xi], .bool false, .agg #[.int .i64 xd, .int .i64 xi], .agg #[.int .i64 0, .int .i64 1], .bool false,undef,undef,undef,undef,undef,undef,undef,undef, .bool true, .pointer (some ⟨W0.heap.size,1,none⟩), .int .i64 xi, .bool true,v, .agg #[ds,ms], .agg #[.int .i64 xd, .int .i64 xi], .string (Bw s (xd,xi)), .slice (some ⟨w2.heap.size,0,none⟩) 1 1,undef],defers:=[]} (w2.alloc (.cells #[.string (Bw s (xd,xi))] 9)):=by
       intro w2 hb2 hcN;have z9:=HZ9.out;have z6:=HZ6.out;have zz:=HZ.out;have hw2:=hb2.size;have hw1:=hbW.size;have drow2:w2.ownsRow W9.heap.size 9 1 v (CT s pre).length ((CT s pre).map Value.string):=World.ownsRow.kept drow (Kl hb2 none) (by cases v.ownBlock<;>simp);have dN2:Boxed w2 W6.heap.size 68 v:=BJ dN hb2 (Bl dN)
       have hlen:(CT s pre).length+1≤100000:=by
        have h1:=SN s pre;have h2:=HPF.out.length_le;have h3:=Ou s (BM s.files) dir;simp only[List.length_append]at h2;omega
       have hmx:(CT s pre).length+1≤maxLen:=by unfold maxLen;omega
       have HZ2:Hid (W9.heap.size≤w2.heap.size):=Lib.hid (by omega);have HZB:Hid (W6.heap.size<W9.heap.size):=Lib.hid (by omega);clear z9 z6 zz hw2 hw1;refine Cf (rs:=[5]) (by rw[HO.out];kernel_rfl) (by simp) ?_;intro i hi';obtain rfl:=List.mem_singleton.1 hi';refine C7 HO.out rfl fun K hK=>?_;refine wpListIn_append_own _ rfl _ _ 68 rfl W9.heap.size 9 i0 (.string ⟨#[]⟩) 1 16 Tryz.underlying68 hi0 hz0 hz1 hz2 rfl (by decide) _ _ _ rfl (drow2.alloc _) ⟨w2.heap.size,0,none⟩ 1 1 [.string (Bw s (xd,xi))] rfl rfl (cell_one_new _ _ _) (by simp[Value.oneCell']) (by omega) (by omega) (by have:=HZ2.out;simp;omega) ?_;intro v' w4 hown' hgrow _;obtain⟨g',cap',rfl⟩:=ownsRow_succ hown';obtain⟨hv1,hv2,hr2,hk2,hb4,hj2,ht2⟩:=Xp dN2 drow2 HZ2.out HZB.out hown' hgrow;have hc1:=hv1.cell;have hf1:=hv1.frozen
       gi_wp2
       refine Cf (rs:=[6]) (by rw[HO.out];kernel_rfl) (by simp) ?_;intro i hi';obtain rfl:=List.mem_singleton.1 hi';refine C7 HO.out rfl fun K hK=>?_
       gi_wp2
       refine⟨by rw[HO.out];kernel_rfl,?_⟩;have z9:=HZ9.out;have z6:=HZ6.out;have zz:=HZ.out;have hw2:=hb2.size;have hw1:=hbW.size;have hb02:Below W.heap.size W w2:=hbW.trans (hb2.mono hw1);have e1:=(hj2 w.heap.size (by omega) (by omega)).trans (BJ d1 hb2 (Bl d1));have eP:Boxed _ (w.heap.size+1+1) 9 (.string ⟨#[]⟩):=(hj2 (w.heap.size+1+1) (by omega) (by omega)).trans (BJ dP hb2 (Bl dP));have eE:Boxed _ (w.heap.size+1+1+1) 4 (.bool false):=(hj2 (w.heap.size+1+1+1) (by omega) (by omega)).trans (BJ dE hb2 (Bl dE));refine⟨(J6 hb02).trans (hk2.from _),(L4 hb02 (by omega) (by omega) (by omega)).trans ⟨hk2.size,hj2 _ (by omega) (by omega),hj2 _ (by omega) (by omega),fun b hb=>hj2 b (by omega) (by omega),fun b cs hb=>ht2 b cs _ (by decide) (by decide) hb⟩,e1,eP,eE,⟨_,hv2,?_⟩,?_,(hB1.trans (hb2.mono hB1.size)).trans (hb4.mono (by omega))⟩
       ·rw[SM,if_neg (show¬(xd,xi).2=1 from hi),List.length_append,List.map_append];exact hr2
       intro hm;rcases List.mem_append.1 hm with hm|hm
       ·exact HN.out hm
       exact hx (List.mem_singleton.1 hm).symm
      refine Cf (rs:=[0,1,2]) (by rw[HO.out];kernel_rfl) (by simp) ?_;intro i hi;simp only[List.mem_cons,List.not_mem_nil,or_false]at hi;rcases hi with rfl|rfl|rfl
      ·skip
       refine C7 HO.out rfl fun K hK=>?_
       gi_wp2
       refine Cf (rs:=[1,2]) (by rw[HO.out];kernel_rfl) (by simp) ?_;intro i hi;simp only[List.mem_cons,List.not_mem_nil,or_false]at hi;rcases hi with rfl|rfl
       ·skip
        refine C7 HO.out rfl fun K hK=>?_
        gi_wp2
        refine Cf (rs:=[2]) (by rw[HO.out];kernel_rfl) (by simp) ?_;intro i hi;obtain rfl:=List.mem_singleton.1 hi;refine C7 HO.out rfl fun K hK=>?_
        gi_wp2
        refine Cf (rs:=[3]) (by rw[HO.out];kernel_rfl) (by simp) ?_;intro i hi;obtain rfl:=List.mem_singleton.1 hi;refine C7 HO.out rfl fun K hK=>?_
        gi_wp2_with fail
        refine Db ((CallsIn.inRound l (callsIn_wide.2 (hcall _ hB1))).mono ?_);rintro e w2 ⟨rfl,hb2⟩;have n1:=BJ d1 hb2 (Bl d1);have nX:=BJ dX hb2 (Bl dX);have nN:Boxed w2 W6.heap.size 68 v:=BJ dN hb2 (Bl dN);clear a1 b1 aX bX aN bN;obtain⟨a1,b1⟩:=Bq n1;obtain⟨aX,bX⟩:=Bq nX;have aN:=nN.cell;have bN:=nN.frozen
        gi_wp2
        refine Cf (rs:=[4]) (by rw[HO.out];kernel_rfl) (by simp) ?_;intro i hi;obtain rfl:=List.mem_singleton.1 hi;refine C7 HO.out rfl fun K hK=>?_;have nN3:Boxed (w2.alloc (.cells #[.string (Bw s (xd,xi))] 9)) W6.heap.size 68 v:=CM nN _;have hc2:(w2.alloc (.cells #[.string (Bw s (xd,xi))] 9)).cell? ⟨W6.heap.size,0,none⟩=some v:=nN3.cell
        gi_wp2
        exact tail w2 hb2 hc2
       skip
       refine C7 HO.out rfl fun K hK=>?_
       gi_wp2
       refine Cf (rs:=[1]) (by rw[HO.out];kernel_rfl) (by simp) ?_;intro i hi;obtain rfl:=List.mem_singleton.1 hi;refine C7 HO.out rfl fun K hK=>?_
       gi_wp2
       refine Cf (rs:=[3]) (by rw[HO.out];kernel_rfl) (by simp) ?_;intro i hi;obtain rfl:=List.mem_singleton.1 hi;refine C7 HO.out rfl fun K hK=>?_
       gi_wp2_with fail
       refine Db ((CallsIn.inRound l (callsIn_wide.2 (hcall _ hB1))).mono ?_);rintro e w2 ⟨rfl,hb2⟩;have n1:=BJ d1 hb2 (Bl d1);have nX:=BJ dX hb2 (Bl dX);have nN:Boxed w2 W6.heap.size 68 v:=BJ dN hb2 (Bl dN);clear a1 b1 aX bX aN bN;obtain⟨a1,b1⟩:=Bq n1;obtain⟨aX,bX⟩:=Bq nX;have aN:=nN.cell;have bN:=nN.frozen
       gi_wp2
       refine Cf (rs:=[4]) (by rw[HO.out];kernel_rfl) (by simp) ?_;intro i hi;obtain rfl:=List.mem_singleton.1 hi;refine C7 HO.out rfl fun K hK=>?_;have nN3:Boxed (w2.alloc (.cells #[.string (Bw s (xd,xi))] 9)) W6.heap.size 68 v:=CM nN _;have hc2:(w2.alloc (.cells #[.string (Bw s (xd,xi))] 9)).cell? ⟨W6.heap.size,0,none⟩=some v:=nN3.cell
       gi_wp2
       exact tail w2 hb2 hc2
      ·skip
       refine C7 HO.out rfl fun K hK=>?_
       gi_wp2
       refine Cf (rs:=[0,2]) (by rw[HO.out];kernel_rfl) (by simp) ?_;intro i hi;simp only[List.mem_cons,List.not_mem_nil,or_false]at hi;rcases hi with rfl|rfl
       ·skip
        refine C7 HO.out rfl fun K hK=>?_
        gi_wp2
        refine Cf (rs:=[2]) (by rw[HO.out];kernel_rfl) (by simp) ?_;intro i hi;obtain rfl:=List.mem_singleton.1 hi;refine C7 HO.out rfl fun K hK=>?_
        gi_wp2
        refine Cf (rs:=[3]) (by rw[HO.out];kernel_rfl) (by simp) ?_;intro i hi;obtain rfl:=List.mem_singleton.1 hi;refine C7 HO.out rfl fun K hK=>?_
        gi_wp2_with fail
        refine Db ((CallsIn.inRound l (callsIn_wide.2 (hcall _ hB1))).mono ?_);rintro e w2 ⟨rfl,hb2⟩;have n1:=BJ d1 hb2 (Bl d1);have nX:=BJ dX hb2 (Bl dX);have nN:Boxed w2 W6.heap.size 68 v:=BJ dN hb2 (Bl dN);clear a1 b1 aX bX aN bN;obtain⟨a1,b1⟩:=Bq n1;obtain⟨aX,bX⟩:=Bq nX;have aN:=nN.cell;have bN:=nN.frozen
        gi_wp2
        refine Cf (rs:=[4]) (by rw[HO.out];kernel_rfl) (by simp) ?_;intro i hi;obtain rfl:=List.mem_singleton.1 hi;refine C7 HO.out rfl fun K hK=>?_;have nN3:Boxed (w2.alloc (.cells #[.string (Bw s (xd,xi))] 9)) W6.heap.size 68 v:=CM nN _;have hc2:(w2.alloc (.cells #[.string (Bw s (xd,xi))] 9)).cell? ⟨W6.heap.size,0,none⟩=some v:=nN3.cell
        gi_wp2
        exact tail w2 hb2 hc2
       skip
       refine C7 HO.out rfl fun K hK=>?_
       gi_wp2
       refine Cf (rs:=[0,3]) (by rw[HO.out];kernel_rfl) (by simp) ?_;intro i hi;simp only[List.mem_cons,List.not_mem_nil,or_false]at hi;rcases hi with rfl|rfl
       ·skip
        refine C7 HO.out rfl fun K hK=>?_
        gi_wp2
        refine Cf (rs:=[3]) (by rw[HO.out];kernel_rfl) (by simp) ?_;intro i hi;obtain rfl:=List.mem_singleton.1 hi;refine C7 HO.out rfl fun K hK=>?_
        gi_wp2_with fail
        refine Db ((CallsIn.inRound l (callsIn_wide.2 (hcall _ hB1))).mono ?_);rintro e w2 ⟨rfl,hb2⟩;have n1:=BJ d1 hb2 (Bl d1);have nX:=BJ dX hb2 (Bl dX);have nN:Boxed w2 W6.heap.size 68 v:=BJ dN hb2 (Bl dN);clear a1 b1 aX bX aN bN;obtain⟨a1,b1⟩:=Bq n1;obtain⟨aX,bX⟩:=Bq nX;have aN:=nN.cell;have bN:=nN.frozen
        gi_wp2
        refine Cf (rs:=[4]) (by rw[HO.out];kernel_rfl) (by simp) ?_;intro i hi;obtain rfl:=List.mem_singleton.1 hi;refine C7 HO.out rfl fun K hK=>?_;have nN3:Boxed (w2.alloc (.cells #[.string (Bw s (xd,xi))] 9)) W6.heap.size 68 v:=CM nN _;have hc2:(w2.alloc (.cells #[.string (Bw s (xd,xi))] 9)).cell? ⟨W6.heap.size,0,none⟩=some v:=nN3.cell
        gi_wp2
        exact tail w2 hb2 hc2
       skip
       refine C7 HO.out rfl fun K hK=>?_
       gi_wp2_with fail
       refine Db ((CallsIn.inRound l (callsIn_wide.2 (hcall _ hB1))).mono ?_);rintro e w2 ⟨rfl,hb2⟩;have n1:=BJ d1 hb2 (Bl d1);have nX:=BJ dX hb2 (Bl dX);have nN:Boxed w2 W6.heap.size 68 v:=BJ dN hb2 (Bl dN);clear a1 b1 aX bX aN bN;obtain⟨a1,b1⟩:=Bq n1;obtain⟨aX,bX⟩:=Bq nX;have aN:=nN.cell;have bN:=nN.frozen
       gi_wp2
       refine Cf (rs:=[0,4]) (by rw[HO.out];kernel_rfl) (by simp) ?_;intro i hi;simp only[List.mem_cons,List.not_mem_nil,or_false]at hi;rcases hi with rfl|rfl
       ·skip
        refine C7 HO.out rfl fun K hK=>?_
        gi_wp2
        refine Cf (rs:=[4]) (by rw[HO.out];kernel_rfl) (by simp) ?_;intro i hi;obtain rfl:=List.mem_singleton.1 hi;refine C7 HO.out rfl fun K hK=>?_;have nN3:Boxed (w2.alloc (.cells #[.string (Bw s (xd,xi))] 9)) W6.heap.size 68 v:=CM nN _;have hc2:(w2.alloc (.cells #[.string (Bw s (xd,xi))] 9)).cell? ⟨W6.heap.size,0,none⟩=some v:=nN3.cell
        gi_wp2
        exact tail w2 hb2 hc2
       skip
       refine C7 HO.out rfl fun K hK=>?_;have nN3:Boxed (w2.alloc (.cells #[.string (Bw s (xd,xi))] 9)) W6.heap.size 68 v:=CM nN _;have hc2:(w2.alloc (.cells #[.string (Bw s (xd,xi))] 9)).cell? ⟨W6.heap.size,0,none⟩=some v:=nN3.cell
       gi_wp2
       refine Cf (rs:=[0]) (by rw[HO.out];kernel_rfl) (by simp) ?_;intro i hi;obtain rfl:=List.mem_singleton.1 hi;refine C7 HO.out rfl fun K hK=>?_
       gi_wp2
       exact tail w2 hb2 hc2
      skip
      refine C7 HO.out rfl fun K hK=>?_
      gi_wp2
      refine Cf (rs:=[0,1]) (by rw[HO.out];kernel_rfl) (by simp) ?_;intro i hi;simp only[List.mem_cons,List.not_mem_nil,or_false]at hi;rcases hi with rfl|rfl
      ·skip
       refine C7 HO.out rfl fun K hK=>?_
       gi_wp2
       refine Cf (rs:=[1]) (by rw[HO.out];kernel_rfl) (by simp) ?_;intro i hi;obtain rfl:=List.mem_singleton.1 hi;refine C7 HO.out rfl fun K hK=>?_
       gi_wp2
       refine Cf (rs:=[3]) (by rw[HO.out];kernel_rfl) (by simp) ?_;intro i hi;obtain rfl:=List.mem_singleton.1 hi;refine C7 HO.out rfl fun K hK=>?_
       gi_wp2_with fail
       refine Db ((CallsIn.inRound l (callsIn_wide.2 (hcall _ hB1))).mono ?_);rintro e w2 ⟨rfl,hb2⟩;have n1:=BJ d1 hb2 (Bl d1);have nX:=BJ dX hb2 (Bl dX);have nN:Boxed w2 W6.heap.size 68 v:=BJ dN hb2 (Bl dN);clear a1 b1 aX bX aN bN;obtain⟨a1,b1⟩:=Bq n1;obtain⟨aX,bX⟩:=Bq nX;have aN:=nN.cell;have bN:=nN.frozen
       gi_wp2
       refine Cf (rs:=[4]) (by rw[HO.out];kernel_rfl) (by simp) ?_;intro i hi;obtain rfl:=List.mem_singleton.1 hi;refine C7 HO.out rfl fun K hK=>?_;have nN3:Boxed (w2.alloc (.cells #[.string (Bw s (xd,xi))] 9)) W6.heap.size 68 v:=CM nN _;have hc2:(w2.alloc (.cells #[.string (Bw s (xd,xi))] 9)).cell? ⟨W6.heap.size,0,none⟩=some v:=nN3.cell
       gi_wp2
       exact tail w2 hb2 hc2
      skip
      refine C7 HO.out rfl fun K hK=>?_
      gi_wp2
      refine Cf (rs:=[0,3]) (by rw[HO.out];kernel_rfl) (by simp) ?_;intro i hi;simp only[List.mem_cons,List.not_mem_nil,or_false]at hi;rcases hi with rfl|rfl
      ·skip
       refine C7 HO.out rfl fun K hK=>?_
       gi_wp2
       refine Cf (rs:=[3]) (by rw[HO.out];kernel_rfl) (by simp) ?_;intro i hi;obtain rfl:=List.mem_singleton.1 hi;refine C7 HO.out rfl fun K hK=>?_
       gi_wp2_with fail
       refine Db ((CallsIn.inRound l (callsIn_wide.2 (hcall _ hB1))).mono ?_);rintro e w2 ⟨rfl,hb2⟩;have n1:=BJ d1 hb2 (Bl d1);have nX:=BJ dX hb2 (Bl dX);have nN:Boxed w2 W6.heap.size 68 v:=BJ dN hb2 (Bl dN);clear a1 b1 aX bX aN bN;obtain⟨a1,b1⟩:=Bq n1;obtain⟨aX,bX⟩:=Bq nX;have aN:=nN.cell;have bN:=nN.frozen
       gi_wp2
       refine Cf (rs:=[4]) (by rw[HO.out];kernel_rfl) (by simp) ?_;intro i hi;obtain rfl:=List.mem_singleton.1 hi;refine C7 HO.out rfl fun K hK=>?_;have nN3:Boxed (w2.alloc (.cells #[.string (Bw s (xd,xi))] 9)) W6.heap.size 68 v:=CM nN _;have hc2:(w2.alloc (.cells #[.string (Bw s (xd,xi))] 9)).cell? ⟨W6.heap.size,0,none⟩=some v:=nN3.cell
       gi_wp2
       exact tail w2 hb2 hc2
      skip
      refine C7 HO.out rfl fun K hK=>?_
      gi_wp2_with fail
      refine Db ((CallsIn.inRound l (callsIn_wide.2 (hcall _ hB1))).mono ?_);rintro e w2 ⟨rfl,hb2⟩;have n1:=BJ d1 hb2 (Bl d1);have nX:=BJ dX hb2 (Bl dX);have nN:Boxed w2 W6.heap.size 68 v:=BJ dN hb2 (Bl dN);clear a1 b1 aX bX aN bN;obtain⟨a1,b1⟩:=Bq n1;obtain⟨aX,bX⟩:=Bq nX;have aN:=nN.cell;have bN:=nN.frozen
      gi_wp2
      refine Cf (rs:=[0,4]) (by rw[HO.out];kernel_rfl) (by simp) ?_;intro i hi;simp only[List.mem_cons,List.not_mem_nil,or_false]at hi;rcases hi with rfl|rfl
      ·skip
       refine C7 HO.out rfl fun K hK=>?_
       gi_wp2
       refine Cf (rs:=[4]) (by rw[HO.out];kernel_rfl) (by simp) ?_;intro i hi;obtain rfl:=List.mem_singleton.1 hi;refine C7 HO.out rfl fun K hK=>?_;have nN3:Boxed (w2.alloc (.cells #[.string (Bw s (xd,xi))] 9)) W6.heap.size 68 v:=CM nN _;have hc2:(w2.alloc (.cells #[.string (Bw s (xd,xi))] 9)).cell? ⟨W6.heap.size,0,none⟩=some v:=nN3.cell
       gi_wp2
       exact tail w2 hb2 hc2
      skip
      refine C7 HO.out rfl fun K hK=>?_;have nN3:Boxed (w2.alloc (.cells #[.string (Bw s (xd,xi))] 9)) W6.heap.size 68 v:=CM nN _;have hc2:(w2.alloc (.cells #[.string (Bw s (xd,xi))] 9)).cell? ⟨W6.heap.size,0,none⟩=some v:=nN3.cell
      gi_wp2
      refine Cf (rs:=[0]) (by rw[HO.out];kernel_rfl) (by simp) ?_;intro i hi;obtain rfl:=List.mem_singleton.1 hi;refine C7 HO.out rfl fun K hK=>?_
      gi_wp2
      exact tail w2 hb2 hc2
     case done=>
      rintro D xs W hD hS ⟨c1,cP,cE,_,hnm,hbw⟩ hK;have HS:=Lib.hid hS;have HN:=Lib.hid hnm;clear hS hnm;have aP:=cP.cell;have bP:=cP.frozen;have aE:=cE.cell;have bE:=cE.frozen
      gi_wp2
      have z6:=HZ6.out;have z9:=HZ9.out;have cP2:=Boxed.other (cP.set (.string ⟨#[]⟩)) (show w.heap.size+1+1≠w.heap.size+1+1+1 by omega) (.bool false);have cE2:=(Boxed.other cE (show w.heap.size+1+1+1≠w.heap.size+1+1 by omega) (.string ⟨#[]⟩)).set (.bool false);have hB2:=(hbw.setCell (p:=⟨w.heap.size+1+1,0,none⟩) (by show w.heap.size≤w.heap.size+1+1;omega) (.string ⟨#[]⟩)).setCell (p:=⟨w.heap.size+1+1+1,0,none⟩) (by show w.heap.size≤w.heap.size+1+1+1;omega) (.bool false);have hK2:=(KeepsOthers.setCell _ ⟨w.heap.size+1+1+1,0,none⟩ (.bool false)).same D _ ((KeepsOthers.setCell _ ⟨w.heap.size+1+1,0,none⟩ (.string ⟨#[]⟩)).same D _ hK rfl) rfl;refine⟨by simp, .inl ⟨_,_,rfl,run_takeDeferred hK2,?_⟩⟩;have hP:=(Gg cP2 (show w.heap.size+1+1≠D by omega) (.deferred none)).cell;have hE:=(Gg cE2 (show w.heap.size+1+1+1≠D by omega) (.deferred none)).cell;refine⟨.tuple #[.string ⟨#[]⟩, .bool false],by simp[results,Tryz.f125,go_sem,hP,hE],by rw[HW.out,if_neg (by rw[←HS.out];exact HN.out)],J7 hB2 (by omega) _⟩
     case stop=>
      rintro D c pre W hD hSp ⟨rfl,cP,cE,hnm,hbw⟩ hK;have HS:=Lib.hid hSp;have HN:=Lib.hid hnm;clear hSp hnm;have aP:=cP.cell;have aE:=cE.cell
      gi_wp2
      have z6:=HZ6.out;have z9:=HZ9.out;refine⟨by simp, .inl ⟨_,_,rfl,run_takeDeferred hK,?_⟩⟩;have hP:=(Gg cP (show w.heap.size+1+1≠D by omega) (.deferred none)).cell;have hE:=(Gg cE (show w.heap.size+1+1+1≠D by omega) (.deferred none)).cell;refine⟨.tuple #[.string (Fi s (pre.takeWhile fun x:A6=>decide (x≠(0,1)))), .bool true],by simp[results,Tryz.f125,go_sem,hP,hE],by rw[HW.out,if_pos (HS.out.subset HN.out),Xm HS.out HN.out],J7 hbw (by omega) _⟩
end Go.Proofs.YtobclmbkdhbnpaaGreatDoor
namespace Go.Proofs.YtobclmbkdhbnpaaGreatDoor
open Go.RowKit Go.Shelf
attribute [local go_sem] Oper.semAt_some
def Ov(s:Spc)(dir x:A6):Bool:=match Bv s x with
 |none=>true
 |some d=>decide (∃y∈B8 s (BM s.files) dir,y.1=d)
def Md(s:Spc)(dir:A6):Bool:=(BV s dir).2&&(B8 s (BM s.files) dir).all (Ov s dir)
end Go.Proofs.YtobclmbkdhbnpaaGreatDoor
namespace Go.Proofs.YtobclmbkdhbnpaaGreatDoor
open Go.RowKit
theorem SpcV.b{s:Spc}(h:SpcV s)(hm:s.mounts.length≤1000):SpcB s:=⟨h.files.b,hm⟩
theorem SO{P:Program}{f:FuncId}{s:Spc}{xs:List AV}{us:List Value}{z:Value}{R:AV}(hx:∀(G:Gh) (w:World) (vs:List Value),AP G w xs vs→vs=us)(hR:∀(G:Gh) (w:World),rep G w R z)
    (h:∀(w:World) (ds ms:Value),SpcIn s w.heap.size w ds ms→Calls P f (.agg #[ds,ms]::us).toArray w fun e w'=>e= .returned z∧Below w.heap.size w w'):AFn P f (.agg (As s)::xs) (fun r=>r=R):=by
 intro w St bl vs hr hv;simp only[AP]at hv;obtain⟨z0,zs,rfl,h1,h2⟩:=hv;obtain rfl:=hx _ _ _ h2;simp only[rep,As,AP]at h1;obtain⟨ys,rfl,ds,_,rfl,h3,ms,_,rfl,h4,rfl⟩:=h1
 have hs:SpcIn s w.heap.size w ds ms:=by
  refine⟨Av _,?_⟩;refine JR (St:=St) (fun b o hb=>⟨hr.stlt b o hb,rfl⟩) _ _ ?_;simp only[As,BX];exact⟨_,_,rfl,h3,_,_,rfl,h4,rfl⟩
 refine(h w ds ms hs).mono ?_;rintro e w' ⟨rfl,hb⟩;obtain⟨k1,k2⟩:=hr.below hb;exact⟨_,_,_,_,⟨rfl,rfl,rfl⟩,k1,k2,hR _ _⟩
theorem Xr{G:Gh}{w:World}{a:A6}{vs:List Value}(h:AP G w [.agg (A7 a)] vs):vs=[D9 a]:=by
 simp only[AP,rep,A7]at h;obtain⟨_,_,rfl,⟨_,rfl,_,_,rfl,rfl,_,_,rfl,rfl,rfl⟩,rfl⟩:=h;rfl
structure SpcN(s:Spc):Prop where
 b:SpcB s
 nm:∀x,(Bw s x).size≤100
 most:BM s.files≤5000
section
variable {s:Spc}(hs:SpcN s)
include hs
theorem Ow(a:A6):AFn prog 125 [.agg (As s), .agg (A7 a)] (fun r=>r= .tup [.v (.string (BV s a).1), .v (.bool (BV s a).2)]):=
 SO (us:=[D9 a]) (z:= .tuple #[.string (BV s a).1, .bool (BV s a).2]) (fun _ _ _ h=>Xr h) (fun G w=>by simp only[rep,AP];exact⟨[_,_],rfl,_,_,rfl,rfl,_,_,rfl,rfl,rfl⟩)
  fun w ds ms h=>callsIn_wide.1 (Xq 4 (Lib.hid (Av _)) s hs.b hs.nm hs.most a ds ms w h)
end
theorem Xs(s:Spc)(hs:SpcB s)(a b:A6):AFn prog 48 [.agg (As s), .agg (A7 a), .agg (A7 b)] (fun r=>r= .v (.bool (decide (a∈B8 s (BM s.files) b)))):=
 SO (us:=[D9 a,D9 b]) (z:= .bool (decide (a∈B8 s (BM s.files) b))) (fun G w vs h=>by
  simp only[AP,rep,A7]at h;obtain⟨_,_,rfl,⟨_,rfl,_,_,rfl,rfl,_,_,rfl,rfl,rfl⟩,_,_,rfl,⟨_,rfl,_,_,rfl,rfl,_,_,rfl,rfl,rfl⟩,rfl⟩:=h
  rfl) (fun G w=>by simp only[rep])
  fun w ds ms h=>callsIn_wide.1 (Xd 4 (Lib.hid (by omega)) s hs a b ds ms w h)
theorem Xt{f:AR}{a:A6}(h:Cd f a=true):∃d∈f,AU f a∈d.nodes:=by
 obtain⟨q,i,d,m,_,h2,h3,_,_,h6⟩:=Ma h;exact⟨d,Au h2,by rw[h6];exact Au h3⟩
theorem Xu{x:AB}(h:Da x=true):x.size≤12:=by
 rw[H8]at h;by_cases hc:x.size<1∨12<x.size
 ·rw[if_pos hc]at h;cases h
 omega
theorem Ox{s:Spc}(h:FlsV s.files)(x:A6):(Bw s x).size≤12:=by
 unfold Bw
 cases hf:(EW s x).entries.find? fun e:B6=>decide (e.2=x.2)with
 |none=>exact BC _
 |some e=>
   have hm:=List.mem_of_find?_eq_some hf;unfold EW at hm;by_cases hh:Cd s.files (x.1,(AU s.files x).parent)=true
   ·obtain⟨d,hd,hn⟩:=Xt hh;exact Xu ((h.vd d hd).ent _ hn e hm).1
   have:AU s.files (x.1,(AU s.files x).parent)=Nod.zero:=by
    unfold Cd at hh
    cases hq:Bj s.files (x.1,(AU s.files x).parent)with
    |none=>show(Bj s.files (x.1,(AU s.files x).parent)).getD Nod.zero=Nod.zero;rw[hq];rfl
    |some m=>rw[hq]at hh;exact absurd rfl hh
   rw[this]at hm;cases hm
theorem SP{f:AR}(h:FlsV f):BM f≤48:=by
 have:∀(l:AR),(∀d∈l,d.nodes.length≤16)→BM l≤l.length * 16:=by
  intro l
  induction l with
  |nil=>intro _;simp[BM]
  |cons d l ih=>
    intro h;have h1:=ih fun d hd=>h d (List.mem_cons_of_mem _ hd);have h2:=h d (List.mem_cons_self ..);simp only[BM,List.map_cons,List.sum_cons,List.length_cons]at h1 ⊢;omega
 have h1:=this f fun d hd=>(h.vd d hd).len;have h2:=h.few;omega
theorem SpcV.n{s:Spc}(h:SpcV s)(hm:s.mounts.length≤1000):SpcN s:=⟨⟨h.files.b,hm⟩,fun x=>by have:=Ox h.files x;omega,by have:=SP h.files;omega⟩
theorem SQ{s:Spc}{dev:Int}(h:Bz s dev=true)(h0:dev≠0):∃m∈s.mounts,m.1=dev:=by
 unfold Bz Bk at h;simp only[Bool.or_eq_true,decide_eq_true_eq,h0,or_false]at h
 cases hf:s.mounts.find? fun m:DE=>decide (m.1=dev)with
 |none=>rw[hf]at h;cases h
 |some m=>exact⟨m,List.mem_of_find?_eq_some hf,by have:=List.find?_some hf;simpa using this⟩
theorem Me{s:Spc}{m:DE}(h:m∈s.mounts):Bz s m.1=true:=by
 unfold Bz Bk;rw[Bool.or_eq_true];refine .inl ?_;rw[Option.isSome_map]
 cases hf:s.mounts.find? fun m':DE=>decide (m'.1=m.1)with
 |none=>have:=List.find?_eq_none.1 hf m h;simp at this
 |some m=>rfl
theorem Xv{f:AR}{ms ms':List DE}{dev:Int}(h:Bz ⟨f,ms⟩ dev=true)(hs:∀m∈ms,m∈ms'):Bz ⟨f,ms'⟩ dev=true:=by
 by_cases h0:dev=0
 ·unfold Bz;simp[h0]
 obtain⟨m,hm,rfl⟩:=SQ h h0;exact Me (s:=⟨f,ms'⟩) (hs m hm)
section
theorem SR(s:Spc):∀(k:Nat) (a:A6),(B8 s k a).length≤k
 |0,_=>by simp[B8]
 |k+1,a=>by
   unfold B8;split
   ·cases h:Dr s a with
    |none=>simp
    |some b=>have:=SR s k b;simp;omega
   simp
end
end Go.Proofs.YtobclmbkdhbnpaaGreatDoor
namespace Go.Proofs.YtobclmbkdhbnpaaGreatDoor
section
variable {s:Spc}(hv:SpcV s)
include hv
theorem Oy{q:Nat}{d:Dvc}{p:Nod}{x:Int}(hq:s.files[q]?=some d)(hp:p∈d.nodes)(hx:p.ino=x):Bj s.files ((q:Int),x)=some p:=
 Ok (a:=((q:Int),x)) rfl hq (hv.files.vd d (Au hq)).asc hp hx
theorem LN{a b:A6}(h:Al s.files a=true)(hs:Ce s a=some b):Al s.files b=true:=by
 obtain⟨q,d,m,h1,h2,h3,h4,h5,h6⟩:=JE (f:=s.files) (a:=a) (by rw[h];simp);have hd:=hv.files.vd d (Au h2);unfold Ce at hs;by_cases h0:a.2≠1
 ·rw[if_pos h0]at hs;injection hs with hs;subst hs;rw[h5,h1];obtain⟨p,hp,hpi,e,he,_⟩:=hd.par m h3 (by rw[h4];exact h0) h6
  have hk:p.kind=2:=by
   by_cases hk:p.kind=2
   ·exact hk
   have:=(hd.leaf p hp hk).2;rw[this]at he;cases he
  exact(JC (Oy hv h2 hp hpi)).2 hk
 rw[if_neg h0]at hs;obtain⟨m',hm',_,e⟩:=LM hs;obtain⟨i,hi⟩:=List.getElem?_of_mem hm';rw[←e];exact(hv.mnt i m' hi).dir
theorem Oz{a b:A6}(h:Bz s a.1=true)(hs:Ce s a=some b):Bz s b.1=true:=by
 unfold Ce at hs;by_cases h0:a.2≠1
 ·rw[if_pos h0]at hs;injection hs with hs;subst hs;exact h
 rw[if_neg h0]at hs;obtain⟨m',hm',_,e⟩:=LM hs;obtain⟨i,hi⟩:=List.getElem?_of_mem hm';rw[←e];exact Xv (f:=s.files) (hv.mnt i m' hi).there (fun x hx=>List.mem_of_mem_take hx)
theorem P0:Bk s 0=none:=by
 cases h:Bk s 0 with
 |none=>rfl
 |some on=>
   obtain⟨m',hm',e,_⟩:=LM h;obtain⟨i,hi⟩:=List.getElem?_of_mem hm';have:=(hv.mnt i m' hi).dev1;omega
theorem Xw{a:A6}(h:Bz s a.1=true)(h0:a≠(0,1)):∃b,Ce s a=some b:=by
 have _:=hv;unfold Ce;by_cases h1:a.2≠1
 ·exact⟨_,if_pos h1⟩
 rw[if_neg h1];have h2:a.1≠0:=fun e=>h0 (Prod.ext e (by simpa using h1));unfold Bz at h;rw[decide_eq_false h2,Bool.or_false]at h
 cases ho:Bk s a.1 with
 |none=>rw[ho]at h;cases h
 |some b=>exact⟨b,rfl⟩
theorem He{a:A6}(h:Al s.files a=true):B8 s (BM s.files) a=a::(match Ce s a with
    |none=>[]
    |some b=>B8 s (BM s.files) b):=by
 have hd:¬Al s.files a=false:=by rw[h];simp
 have he:=GE hv a
 cases hm:BM s.files with
 |zero=>rw[hm]at he;exact absurd he hd
 |succ m=>
   rw[hm]at he;rw[Fh hd,Jn hv hd]
   cases hs:Ce s a with
   |none=>rfl
   |some b=>
     simp only;have h1:=he.resolve_left hd b hs;have h2:=GE hv b;rw[hm]at h2;rw[Oq hv m (m+1) b h1 h2]
theorem Xx{a:A6}(h:Al s.files a=true)(hm:Bz s a.1=true):(0,1)∈B8 s (BM s.files) a:=by
 have key:∀(k:Nat) (a:A6),ends s k a→Al s.files a=true→Bz s a.1=true→(0,1)∈B8 s (BM s.files) a:=by
  intro k
  induction k with
  |zero=>intro a he h _;rw[show Al s.files a=false from he]at h;cases h
  |succ k ih=>
    intro a he h hm;by_cases h0:a=(0,1)
    ·rw[He hv h,h0];exact List.mem_cons_self ..
    obtain⟨b,hb⟩:=Xw hv hm h0;rw[He hv h,hb];exact List.mem_cons_of_mem _ (ih b (he.resolve_left (by rw[h];simp) b hb) (LN hv h hb) (Oz hv hm hb))
 exact key _ a (GE hv a) h hm
theorem Jp{a:A6}(h:¬(Al s.files a=true∧Bz s a.1=true)):BV s a=(⟨#[]⟩,false):=by
 have _:=hv;unfold BV;rw[if_neg fun c=>h ⟨c.1,c.2.1⟩]
theorem Mf{a:A6}(h:Al s.files a=true)(hm:Bz s a.1=true):BV s a=(Fi s ((B8 s (BM s.files) a).takeWhile fun x=>decide (x≠(0,1))),true):=by
 unfold BV;rw[if_pos ⟨h,hm,Xx hv h hm⟩]
theorem LO(h:Al s.files (0,1)=true):BV s (0,1)=(⟨#[47]⟩,true):=by
 rw[Mf hv h (by unfold Bz;simp),He hv h,List.takeWhile_cons];simp[Fi,CT]
theorem SS{a b:A6}(h:Al s.files a=true)(hm:Bz s a.1=true)(h0:a≠(0,1))(hb:Ce s a=some b):BV s a=(if a.2=1 then(BV s b).1 else Cl (BV s b).1 (Bw s a),true)∧(BV s b).2=true:=by
 rw[Mf hv h hm,Mf hv (LN hv h hb) (Oz hv hm hb),He hv h,hb,List.takeWhile_cons];simp only[h0,ne_eq,not_false_eq_true,decide_true,if_true];refine⟨?_,trivial⟩;unfold Fi CT;rw[List.filter_cons];by_cases h1:a.2=1
 ·simp[h1]
 simp[h1]
def DH(s:Spc):Nat→A6→A6
 |0,a=>a
 |k+1,a=>if Al s.files a=true then(if a.2≠1 then(a.1,(AU s.files a).parent)else match Bk s a.1 with
   |some on=>DH s k on
   |none=>a)else(0,0)
omit hv in
theorem Xy(dev:Int):Hd s dev≤s.mounts.length:=by
 unfold Hd
 cases h:s.mounts.findIdx? fun m:DE=>decide (m.1=dev)with
 |none=>simp
 |some i=>
   have:=(List.findIdx?_eq_some_iff_getElem.1 h).1;simp only;omega
theorem ST{i j:Nat}{m m':DE}(hi:s.mounts[i]?=some m)(hj:s.mounts[j]?=some m')(h:m.1=m'.1):i=j:=by
 have key:∀{i j:Nat} {m m':DE},s.mounts[i]?=some m→s.mounts[j]?=some m'→m.1=m'.1→¬i<j:=by
  intro i j m m' hi hj h hlt;have hf:=(hv.mnt j m' hj).fresh
  have hm:m∈s.mounts.take j:=by
   refine Au (i:=i) ?_;rw[List.getElem?_take,if_pos hlt];exact hi
  have:=Me (s:=⟨s.files,s.mounts.take j⟩) hm;rw[h,hf]at this;cases this
 have h1:=key hi hj h;have h2:=key hj hi h.symm;omega
omit hv in
theorem Mg{a:A6}{d:Int}(h:Bv s a=some d):∃i:Nat,s.mounts[i]?=some ((d,a):DE):=by
 unfold Bv at h
 cases hf:s.mounts.find? fun m:DE=>decide (m.2=a)with
 |none=>rw[hf]at h;cases h
 |some m=>
   rw[hf]at h;injection h with h;have h2:=List.find?_some hf;simp only[decide_eq_true_eq]at h2;obtain⟨i,hi⟩:=List.getElem?_of_mem (List.mem_of_find?_eq_some hf);exact⟨i,by rw[hi,←h,←h2]⟩
omit hv in
theorem Xz{a:A6}(h:∀(i:Nat) (m:DE),s.mounts[i]?=some m→m.2≠a):Bv s a=none:=by
 cases hc:Bv s a with
 |none=>rfl
 |some d=>obtain⟨i,hi⟩:=Mg hc;exact absurd rfl (h i _ hi)
theorem SU:∀(n:Nat) (a:A6),(∀(i:Nat) (m:DE),s.mounts[i]?=some m→m.2=a→s.mounts.length≤i+n)→Bv s (CS s n a)=none:=by
 intro n
 induction n with
 |zero=>
   intro a h;refine Xz fun i m hi e=>?_;have h1:=h i m hi e;have h2:=(Ag.1 hi).1;omega
 |succ n ih=>
   intro a h
   cases hc:Bv s a with
   |none=>rw[Nz (by rw[hc];rfl)];exact hc
   |some d=>
     obtain⟨i,hi⟩:=Mg hc;rw[CS];refine ih _ fun j m hj e=>?_;have he:Fc s a=(d,1):=by unfold Fc;rw[hc]
     rw[he]at e;have h1:=h i _ hi rfl;have hth:=(hv.mnt j m hj).there;have hd1:=(hv.mnt i _ hi).dev1;rw[e]at hth;obtain⟨m'',hm'',e2⟩:=SQ hth (by simp only at hd1 ⊢;omega);obtain⟨k,hk⟩:=List.getElem?_of_mem hm''
     have hkj:k<j:=by
      have:=(Ag.1 hk).1;simp at this;omega
     rw[List.getElem?_take,if_pos hkj]at hk;have:=ST hv hk hi e2;omega
omit hv in
theorem SV:∀(n:Nat) (a:A6),CS s (n+1) a=Fc s (CS s n a)
 |0,_=>rfl
 |n+1,a=>SV n (Fc s a)
theorem Y0(a:A6):CS s (s.mounts.length+1) a=CS s s.mounts.length a:=by
 rw[SV];refine Ny ?_;rw[SU hv _ a (fun i m _ _=>by omega)];rfl
theorem SW{i:Nat}{m:DE}(hi:s.mounts[i]?=some m):Bk s m.1=some m.2:=by
 have h1:Bz s m.1=true:=Me (Au hi);have hd:=(hv.mnt i m hi).dev1;unfold Bz at h1;rw[decide_eq_false (by omega),Bool.or_false]at h1
 cases ho:Bk s m.1 with
 |none=>rw[ho]at h1;cases h1
 |some on=>
   obtain⟨m',hm',e1,e2⟩:=LM ho;obtain⟨j,hj⟩:=List.getElem?_of_mem hm';have:=ST hv hj hi e1;subst this;rw[hi]at hj;injection hj with hj;rw[←e2,hj]
theorem Y1{x:A6}{dev:Int}(hc:Bv s x=some dev):∀(k:Nat) (y:A6),ends s k y→Al s.files y=true→y.1=dev→∃t r,B8 s (BM s.files) y=t++(dev,1)::x::r:=by
 intro k
 induction k with
 |zero=>intro y he h _;rw[show Al s.files y=false from he]at h;cases h
 |succ k ih=>
   intro y he h hy;obtain⟨i,hi⟩:=Mg hc;by_cases h1:y.2=1
   ·have hs:Ce s y=some x:=by
       unfold Ce;rw[if_neg (by simpa using h1),hy];exact SW hv hi
    obtain⟨t,ht⟩:=Mc hv (LN hv h hs);refine⟨[],t,?_⟩;rw[He hv h,hs];simp only[List.nil_append];rw[ht,←hy,←h1]
   have hs:Ce s y=some (y.1,(AU s.files y).parent):=if_pos h1;obtain⟨t,r,ht⟩:=ih _ (he.resolve_left (by rw[h];simp) _ hs) (LN hv h hs) hy;refine⟨y::t,r,?_⟩;rw[He hv h,hs];simp only[List.cons_append];rw[ht]
def FB(s:Spc)(L:List A6)(i:Nat):Bool:=match L[i]? with
 |none=>true
 |some x=>match Bv s x with
   |none=>true
   |some dev=>decide (0<i)&&decide (L[i - 1]?=some (dev,1))
theorem SX{a:A6}{i:Nat}{x:A6}(hi:(B8 s (BM s.files) a)[i]?=some x):FB s (B8 s (BM s.files) a) i=Ov s a x:=by
 unfold FB Ov;simp only[hi]
 cases hc:Bv s x with
 |none=>rfl
 |some dev=>
   simp only;rw[Bool.eq_iff_iff];simp only[Bool.and_eq_true,decide_eq_true_eq];constructor
   ·rintro⟨_,h2⟩;exact⟨_,Au h2,rfl⟩
   rintro⟨y,hy,hyd⟩;obtain⟨t,r,ht⟩:=Y1 hv hc _ y (GE hv y) (Xc hv hy) hyd;obtain⟨p,hp⟩:=Xb hv hy;have hL:B8 s (BM s.files) a=(p++t)++(dev,1)::x::r:=by rw[←hp,ht,List.append_assoc]
   have hn:=SF hv _ a (GE hv a)
   have hx:(B8 s (BM s.files) a)[(p++t).length+1]?=some x:=by
    rw[hL,DM (by omega)];simp
   have hx0:(B8 s (BM s.files) a)[(p++t).length]?=some (dev,1):=by
    rw[hL,DM (by omega)];simp
   have e:i=(p++t).length+1:=by
    obtain⟨h1,h2⟩:=Ag.1 hi;obtain⟨h3,h4⟩:=Ag.1 hx;exact(List.getElem_inj hn).1 (h2.trans h4.symm)
   subst e;exact⟨by omega,hx0⟩
theorem Y2(a:A6):Md s a=((BV s a).2&&(List.range (B8 s (BM s.files) a).length).all (FB s (B8 s (BM s.files) a))):=by
 unfold Md
 congr 1
 rw[Bool.eq_iff_iff,List.all_eq_true,List.all_eq_true];constructor
 ·intro h i hi;have hl:=List.mem_range.1 hi;rw[SX hv (BG hl)];exact h _ (List.getElem_mem hl)
 intro h x hx;obtain⟨i,hi⟩:=List.getElem?_of_mem hx;rw[←SX hv hi];exact h i (List.mem_range.2 (Ag.1 hi).1)
end
end Go.Proofs.YtobclmbkdhbnpaaGreatDoor
