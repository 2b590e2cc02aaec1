/-
  Part 12 of the proof of FilterContextsP: what the statement's proof uses of the texts in wip/tpl.
-/
import Derived.OpenShut
import Derived.ChangeArms
import Derived.ChangeOld
import Derived.DataReads
import Derived.DataElems
import Derived.Test.YtbgnigjfkbmceaaGreatDoorShelf
import Derived.Laws.RangeAny
import Derived.Deep.LoopGhost
import Derived.Test.YtbgnigjfkbmceaaGreatDoorQb11
open Go.Proofs.Tryz (prog)
set_option maxRecDepth 10000
set_option maxHeartbeats 4000000
set_option linter.unusedVariables false
set_option linter.unusedSimpArgs false
namespace Go.Proofs.YtbgnigjfkbmceaaGreatDoor
open Go.RowKit
theorem SpcV.b{s:Spc}(h:SpcV s)(hm:s.mounts.length≤1000):SpcB s:=⟨h.files.b,hm⟩
section
theorem Yw(l:List Int)(a:Nat)(ha:a≤10000000):GenF prog 35 l a [] 1100 (fun r=>∃s,r= .agg (Aj s)∧SpcV s∧s.mounts.length≤3):=by
 refine enter Tryz.func35 rfl rfl rfl rfl rfl 1 rfl ?_;refine w_ (Aa (h:=e_ (w_ (m_ (h:=?_)))));refine A6 rfl (Ag 0 (hc:=Ya l _ (by omega)) (hR:=?_));rintro r a1 ha1 ⟨f1,rfl,hv1,hp1⟩;refine⟨rfl,_,(by repeat constructor),?_⟩;refine A6 rfl (Hj (y:= .agg (Aj ⟨f1,[]⟩)) (EE ⟨rfl,rfl⟩) ?_);refine Aa (h:=s_ (h:=e_ (q_ (w_ (m_ (h:=?_))))));refine A6 rfl (Ag 0 (hc:=Gn l _ (4) (by omega) (by omega)) (hR:=?_));rintro r a2 ha2 ⟨k2,rfl,p2,q2,o2⟩;refine⟨rfl,_,(by repeat constructor),?_⟩;refine a_ (h:=e_ (Ab (?_)));obtain⟨M,rfl⟩:=Int.eq_ofNat_of_zero_le p2;have hM:M≤3:=by omega
 refine BT (fun n t=>∃(j b:Nat) (s:Spc),j≤M∧n=j∧b+10 * j≤a+1001+10 * M∧SpcV s∧s.mounts.length+j≤M∧t=⟨look [(0, .bp 0 0),(2, .bp 1 0),(3, .bp 2 0),(4, .v (.int .i64 (j:Int)))],⟨[Cc l b,[.v (.slice none 0 0), .v (.slice none 0 0)],Aj s],[]⟩⟩) (M) ((wk 3 0)) (⟨M,_,⟨f1,[]⟩,B3 _,rfl,by omega,⟨hv1,hp1,fun i m hi=>by simp at hi⟩,by simp,rfl⟩) ?_;rintro n t ⟨j,b,s,hj,rfl,hb,hv,hm,rfl⟩;have hsb:=hv.b (by omega);refine q_ (w_ (m_ (h:=Ba (h:=e_ (?_)))));refine A9 rfl (fun hb1=>?_) (fun hb1=>?_)
 ·have hc1:=bp hb1;refine AD (q_ (Ab (?_)));refine Bx (fun t=>∃(dev:Int) (x:AG) (b2:Nat),b2≤b+10∧t=⟨look [(0, .bp 0 0),(2, .bp 1 0),(3, .bp 2 0),(4, .v (.int .i64 (n:Int))),(5, .bp 3 0),(6, .v (.int .i64 (D0 s dev x).2))],⟨[Cc l b2,[.v (.slice none 0 0), .v (.slice none 0 0)],Aj s,Aj (D0 s dev x).1],[]⟩⟩) ?_ ?_
  ·skip
   refine C3 ([(2,Aj s)]) 14 (h:=?_)
   first|refine AO 0 (h:=?_)|refine BN 0 rfl (fun _ hS=>DZ (row:=Aj s) rfl (kb hS rfl) (B9 rfl) rfl ⟨rfl,rfl⟩) ?_
   refine Ac 1 (h:=Ac 3 (h:=Aw 4 (h:=?_)))
   first|refine AO 5 (h:=?_)|refine BN 5 rfl (fun _ hS=>DZ (row:=Aj s) rfl (kb hS rfl) (B9 rfl) rfl ⟨rfl,rfl⟩) ?_
   refine GH 2 11 rfl rfl ?_ ?_
   ·refine Ag 0 (hc:=CH l _ (1) (2) (by omega) (by omega) (by omega) (by omega)) (hR:=?_);rintro r a3 ha3 ⟨k3,rfl,p3,q3⟩;refine⟨rfl,_,(by repeat constructor),?_⟩;refine o_ (h:=?_);refine GH 6 11 rfl rfl ?_ ?_
    ·refine Ag 0 (hc:=KL l _ s.files (by omega) hv.files.b hv.files.ne) (hR:=?_);rintro r a4 ha4 ⟨x4,rfl⟩;refine⟨rfl,_,(by repeat constructor),?_⟩;refine o_ (h:=?_);refine GH 7 11 rfl rfl ?_ ?_
     ·refine AB (ND s _ _ hsb) ?_;rintro r rfl;refine o_ (h:=?_);refine Ac 8 (h:=By 9 (h:=By 10 (h:=?_)));refine c_ 11 rfl (Dv (by repeat constructor) ?_);refine o_ (h:=?_);refine Bd 12 rfl (BY rfl rfl rfl rfl rfl rfl (by repeat constructor) (by repeat constructor) ?_);refine o_ (h:=BL 13 (h:=z_ (h:=?_)));refine AJ ?_;refine⟨_,⟨_,_,_,?_,rfl⟩,(wk 4 0)⟩;omega
     refine Dv (by repeat constructor) ?_;refine o_ (h:=?_);refine c_ 7 rfl (AB (ND s _ _ hsb) ?_);rintro r rfl;refine o_ (h:=Ac 8 (h:=By 9 (h:=By 10 (h:=?_))));refine Bd 12 rfl (BY rfl rfl rfl rfl rfl rfl (by repeat constructor) (by repeat constructor) ?_);refine o_ (h:=BL 13 (h:=z_ (h:=?_)));refine AJ ?_;refine⟨_,⟨_,_,_,?_,rfl⟩,(wk 4 0)⟩;omega
    refine Dv (by repeat constructor) ?_;refine o_ (h:=?_);refine c_ 6 rfl (Ag 0 (hc:=KL l _ s.files (by omega) hv.files.b hv.files.ne) (hR:=?_));rintro r a5 ha5 ⟨x5,rfl⟩;refine⟨rfl,_,(by repeat constructor),?_⟩;refine o_ (h:=?_);refine c_ 7 rfl (AB (ND s _ _ hsb) ?_);rintro r rfl;refine o_ (h:=Ac 8 (h:=By 9 (h:=By 10 (h:=?_))));refine Bd 12 rfl (BY rfl rfl rfl rfl rfl rfl (by repeat constructor) (by repeat constructor) ?_);refine o_ (h:=BL 13 (h:=z_ (h:=?_)));refine AJ ?_;refine⟨_,⟨_,_,_,?_,rfl⟩,(wk 4 0)⟩;omega
   refine Dv (by repeat constructor) ?_;refine o_ (h:=?_);refine c_ 2 rfl (Ag 0 (hc:=CH l _ (1) (2) (by omega) (by omega) (by omega) (by omega)) (hR:=?_));rintro r a6 ha6 ⟨k6,rfl,p6,q6⟩;refine⟨rfl,_,(by repeat constructor),?_⟩;refine o_ (h:=?_);refine c_ 6 rfl (Ag 0 (hc:=KL l _ s.files (by omega) hv.files.b hv.files.ne) (hR:=?_));rintro r a7 ha7 ⟨x7,rfl⟩;refine⟨rfl,_,(by repeat constructor),?_⟩;refine o_ (h:=?_);refine c_ 7 rfl (AB (ND s _ _ hsb) ?_);rintro r rfl;refine o_ (h:=Ac 8 (h:=By 9 (h:=By 10 (h:=?_))));refine Bd 12 rfl (BY rfl rfl rfl rfl rfl rfl (by repeat constructor) (by repeat constructor) ?_);refine o_ (h:=BL 13 (h:=z_ (h:=?_)));refine AJ ?_;refine⟨_,⟨_,_,_,?_,rfl⟩,(wk 4 0)⟩;omega
  rintro t ⟨dev,x,b2,hb2,rfl⟩;refine w_ (m_ (h:=AK (h:=e_ (?_))));refine A9 rfl (fun hb2=>?_) (fun hb2=>?_)
  ·have hc2:=bp hb2;obtain⟨hv2,he2⟩:=YY hv dev x (by omega);have hm2:(D0 s dev x).1.mounts.length=s.mounts.length+1:=by rw[he2];simp
   refine AR (l_ (h:=s_ (h:=AP (Ai (t_ (AR (m_ (h:=?_))))))));refine A6 rfl (JC rfl rfl (by omega) ?_);refine a_ (h:=AP (?_));refine AJ ?_
   first|refine⟨n - 1,_,by omega,⟨n - 1,_,(D0 s dev x).1,by omega,rfl,?_,hv2,?_,rfl⟩,(by rw[show((n - 1:Nat):Int)=(n:Int) - 1 by omega];exact Ar 3 0 rfl rfl rfl rfl ((by repeat (first|exact Sub.nil|refine As rfl rfl ?_|refine Ay ?_|refine Az rfl ?_|refine B0 rfl ?_))))⟩|refine⟨n - 1,_,by omega,⟨n - 1,_,s,by omega,rfl,?_,hv,?_,rfl⟩,(by rw[show((n - 1:Nat):Int)=(n:Int) - 1 by omega];exact Ar 3 0 rfl rfl rfl rfl ((by repeat (first|exact Sub.nil|refine As rfl rfl ?_|refine Ay ?_|refine Az rfl ?_|refine B0 rfl ?_))))⟩
   ·omega
   omega
  have hc2:=bp hb2;refine Aq (Ai (t_ (AR (m_ (h:=?_)))));refine A6 rfl (JC rfl rfl (by omega) ?_);refine a_ (h:=AP (?_));refine AJ ?_
  first|refine⟨n - 1,_,by omega,⟨n - 1,_,(D0 s dev x).1,by omega,rfl,?_,hv2,?_,rfl⟩,(by rw[show((n - 1:Nat):Int)=(n:Int) - 1 by omega];exact Ar 3 0 rfl rfl rfl rfl ((by repeat (first|exact Sub.nil|refine As rfl rfl ?_|refine Ay ?_|refine Az rfl ?_|refine B0 rfl ?_))))⟩|refine⟨n - 1,_,by omega,⟨n - 1,_,s,by omega,rfl,?_,hv,?_,rfl⟩,(by rw[show((n - 1:Nat):Int)=(n:Int) - 1 by omega];exact Ar 3 0 rfl rfl rfl rfl ((by repeat (first|exact Sub.nil|refine As rfl rfl ?_|refine Ay ?_|refine Az rfl ?_|refine B0 rfl ?_))))⟩
  ·omega
  omega
 have hc1:=bp hb1;refine BF (Ah (Ah (BG (t_ (w_ (l_ (h:=s_ (h:=e_ (A4 (?_))))))))));refine Av none (h5:=(AZ _)) (h6:=⟨_,rfl,rfl,b,by omega,rfl,s,rfl,hv,by omega⟩)
end
theorem TZ{P:Program}{f:FuncId}{s:Spc}{xs:List AV}{us:List Value}{z:Value}{R:AV}(hx:∀(G:Gh) (w:World) (vs:List Value),AY G w xs vs→vs=us)(hR:∀(G:Gh) (w:World),rep G w R z)
    (h:∀(w:World) (ds ms:Value),SpcIn s w.heap.size w ds ms→Calls P f (.agg #[ds,ms]::us).toArray w fun e w'=>e= .returned z∧Below w.heap.size w w'):AFn P f (.agg (Aj s)::xs) (fun r=>r=R):=by
 intro w St bl vs hr hv;simp only[AY]at hv;obtain⟨z0,zs,rfl,h1,h2⟩:=hv;obtain rfl:=hx _ _ _ h2;simp only[rep,Aj,AY]at h1;obtain⟨ys,rfl,ds,_,rfl,h3,ms,_,rfl,h4,rfl⟩:=h1
 have hs:SpcIn s w.heap.size w ds ms:=by
  refine⟨B3 _,?_⟩;refine J7 (St:=St) (fun b o hb=>⟨hr.stlt b o hb,rfl⟩) _ _ ?_;simp only[Aj,BW];exact⟨_,_,rfl,h3,_,_,rfl,h4,rfl⟩
 refine(h w ds ms hs).mono ?_;rintro e w' ⟨rfl,hb⟩;obtain⟨k1,k2⟩:=hr.below hb;exact⟨_,_,_,_,⟨rfl,rfl,rfl⟩,k1,k2,hR _ _⟩
theorem Yx{G:Gh}{w:World}{a:AG}{vs:List Value}(h:AY G w [.agg (AF a)] vs):vs=[D8 a]:=by
 simp only[AY,rep,AF]at h;obtain⟨_,_,rfl,⟨_,rfl,_,_,rfl,rfl,_,_,rfl,rfl,rfl⟩,rfl⟩:=h;rfl
structure SpcN(s:Spc):Prop where
 b:SpcB s
 nm:∀x,(C1 s x).size≤100
 most:BQ s.files≤5000
section
variable {s:Spc}(hs:SpcN s)
include hs
theorem Pu(a:AG):AFn prog 267 [.agg (Aj s), .agg (AF a)] (fun r=>r= .tup [.v (.string (Bh s a).1), .v (.bool (Bh s a).2)]):=
 TZ (us:=[D8 a]) (z:= .tuple #[.string (Bh s a).1, .bool (Bh s a).2]) (fun _ _ _ h=>Yx h) (fun G w=>by simp only[rep,AY];exact⟨[_,_],rfl,_,_,rfl,rfl,_,_,rfl,rfl,rfl⟩)
  fun w ds ms h=>callsIn_wide.1 (Yv 4 (Lib.hid (B3 _)) s hs.b hs.nm hs.most a ds ms w h)
end
theorem Yy(s:Spc)(hs:SpcB s)(a b:AG):AFn prog 120 [.agg (Aj s), .agg (AF a), .agg (AF b)] (fun r=>r= .v (.bool (decide (a∈BH s (BQ s.files) b)))):=
 TZ (us:=[D8 a,D8 b]) (z:= .bool (decide (a∈BH s (BQ s.files) b))) (fun G w vs h=>by
  simp only[AY,rep,AF]at h;obtain⟨_,_,rfl,⟨_,rfl,_,_,rfl,rfl,_,_,rfl,rfl,rfl⟩,_,_,rfl,⟨_,rfl,_,_,rfl,rfl,_,_,rfl,rfl,rfl⟩,rfl⟩:=h
  rfl) (fun G w=>by simp only[rep])
  fun w ds ms h=>callsIn_wide.1 (Yi 4 (Lib.hid (by omega)) s hs a b ds ms w h)
theorem Yz{f:Af}{a:AG}(h:Ck f a=true):∃d∈f,Au f a∈d.nodes:=by
 obtain⟨q,i,d,m,_,h2,h3,_,_,h6⟩:=Lb h;exact⟨d,B1 h2,by rw[h6];exact B1 h3⟩
theorem Z0{x:AM}(h:D4 x=true):x.size≤12:=by
 rw[Ho]at h;by_cases hc:x.size<1∨12<x.size
 ·rw[if_pos hc]at h;cases h
 omega
theorem Pv{s:Spc}(h:FlsV s.files)(x:AG):(C1 s x).size≤12:=by
 unfold C1
 cases hf:(ES s x).entries.find? fun e:BM=>decide (e.2=x.2)with
 |none=>exact BR _
 |some e=>
   have hm:=List.mem_of_find?_eq_some hf;unfold ES at hm;by_cases hh:Ck s.files (x.1,(Au s.files x).parent)=true
   ·obtain⟨d,hd,hn⟩:=Yz hh;exact Z0 ((h.vd d hd).ent _ hn e hm).1
   have:Au s.files (x.1,(Au s.files x).parent)=Nod.zero:=by
    unfold Ck at hh
    cases hq:Bp s.files (x.1,(Au s.files x).parent)with
    |none=>show(Bp s.files (x.1,(Au s.files x).parent)).getD Nod.zero=Nod.zero;rw[hq];rfl
    |some m=>rw[hq]at hh;exact absurd rfl hh
   rw[this]at hm;cases hm
theorem Pw{f:Af}(h:FlsV f):BQ f≤48:=by
 have:∀(l:Af),(∀d∈l,d.nodes.length≤16)→BQ l≤l.length * 16:=by
  intro l
  induction l with
  |nil=>intro _;simp[BQ]
  |cons d l ih=>
    intro h;have h1:=ih fun d hd=>h d (List.mem_cons_of_mem _ hd);have h2:=h d (List.mem_cons_self ..);simp only[BQ,List.map_cons,List.sum_cons,List.length_cons]at h1 ⊢;omega
 have h1:=this f fun d hd=>(h.vd d hd).len;have h2:=h.few;omega
theorem SpcV.n{s:Spc}(h:SpcV s)(hm:s.mounts.length≤1000):SpcN s:=⟨⟨h.files.b,hm⟩,fun x=>by have:=Pv h.files x;omega,by have:=Pw h.files;omega⟩
def Gy(w:World):Nat→Nat→Prop:=fun b _=>b<w.heap.size
def Opens(P:Program)(t:TypeId)(R:List AV→Prop):Prop:=
 ∀(H:Type) (enc:TypeId×Value→H) (w:World) (base:Nat) (spare:Nat→Bool) (held:Bool) (fuel:Nat) (cs:List Value) (x:DataW H×List MemPlace),DataW.trod enc P w base spare held fuel t cs=some x→
  ∃row,R row∧BW (Gy w) w row cs∧∀u∈cs,u.oneCell'=true
section
variable {P:Program}{t:TypeId}
theorem Opens.mono{R R':List AV→Prop}(h:Opens P t R)(hR:∀r,R r→R' r):Opens P t R':=by
 intro H enc w base spare held fuel cs x hx;obtain⟨row,h1,h2⟩:=h H enc w base spare held fuel cs x hx;exact⟨row,hR _ h1,h2⟩
theorem Z1{k:IntKind}(ht:P.underlying t=some (.int k)):Opens P t fun r=>∃n,r=[.v (.int k n)]∧(Lit.int k n).wf=true:=by
 intro H enc w base spare held fuel cs x hx;obtain⟨b,rfl,_,hw⟩:=DataW.trod_int ht hx;exact⟨_,⟨b,rfl,hw⟩,⟨_,_,rfl,by simp only[Am],by simp only[BW]⟩,by simp[Value.oneCell']⟩
theorem Z2{w:World}{b o:Nat}{v:Value}(h:w.cell? ⟨b,o,none⟩=some v):b<w.heap.size:=by
 rcases Nat.lt_or_ge b w.heap.size with hlt|hge
 ·exact hlt
 simp[World.cell?,Array.getElem?_eq_none hge]at h
theorem Z3{St:Nat→Nat→Prop}{w:World}{xs:List AV}{ys:List Value}(h:BW St w xs ys):ys.length=xs.length:=FT (G:=⟨St,[],[]⟩) (H6 (G:=⟨St,[],[]⟩) _ _ h)
theorem Z4{e:TypeId}{n:Nat}{R:List AV→Prop}(ht:P.underlying t=some (.slice e))(hc:P.cellsOf e=n)(hn:0<n)(h:Opens P e R):Opens P t fun r=>∃rows,r=[.sl n rows none]∧rows.length≤maxLen∧∀x∈rows,R x:=by
 intro H enc w base spare held fuel cs x hx;rcases DataW.trod_slice ht hx with⟨rfl,_⟩|⟨⟨b,off,spot⟩,len,cap,elems,rest,m,rfl,rfl,_,hb,hl,hm,hlen,hel,_,_⟩
 ·exact⟨_,⟨[],rfl,BR _,by simp⟩,⟨_,_,rfl,by simp only[Am];exact⟨trivial,none,0,rfl,B3 _,BR _, .inl trivial⟩,by simp only[BW]⟩,by simp[Value.oneCell']⟩
 have each:∀i,i<len→∃row cs',R row∧row.length=n∧BW (Gy w) w row cs'∧(∀u∈cs',u.oneCell'=true)∧cs'.length=n∧∀j,j<n→w.cell? (Addr.add ⟨b,off,spot⟩ (i * n+j))=cs'[j]?:=by
  intro i hi;have h1:=hel i hi;rw[hc,BV (by omega),Option.bind_eq_some_iff]at h1;obtain⟨cs',h2,h3⟩:=h1;obtain⟨row,r1,r2,r3⟩:=h _ _ _ _ _ _ _ _ _ h3;obtain⟨_,c1,c2⟩:=World.cells?_some h2;refine⟨row,cs',r1,by rw[←Z3 r2,c1],r2,r3,c1,fun j hj=>?_⟩;have:=c2 j hj
  rwa [Addr.add_add]at this
 have hrows:∃rows:List (List AV),rows.length=len∧(∀i,i<len→∃row cs',rows[i]?=some row∧R row∧row.length=n∧BW (Gy w) w row cs'∧(∀u∈cs',u.oneCell'=true)∧cs'.length=n∧∀j,j<n→w.cell? (Addr.add ⟨b,off,spot⟩ (i * n+j))=cs'[j]?):=by
  clear hel
  have:∀k,k≤len→∃rows:List (List AV),rows.length=k∧(∀i,i<k→∃row cs',rows[i]?=some row∧R row∧row.length=n∧BW (Gy w) w row cs'∧(∀u∈cs',u.oneCell'=true)∧cs'.length=n∧∀j,j<n→w.cell? (Addr.add ⟨b,off,spot⟩ (i * n+j))=cs'[j]?):=by
   intro k
   induction k with
   |zero=>intro _;exact⟨[],rfl,fun i hi=>by omega⟩
   |succ k ih=>
     intro hk;obtain⟨rows,e1,e2⟩:=ih (by omega);obtain⟨row,cs',q⟩:=each k (by omega);refine⟨rows++[row],by simp[e1],fun i hi=>?_⟩;rcases Nat.lt_or_ge i k with hlt|hge
     ·obtain⟨row',cs'',q1,q2⟩:=e2 i hlt;exact⟨row',cs'',by rw[CT (by omega)];exact q1,q2⟩
     obtain rfl:i=k:=by omega
     exact⟨row,cs',by rw[DC (by omega),e1];simp,q⟩
  exact this len (B3 _)
 obtain⟨rows,e1,e2⟩:=hrows;refine⟨_,⟨rows,rfl,by omega,fun x hx=>?_⟩,⟨_,_,rfl,?_,by simp only[BW]⟩,by simp[Value.oneCell']⟩
 ·obtain⟨i,hi⟩:=List.getElem?_of_mem hx;obtain⟨row,_,q1,q2,_⟩:=e2 i (by rw[←e1];exact(Al.1 hi).1);rw[hi]at q1;injection q1 with q1;subst q1;exact q2
 simp only[Am];refine⟨trivial,some ⟨b,off,spot⟩,cap,by rw[e1],by omega,hm,?_⟩;rcases Nat.eq_zero_or_pos len with h0|h0
 ·left;exact Ct (by omega)
 right
 have hspot:spot=none:=by
  obtain⟨_,cs',_,_,_,_,_,c3,c4⟩:=e2 0 h0;have:=c4 0 hn;rw[BV (by omega)]at this
  simpa[Addr.add]using World.cell?_spot this
 subst hspot;refine⟨b,off,rfl,?_⟩
 have:∀(rs:List (List AV)) (k:Nat),(∀i r,rs[i]?=some r→rows[k+i]?=some r)→froR (Gy w) w b n rs (off+k * n):=by
  intro rs
  induction rs with
  |nil=>intro k _;simp only[froR]
  |cons r rs ih=>
    intro k hk;simp only[froR];have h1:=hk 0 r rfl;rw[Nat.add_zero]at h1;obtain⟨row,cs',q1,_,q3,q4,q5,q6,q7⟩:=e2 k (by rw[←e1];exact(Al.1 h1).1);rw[h1]at q1;injection q1 with q1;subst q1;refine⟨⟨q3,Ji fun i x hi=>?_⟩,?_⟩
    ·obtain⟨u,u1,u2⟩:=MJ q4 hi;have hin:i<n:=by rw[←q3];exact(Al.1 hi).1
     have hc:=q7 i hin;rw[u1]at hc;have hc':w.cell? ⟨b,off+k * n+i,none⟩=some u:=by rw[Addr.add_mid]at hc;rwa [Nat.add_assoc]
     exact⟨Z2 hc',u,hc',q5 u (B1 u1),u2⟩
    have:=ih (k+1) (fun i r' hi=>by
     have:=hk (i+1) r' (by simpa using hi)
     rwa [show k+1+i=k+(i+1) by omega])
    rwa [show off+(k+1) * n=off+k * n+n by rw[Nat.add_mul];omega]at this
 simpa using this rows 0 (fun i r hi=>by simpa using hi)
theorem Ta{α:Type}{enc:α→List AV}{Q:α→Prop}:∀{rows:List (List AV)},(∀x∈rows,∃a,x=enc a∧Q a)→∃l:List α,rows=l.map enc∧∀a∈l,Q a
 |[],_=>⟨[],rfl,by simp⟩
 |r::rs,h=>by
   obtain⟨a,rfl,ha⟩:=h r (by simp);obtain⟨l,rfl,hl⟩:=Ta (rows:=rs) fun x hx=>h x (by simp[hx]);exact⟨a::l,rfl,by simpa using⟨ha,hl⟩⟩
theorem Opens.one{R:List AV→Prop}(h:Opens P t R){H:Type}{enc:TypeId×Value→H}{w:World}{base:Nat}{spare:Nat→Bool}{held:Bool}{v:Value}{d:DataW H}{ps:List MemPlace}(hv:v.cells=#[v])(hd:DataW.Trod enc P w base spare held t v d ps):
    ∃row,R row∧BW (Gy w) w row [v]:=by
 obtain⟨fuel,hf⟩:=hd;rw[hv]at hf;obtain⟨row,h1,h2,_⟩:=h _ _ _ _ _ _ _ _ _ hf;exact⟨row,h1,h2⟩
end
theorem Z5:Opens prog 22 (fun r=>∃l:List Int,r=[.sl 1 (l.map DD) none]):=
 (Z4 (n:=1) Tryz.underlying22 (by kernel_rfl) (by omega) (Z1 Tryz.underlying3)).mono (by
   rintro r ⟨rows,rfl,_,hr⟩;obtain⟨l,rfl,_⟩:=Ta (enc:=DD) (Q:=fun _=>True) (fun x hx=>by obtain⟨t,rfl,_⟩:=hr x hx;exact⟨t,rfl,trivial⟩)
   exact⟨l,rfl⟩)
theorem Z6{H:Type}{enc:TypeId×Value→H}{sp:Nat→Bool}{held:Bool}{base:Nat}{w:World}{a:Option Addr}{n c:Nat}{d:DataW H}{p:List MemPlace}(h:DataW.Trod enc prog w base sp held 22 (.slice a n c) d p):
    ∃l:List Int,rep ⟨Gy w,[],[]⟩ w (.sl 1 (l.map DD) none) (.slice a n c):=by
 obtain⟨r0,⟨l,rfl⟩,k0⟩:=Z5.one rfl h;simp only[BW]at k0;obtain⟨_,_,e0,k0,rfl⟩:=k0;injection e0 with e0;subst e0;exact⟨l,F0 (G:=⟨Gy w,[],[]⟩) _ _ k0⟩
theorem Z7{f:FuncId}(us:List Value)(hf:∀l:List Int,AFn prog f (.sl 1 (l.map DD) none::us.map AV.v) (fun x=>x= .v (.bool true))){H:Type}{enc:TypeId×Value→H}{sp:Nat→Bool}{held:Bool}{base:Nat}(a:Option Addr)(n c:Nat)(w:World){d:DataW H}{p:List MemPlace}
    (h:DataW.Trod enc prog w base sp held 22 (.slice a n c) d p):Calls prog f (.slice a n c::us).toArray w fun e w'=>e= .returned (.bool true)∧Below w.heap.size w w':=by
 obtain⟨l,k⟩:=Z6 h;refine Vp (vs:= .slice a n c::us) (hf l) (Gy w) (fun b o h=>h) ?_;simp only[AY];exact⟨_,_,rfl,k,RJ us⟩
theorem Tc{s:Spc}{dev:Int}(h:CB s dev=true)(h0:dev≠0):∃m∈s.mounts,m.1=dev:=by
 unfold CB Bg at h;simp only[Bool.or_eq_true,decide_eq_true_eq,h0,or_false]at h
 cases hf:s.mounts.find? fun m:DE=>decide (m.1=dev)with
 |none=>rw[hf]at h;cases h
 |some m=>exact⟨m,List.mem_of_find?_eq_some hf,by have:=List.find?_some hf;simpa using this⟩
theorem NH{s:Spc}{m:DE}(h:m∈s.mounts):CB s m.1=true:=by
 unfold CB Bg;rw[Bool.or_eq_true];refine .inl ?_;rw[Option.isSome_map]
 cases hf:s.mounts.find? fun m':DE=>decide (m'.1=m.1)with
 |none=>have:=List.find?_eq_none.1 hf m h;simp at this
 |some m=>rfl
theorem Z8{f:Af}{ms ms':List DE}{dev:Int}(h:CB ⟨f,ms⟩ dev=true)(hs:∀m∈ms,m∈ms'):CB ⟨f,ms'⟩ dev=true:=by
 by_cases h0:dev=0
 ·unfold CB;simp[h0]
 obtain⟨m,hm,rfl⟩:=Tc h h0;exact NH (s:=⟨f,ms'⟩) (hs m hm)
def GV(s:Spc)(C:AG→List AG)(a:AG):List AG:=match CQ s a with
 |none=>[]
 |some b=>C b
section
theorem Td(s:Spc)(a:AG)(hs:SpcB s)(C:AG→List AG)(hC:∀b,(C b).length≤900000)(hid:Ax s.files a=true→(Au s.files a).ino=a.2)
    (hrec:Ax s.files a=true→∀b,CQ s a=some b→AFn prog 171 [.agg (Aj s), .agg (AF b)] (fun r=>r= .sl 2 ((C b).map AF) none)):
    AFn prog 171 [.agg (Aj s), .agg (AF a)] (fun r=>r= .sl 2 ((if Ax s.files a=true then a::GV s C a else[]).map AF) none):=by
 have hde:=FB s.files a;refine enter Tryz.func171 rfl rfl rfl rfl rfl 0 rfl ?_;refine w_ (b_ (h:=b_ (h:=a_ (h:=e_ (w_ (f_ (h:=l_ (h:=l_ (h:=?_)))))))));refine A6 rfl (AB (Ec s.files a hs.files) ?_);rintro r rfl;refine m_ (h:=x_ (h:=x_ (h:=Aa (h:=s_ (h:=a_ (h:=e_ (q_ (w_ (m_ (h:=B7 (h:=m_ (h:=?_))))))))))));refine AT false rfl rfl (fun hb1=>?_) (fun hb1=>?_)
 ·have hc1:=bp hb1;refine A3 (h:=A3 (h:=A3 (h:=AA (h:=e_ (B6 (h:=w_ (a_ (h:=e_ (A4 (A8 (?_)))))))))));refine Av (r:= .sl 2 ((if Ax s.files a=true then a::GV s C a else[]).map AF) none) none (h5:=?_) (h6:=⟨rfl,rfl,rfl⟩);rw[if_neg (by rw[hde];simp_all)];exact LeA.nil _
 have hc1:=bp hb1;refine f_ (h:=l_ (h:=Ao (h:=AE (h:=e_ (?_)))));refine A9 rfl (fun hb2=>?_) (fun hb2=>?_)
 ·have hc2:=bp hb2;refine w_ (a_ (h:=e_ (A4 (A8 (?_)))));refine Av (r:= .sl 2 ((if Ax s.files a=true then a::GV s C a else[]).map AF) none) none (h5:=?_) (h6:=⟨rfl,rfl,rfl⟩);rw[if_neg (by rw[hde];simp_all)];exact LeA.nil _
 have hc2:=bp hb2;refine AD (w_ (l_ (h:=?_)));refine A6 rfl (OK (by repeat (first|exact DenseA.nil _|(apply DenseA.cons;(focus exact rfl);(focus exact rfl);(focus exact rfl);(focus exact rfl))|(apply DenseA.consE;(focus exact rfl);(focus exact rfl);(focus exact rfl)))) rfl rfl rfl rfl (by repeat constructor) ?_);refine a_ (h:=e_ (q_ (w_ (f_ (h:=l_ (h:=Ao (h:=e_ (?_))))))));refine A9 rfl (fun hb3=>?_) (fun hb3=>?_)
 ·have hc3:=bp hb3;have hdd:Ax s.files a=true:=by rw[hde,hc1,decide_eq_true hc2];rfl
  have hst:CQ s a=some (a.1,(Au s.files a).parent):=if_pos hc3;have hCl:=hC (a.1,(Au s.files a).parent);refine w_ (m_ (h:=l_ (h:=f_ (h:=l_ (h:=f_ (h:=l_ (h:=AX (h:=?_))))))));refine A6 rfl (AB (hrec hdd (a.1,(Au s.files a).parent) hst) ?_);rintro r rfl
  skip
  refine Dm (h:=a_ (h:=e_ (A4 (A8 (?_)))));refine A7 ?_;rw[if_pos hdd,show GV s C a=C _ by unfold GV;rw[hst]];rfl
 have hc3:=bp hb3;have hdd:Ax s.files a=true:=by rw[hde,hc1,decide_eq_true hc2];rfl
 have hsr:CQ s a=Bg s a.1:=if_neg (fun h=>h hc3);refine AD (q_ (w_ (l_ (h:=f_ (h:=l_ (h:=?_))))));refine A6 rfl (AB (Mm s a.1 hs) ?_);rintro r rfl;refine m_ (h:=x_ (h:=x_ (h:=Aa (h:=s_ (h:=a_ (h:=e_ (w_ (m_ (h:=e_ (?_))))))))));refine A9 rfl (fun hb4=>?_) (fun hb4=>?_)
 ·have hc4:=bp hb4
  have hst:CQ s a=some ((Bg s a.1).getD (0,0)):=by rw[hsr];cases ho:Bg s a.1 with
   |none=>simp_all
   |some o=>rfl
  have hCl:=hC ((Bg s a.1).getD (0,0));refine w_ (m_ (h:=l_ (h:=l_ (h:=?_))));refine A6 rfl (AB (hrec hdd ((Bg s a.1).getD (0,0)) hst) ?_);rintro r rfl
  skip
  refine Dm (h:=a_ (h:=e_ (A4 (A8 (?_)))));refine A7 ?_;rw[if_pos hdd,show GV s C a=C _ by unfold GV;rw[hst]];rfl
 have hc4:=bp hb4;refine AD (w_ (m_ (h:=a_ (h:=e_ (A4 (?_))))));refine A7 ?_
 rw[if_pos hdd,show GV s C a=[] by unfold GV;rw[hsr];cases ho:Bg s a.1 with
  |none=>rfl
  |some o=>simp_all]
 rfl
theorem NJ(s:Spc):∀(k:Nat) (a:AG),(BH s k a).length≤k
 |0,_=>by simp[BH]
 |k+1,a=>by
   unfold BH;split
   ·cases h:Dr s a with
    |none=>simp
    |some b=>have:=NJ s k b;simp;omega
   simp
theorem Z9{s:Spc}(hs:SpcB s)(hv:SpcV s):∀(k:Nat) (a:AG),k≤900000→E9 s k a→AFn prog 171 [.agg (Aj s), .agg (AF a)] (fun r=>r= .sl 2 ((BH s k a).map AF) none):=by
 have hid:∀a,Ax s.files a=true→(Au s.files a).ino=a.2:=by
  intro a h;obtain⟨q,d,m,_,_,_,h4,h5,_⟩:=Hz (f:=s.files) (a:=a) (by rw[h];simp);rw[h5,h4]
 intro k
 induction k with
 |zero=>
   intro a _ h;refine(Td s a hs (fun _=>[]) (fun _=>BR _) (hid a) (fun hd=>by rw[show Ax s.files a=false from h]at hd;cases hd)).mono fun r hr=>?_;rw[hr,if_neg (by rw[show Ax s.files a=false from h];simp)];rfl
 |succ k ih=>
   intro a hk h;refine(Td s a hs (BH s k) (fun b=>by have:=NJ s k b;omega) (hid a) (fun hd b hb=>ih b (by omega) ((h.resolve_left (by rw[hd];simp)) b hb))).mono fun r hr=>?_;rw[hr];by_cases hd:Ax s.files a=false
   ·rw[J1 hd,if_neg (by rw[hd];simp)]
   rw[Fl hd,if_pos (by simpa using hd),Jd hv hd];unfold GV;cases CQ s a<;>rfl
theorem Te{s:Spc}(hs:SpcB s)(hv:SpcV s)(hm:BQ s.files≤5000)(root dir:AG):AFn prog 121 [.agg (Aj s), .agg (AF root), .agg (AF dir)] (fun r=>r= .v (.bool (decide (root∈BH s (BQ s.files) dir)))):=by
 have hch:=Z9 hs hv (BQ s.files) dir (by omega) (Fz hv dir);have hlen:=NJ s (BQ s.files) dir;generalize BH s (BQ s.files) dir=L at *;have hml:(L.map AF).length=L.length:=by simp
 refine enter Tryz.func121 rfl rfl rfl rfl rfl 0 rfl ?_;refine w_ (b_ (h:=b_ (h:=b_ (h:=a_ (h:=e_ (w_ (l_ (h:=l_ (h:=?_)))))))));refine A6 rfl (AB (hch) ?_);rintro r rfl;refine a_ (h:=e_ (q_ (w_ (a_ (h:=e_ (Ab (?_)))))));refine BT (fun m t=>∃j:Nat,j≤L.length∧m=L.length - j∧(∀i y,i<j→L[i]?=some y→decide (y=root)=false)∧t=⟨look [(4, .bp 1 0),(7, .sl 2 (L.map AF) none),(8, .v (.int .i64 (j:Int)))],⟨[Aj s,AF root,AF dir],[]⟩⟩) (L.length) ((wk 3 0)) (⟨0,by omega,rfl,fun i y hi=>by omega,rfl⟩) ?_;rintro m t ⟨j,hj,rfl,ha,rfl⟩;refine q_ (w_ (m_ (h:=m_ (h:=n_ (h:=B4 (h:=e_ (?_)))))));refine A9 rfl (fun hb1=>?_) (fun hb1=>?_)
 ·have hc1:=bp hb1;obtain⟨hlt,x,hy,hrow, -⟩:=Bt AF hc1;refine AD (q_ (Ab (q_ (Cj 6 (h:=Ac 0 (h:=Ac 1 (h:=Cl 2 (h:=AO 3 (h:=AO 4 (h:=?_))))))))));refine Dw (i:=5) rfl (E4 rfl rfl (by repeat constructor) (by repeat constructor) (fun w=>Jw _ _ _ _ w) (by kernel_rfl) ⟨rfl,rfl⟩) ?_;refine z_ (h:=t_ (?_));refine A9 rfl (fun hb2=>?_) (fun hb2=>?_)
  ·have hc2:=bp hb2;refine w_ (a_ (h:=e_ (A4 (AN (A8 (A8 (AN (A8 (?_)))))))));refine A7 ?_;exact vb (by rw[decide_eq_true];rw[←show x=root from hc2];exact B1 hy)
  have hc2:=bp hb2;refine Aq (Ai (t_ (AR (m_ (h:=B8 (h:=a_ (h:=AP (?_))))))));refine AJ ?_;refine⟨_,_,?_,⟨j+1,by omega,rfl,FA hy ha (decide_eq_false hc2),rfl⟩,(wk 3 0)⟩;omega
 have hc1:=bp hb1;have e3:=C9 AF hj hc1;subst e3;refine BF (Ah (Ah (BG (t_ (w_ (a_ (h:=e_ (A4 (?_)))))))));refine A7 ?_;exact vb (by rw[decide_eq_false];intro hmem;obtain⟨i,hi⟩:=List.getElem?_of_mem hmem;have:=ha i root (Al.1 hi).1 hi;simp at this)
end
end Go.Proofs.YtbgnigjfkbmceaaGreatDoor
namespace Go.Proofs.YtbgnigjfkbmceaaGreatDoor
section
variable {s:Spc}(hv:SpcV s)
include hv
theorem Px{q:Nat}{d:Dvc}{p:Nod}{x:Int}(hq:s.files[q]?=some d)(hp:p∈d.nodes)(hx:p.ino=x):Bp s.files ((q:Int),x)=some p:=
 Po (a:=((q:Int),x)) rfl hq (hv.files.vd d (B1 hq)).asc hp hx
theorem Lf{a b:AG}(h:Ax s.files a=true)(hs:CQ s a=some b):Ax s.files b=true:=by
 obtain⟨q,d,m,h1,h2,h3,h4,h5,h6⟩:=Hz (f:=s.files) (a:=a) (by rw[h];simp);have hd:=hv.files.vd d (B1 h2);unfold CQ at hs;by_cases h0:a.2≠1
 ·rw[if_pos h0]at hs;injection hs with hs;subst hs;rw[h5,h1];obtain⟨p,hp,hpi,e,he,_⟩:=hd.par m h3 (by rw[h4];exact h0) h6
  have hk:p.kind=2:=by
   by_cases hk:p.kind=2
   ·exact hk
   have:=(hd.leaf p hp hk).2;rw[this]at he;cases he
  exact(Jc (Px hv h2 hp hpi)).2 hk
 rw[if_neg h0]at hs;obtain⟨m',hm',_,e⟩:=Le hs;obtain⟨i,hi⟩:=List.getElem?_of_mem hm';rw[←e];exact(hv.mnt i m' hi).dir
theorem Py{a b:AG}(h:CB s a.1=true)(hs:CQ s a=some b):CB s b.1=true:=by
 unfold CQ at hs;by_cases h0:a.2≠1
 ·rw[if_pos h0]at hs;injection hs with hs;subst hs;exact h
 rw[if_neg h0]at hs;obtain⟨m',hm',_,e⟩:=Le hs;obtain⟨i,hi⟩:=List.getElem?_of_mem hm';rw[←e];exact Z8 (f:=s.files) (hv.mnt i m' hi).there (fun x hx=>List.mem_of_mem_take hx)
theorem Pz:Bg s 0=none:=by
 cases h:Bg s 0 with
 |none=>rfl
 |some on=>
   obtain⟨m',hm',e,_⟩:=Le h;obtain⟨i,hi⟩:=List.getElem?_of_mem hm';have:=(hv.mnt i m' hi).dev1;omega
theorem ZA{a:AG}(h:CB s a.1=true)(h0:a≠(0,1)):∃b,CQ s a=some b:=by
 have _:=hv;unfold CQ;by_cases h1:a.2≠1
 ·exact⟨_,if_pos h1⟩
 rw[if_neg h1];have h2:a.1≠0:=fun e=>h0 (Prod.ext e (by simpa using h1));unfold CB at h;rw[decide_eq_false h2,Bool.or_false]at h
 cases ho:Bg s a.1 with
 |none=>rw[ho]at h;cases h
 |some b=>exact⟨b,rfl⟩
theorem J2{a:AG}(h:Ax s.files a=true):BH s (BQ s.files) a=a::(match CQ s a with
    |none=>[]
    |some b=>BH s (BQ s.files) b):=by
 have hd:¬Ax s.files a=false:=by rw[h];simp
 have he:=Fz hv a
 cases hm:BQ s.files with
 |zero=>rw[hm]at he;exact absurd he hd
 |succ m=>
   rw[hm]at he;rw[Fl hd,Jd hv hd]
   cases hs:CQ s a with
   |none=>rfl
   |some b=>
     simp only;have h1:=he.resolve_left hd b hs;have h2:=Fz hv b;rw[hm]at h2;rw[Pq hv m (m+1) b h1 h2]
theorem ZB{a:AG}(h:Ax s.files a=true)(hm:CB s a.1=true):(0,1)∈BH s (BQ s.files) a:=by
 have key:∀(k:Nat) (a:AG),E9 s k a→Ax s.files a=true→CB s a.1=true→(0,1)∈BH s (BQ s.files) a:=by
  intro k
  induction k with
  |zero=>intro a he h _;rw[show Ax s.files a=false from he]at h;cases h
  |succ k ih=>
    intro a he h hm;by_cases h0:a=(0,1)
    ·rw[J2 hv h,h0];exact List.mem_cons_self ..
    obtain⟨b,hb⟩:=ZA hv hm h0;rw[J2 hv h,hb];exact List.mem_cons_of_mem _ (ih b (he.resolve_left (by rw[h];simp) b hb) (Lf hv h hb) (Py hv hm hb))
 exact key _ a (Fz hv a) h hm
theorem KN{a:AG}(h:¬(Ax s.files a=true∧CB s a.1=true)):Bh s a=(⟨#[]⟩,false):=by
 have _:=hv;unfold Bh;rw[if_neg fun c=>h ⟨c.1,c.2.1⟩]
theorem NK{a:AG}(h:Ax s.files a=true)(hm:CB s a.1=true):Bh s a=(G0 s ((BH s (BQ s.files) a).takeWhile fun x=>decide (x≠(0,1))),true):=by
 unfold Bh;rw[if_pos ⟨h,hm,ZB hv h hm⟩]
theorem Lg(h:Ax s.files (0,1)=true):Bh s (0,1)=(⟨#[47]⟩,true):=by
 rw[NK hv h (by unfold CB;simp),J2 hv h,List.takeWhile_cons];simp[G0,Cf]
theorem Tf{a b:AG}(h:Ax s.files a=true)(hm:CB s a.1=true)(h0:a≠(0,1))(hb:CQ s a=some b):Bh s a=(if a.2=1 then(Bh s b).1 else Cp (Bh s b).1 (C1 s a),true)∧(Bh s b).2=true:=by
 rw[NK hv h hm,NK hv (Lf hv h hb) (Py hv hm hb),J2 hv h,hb,List.takeWhile_cons];simp only[h0,ne_eq,not_false_eq_true,decide_true,if_true];refine⟨?_,trivial⟩;unfold G0 Cf;rw[List.filter_cons];by_cases h1:a.2=1
 ·simp[h1]
 simp[h1]
def DM(s:Spc):Nat→AG→AG
 |0,a=>a
 |k+1,a=>if Ax s.files a=true then(if a.2≠1 then(a.1,(Au s.files a).parent)else match Bg s a.1 with
   |some on=>DM s k on
   |none=>a)else(0,0)
omit hv in
theorem ZC(dev:Int):J0 s dev≤s.mounts.length:=by
 unfold J0
 cases h:s.mounts.findIdx? fun m:DE=>decide (m.1=dev)with
 |none=>simp
 |some i=>
   have:=(List.findIdx?_eq_some_iff_getElem.1 h).1;simp only;omega
theorem Tg{i j:Nat}{m m':DE}(hi:s.mounts[i]?=some m)(hj:s.mounts[j]?=some m')(h:m.1=m'.1):i=j:=by
 have key:∀{i j:Nat} {m m':DE},s.mounts[i]?=some m→s.mounts[j]?=some m'→m.1=m'.1→¬i<j:=by
  intro i j m m' hi hj h hlt;have hf:=(hv.mnt j m' hj).fresh
  have hm:m∈s.mounts.take j:=by
   refine B1 (i:=i) ?_;rw[List.getElem?_take,if_pos hlt];exact hi
  have:=NH (s:=⟨s.files,s.mounts.take j⟩) hm;rw[h,hf]at this;cases this
 have h1:=key hi hj h;have h2:=key hj hi h.symm;omega
omit hv in
theorem NL{a:AG}{d:Int}(h:C5 s a=some d):∃i:Nat,s.mounts[i]?=some ((d,a):DE):=by
 unfold C5 at h
 cases hf:s.mounts.find? fun m:DE=>decide (m.2=a)with
 |none=>rw[hf]at h;cases h
 |some m=>
   rw[hf]at h;injection h with h;have h2:=List.find?_some hf;simp only[decide_eq_true_eq]at h2;obtain⟨i,hi⟩:=List.getElem?_of_mem (List.mem_of_find?_eq_some hf);exact⟨i,by rw[hi,←h,←h2]⟩
omit hv in
theorem ZD{a:AG}(h:∀(i:Nat) (m:DE),s.mounts[i]?=some m→m.2≠a):C5 s a=none:=by
 cases hc:C5 s a with
 |none=>rfl
 |some d=>obtain⟨i,hi⟩:=NL hc;exact absurd rfl (h i _ hi)
theorem Th:∀(n:Nat) (a:AG),(∀(i:Nat) (m:DE),s.mounts[i]?=some m→m.2=a→s.mounts.length≤i+n)→C5 s (Cd s n a)=none:=by
 intro n
 induction n with
 |zero=>
   intro a h;refine ZD fun i m hi e=>?_;have h1:=h i m hi e;have h2:=(Al.1 hi).1;omega
 |succ n ih=>
   intro a h
   cases hc:C5 s a with
   |none=>rw[Ou (by rw[hc];rfl)];exact hc
   |some d=>
     obtain⟨i,hi⟩:=NL hc;rw[Cd];refine ih _ fun j m hj e=>?_;have he:Ft s a=(d,1):=by unfold Ft;rw[hc]
     rw[he]at e;have h1:=h i _ hi rfl;have hth:=(hv.mnt j m hj).there;have hd1:=(hv.mnt i _ hi).dev1;rw[e]at hth;obtain⟨m'',hm'',e2⟩:=Tc hth (by simp only at hd1 ⊢;omega);obtain⟨k,hk⟩:=List.getElem?_of_mem hm''
     have hkj:k<j:=by
      have:=(Al.1 hk).1;simp at this;omega
     rw[List.getElem?_take,if_pos hkj]at hk;have:=Tg hv hk hi e2;omega
omit hv in
theorem Ti:∀(n:Nat) (a:AG),Cd s (n+1) a=Ft s (Cd s n a)
 |0,_=>rfl
 |n+1,a=>Ti n (Ft s a)
theorem ZE(a:AG):Cd s (s.mounts.length+1) a=Cd s s.mounts.length a:=by
 rw[Ti];refine Ot ?_;rw[Th hv _ a (fun i m _ _=>by omega)];rfl
theorem Tj{i:Nat}{m:DE}(hi:s.mounts[i]?=some m):Bg s m.1=some m.2:=by
 have h1:CB s m.1=true:=NH (B1 hi);have hd:=(hv.mnt i m hi).dev1;unfold CB at h1;rw[decide_eq_false (by omega),Bool.or_false]at h1
 cases ho:Bg s m.1 with
 |none=>rw[ho]at h1;cases h1
 |some on=>
   obtain⟨m',hm',e1,e2⟩:=Le ho;obtain⟨j,hj⟩:=List.getElem?_of_mem hm';have:=Tg hv hj hi e1;subst this;rw[hi]at hj;injection hj with hj;rw[←e2,hj]
theorem ZF{x:AG}{dev:Int}(hc:C5 s x=some dev):∀(k:Nat) (y:AG),E9 s k y→Ax s.files y=true→y.1=dev→∃t r,BH s (BQ s.files) y=t++(dev,1)::x::r:=by
 intro k
 induction k with
 |zero=>intro y he h _;rw[show Ax s.files y=false from he]at h;cases h
 |succ k ih=>
   intro y he h hy;obtain⟨i,hi⟩:=NL hc;by_cases h1:y.2=1
   ·have hs:CQ s y=some x:=by
       unfold CQ;rw[if_neg (by simpa using h1),hy];exact Tj hv hi
    obtain⟨t,ht⟩:=NF hv (Lf hv h hs);refine⟨[],t,?_⟩;rw[J2 hv h,hs];simp only[List.nil_append];rw[ht,←hy,←h1]
   have hs:CQ s y=some (y.1,(Au s.files y).parent):=if_pos h1;obtain⟨t,r,ht⟩:=ih _ (he.resolve_left (by rw[h];simp) _ hs) (Lf hv h hs) hy;refine⟨y::t,r,?_⟩;rw[J2 hv h,hs];simp only[List.cons_append];rw[ht]
def FL(s:Spc)(L:List AG)(i:Nat):Bool:=match L[i]? with
 |none=>true
 |some x=>match C5 s x with
   |none=>true
   |some dev=>decide (0<i)&&decide (L[i - 1]?=some (dev,1))
theorem Tk{a:AG}{i:Nat}{x:AG}(hi:(BH s (BQ s.files) a)[i]?=some x):FL s (BH s (BQ s.files) a) i=Pt s a x:=by
 unfold FL Pt;simp only[hi]
 cases hc:C5 s x with
 |none=>rfl
 |some dev=>
   simp only;rw[Bool.eq_iff_iff];simp only[Bool.and_eq_true,decide_eq_true_eq];constructor
   ·rintro⟨_,h2⟩;exact⟨_,B1 h2,rfl⟩
   rintro⟨y,hy,hyd⟩;obtain⟨t,r,ht⟩:=ZF hv hc _ y (Fz hv y) (Yh hv hy) hyd;obtain⟨p,hp⟩:=Yg hv hy;have hL:BH s (BQ s.files) a=(p++t)++(dev,1)::x::r:=by rw[←hp,ht,List.append_assoc]
   have hn:=TR hv _ a (Fz hv a)
   have hx:(BH s (BQ s.files) a)[(p++t).length+1]?=some x:=by
    rw[hL,DC (by omega)];simp
   have hx0:(BH s (BQ s.files) a)[(p++t).length]?=some (dev,1):=by
    rw[hL,DC (by omega)];simp
   have e:i=(p++t).length+1:=by
    obtain⟨h1,h2⟩:=Al.1 hi;obtain⟨h3,h4⟩:=Al.1 hx;exact(List.getElem_inj hn).1 (h2.trans h4.symm)
   subst e;exact⟨by omega,hx0⟩
theorem ZG(a:AG):NG s a=((Bh s a).2&&(List.range (BH s (BQ s.files) a).length).all (FL s (BH s (BQ s.files) a))):=by
 unfold NG
 congr 1
 rw[Bool.eq_iff_iff,List.all_eq_true,List.all_eq_true];constructor
 ·intro h i hi;have hl:=List.mem_range.1 hi;rw[Tk hv (BV hl)];exact h _ (List.getElem_mem hl)
 intro h x hx;obtain⟨i,hi⟩:=List.getElem?_of_mem hx;rw[←Tk hv hi];exact h i (List.mem_range.2 (Al.1 hi).1)
end
end Go.Proofs.YtbgnigjfkbmceaaGreatDoor
namespace Go.Proofs.YtbgnigjfkbmceaaGreatDoor
open Go.RowKit
theorem ZH(d m:AM):(Cp d m).size≤d.size+1+m.size:=by
 unfold Cp;split
 ·rw[ByteArray.size_append];omega
 rw[ByteArray.size_append,ByteArray.size_append];show d.size+1+m.size≤_;omega
theorem ZJ{s:Spc}(hv:SpcV s)(pre:List AG):(G0 s pre).size≤1+13 * pre.length:=by
 have key:∀(l:List AM) (d:AM),(∀x∈l,x.size≤12)→(l.foldl Cp d).size≤d.size+13 * l.length:=by
  intro l
  induction l with
  |nil=>intro d _;simp
  |cons x l ih=>
    intro d h;have h1:=ih (Cp d x) fun y hy=>h y (List.mem_cons_of_mem _ hy);have h2:=h x (List.mem_cons_self ..);have h3:=ZH d x;rw[List.foldl_cons,List.length_cons];omega
 have h:=key (Cf s pre).reverse ⟨#[47]⟩ (fun x hx=>by
  rw[List.mem_reverse]at hx;obtain⟨y,_,rfl⟩:=List.mem_map.1 hx
  exact Pv hv.files y)
 have h2:(Cf s pre).length≤pre.length:=by unfold Cf;rw[List.length_map];exact List.length_filter_le _ _
 rw[List.length_reverse]at h;have:(⟨#[47]⟩:AM).size=1:=rfl;unfold G0;omega
theorem Q0{s:Spc}(hv:SpcV s)(a:AG):(Bh s a).1.size≤1000:=by
 unfold Bh;split
 ·have h3:=NJ s (BQ s.files) a;have h4:=Pw hv.files;refine Nat.le_trans (ZJ hv _) ?_;refine Nat.le_trans (Nat.add_le_add_left (Nat.mul_le_mul_left 13 ((List.takeWhile_sublist _).length_le)) 1) ?_;omega
 exact BR _
theorem Tl(d:AM)(h:0<d.size):d.data.toList.getLast?=some 47↔(((d[d.size - 1]'(by omega)).toNat:Int)=47):=by
 have hl:d.data.toList.length=d.size:=by simp
 rw[List.getLast?_eq_getElem?,hl,BV (by omega)];show some (d[d.size - 1]'(by omega))=some 47↔_;rw[Option.some.injEq];constructor
 ·intro e;rw[e];rfl
 intro e;refine UInt8.toNat_inj.1 ?_;show _=47;omega
theorem ZK{d m:AM}(h:¬0<d.size):Cp d m=d++⟨#[47]⟩++m:=by
 refine if_neg fun e=>?_;have hl:d.data.toList.length=d.size:=by simp
 rw[List.getLast?_eq_getElem?,List.getElem?_eq_none (by omega)]at e;cases e
section
theorem Tm(d m:AM)(hd:d.size≤1000000)(hm:m.size≤1000000):AFn prog 196 [.v (.string d), .v (.string m)] (fun r=>r= .v (.string (Cp d m))):=by
 refine enter Tryz.func196 rfl rfl rfl rfl rfl 0 rfl ?_;refine w_ (a_ (h:=e_ (q_ (w_ (m_ (h:=n_ (h:=Ba (h:=m_ (h:=?_)))))))));refine AT true rfl rfl (fun hb1=>?_) (fun hb1=>?_)
 ·have hc1:=bp hb1;refine m_ (h:=m_ (h:=n_ (h:=EN (h:=?_))));refine B2 (Hn (n:=d.size - 1) Tryz.underlying9 rfl rfl (by omega) (by omega) ?_);refine AK (h:=AA (h:=e_ (?_)));refine A9 rfl (fun hb2=>?_) (fun hb2=>?_)
  ·have hc2:=bp hb2;refine w_ (m_ (h:=m_ (h:=?_)));refine A6 rfl (EC rfl rfl (by omega) ?_);refine a_ (h:=e_ (A4 (A8 (?_))));refine A7 ?_;rw[show Cp d m=d++m from if_pos ((Tl d (by omega)).2 hc2)];rfl
  have hc2:=bp hb2;refine AD (w_ (m_ (h:=?_)));refine A6 rfl (EC rfl rfl (by show d.size+1≤_;omega) ?_);refine m_ (h:=?_);refine A6 rfl (EC rfl rfl (by rw[ByteArray.size_append];show d.size+1+m.size≤_;omega) ?_);refine a_ (h:=e_ (A4 (?_)));refine A7 ?_;rw[show Cp d m=d++⟨#[47]⟩++m from if_neg (fun h=>hc2 ((Tl d (by omega)).1 h))];rfl
 have hc1:=bp hb1;refine A3 (h:=A3 (h:=A3 (h:=A3 (h:=A3 (h:=A3 (h:=AE (h:=e_ (Bj (h:=AD (w_ (m_ (h:=?_))))))))))));refine A6 rfl (EC rfl rfl (by show d.size+1≤_;omega) ?_);refine m_ (h:=?_);refine A6 rfl (EC rfl rfl (by rw[ByteArray.size_append];show d.size+1+m.size≤_;omega) ?_);refine a_ (h:=e_ (A4 (?_)));refine A7 ?_;rw[ZK (by omega)];rfl
theorem ZL(s:Spc)(a:AG)(hs:SpcB s):AFn prog 248 [.agg (At s.files), .agg (AF a)] (fun r=>r= .v (.string (C1 s a))):=by
 have hen:=Ku hs.files (a.1,(Au s.files a).parent);change (ES s a).entries.length≤1000 at hen;refine enter Tryz.func248 rfl rfl rfl rfl rfl 0 rfl ?_;refine w_ (b_ (h:=b_ (h:=a_ (h:=e_ (w_ (l_ (h:=l_ (h:=?_))))))));refine A6 rfl (AB (Ec s.files a hs.files) ?_);rintro r rfl
 skip
 refine m_ (h:=x_ (h:=x_ (h:=Aa (h:=s_ (h:=a_ (h:=e_ (w_ (l_ (h:=f_ (h:=l_ (h:=f_ (h:=l_ (h:=AX (h:=?_))))))))))))));refine A6 rfl (AB (Ec s.files (a.1,(Au s.files a).parent) hs.files) ?_);rintro r rfl
 skip
 refine m_ (h:=x_ (h:=x_ (h:=Aa (h:=s_ (h:=a_ (h:=e_ (q_ (w_ (a_ (h:=e_ (Ab (?_))))))))))));refine BT (fun m t=>∃j:Nat,j≤(ES s a).entries.length∧m=(ES s a).entries.length - j∧(∀i y,i<j→(ES s a).entries[i]?=some y→decide (y.2=a.2)=false)∧t=⟨look [(3, .bp 1 0),(7, .bp 3 0),(9, .v (.int .i64 (j:Int)))],⟨[At s.files,AF a,Ap (Au s.files a),Ap (ES s a)],[]⟩⟩) ((ES s a).entries.length) ((wk 4 0)) (⟨0,by omega,rfl,fun i y hi=>by omega,rfl⟩) ?_;rintro m t ⟨j,hj,rfl,ha,rfl⟩;refine q_ (w_ (m_ (h:=f_ (h:=l_ (h:=n_ (h:=B4 (h:=e_ (?_))))))));refine A9 rfl (fun hb1=>?_) (fun hb1=>?_)
 ·have hc1:=bp hb1;obtain⟨hlt,x,hy,hrow, -⟩:=Bt CG hc1;refine AD (q_ (Ab (q_ (Cj 9 (h:=Aw 0 (h:=AO 1 (h:=Ac 2 (h:=Cl 3 (h:=Aw 4 (h:=AO 5 (h:=Aw 6 (h:=AO 7 (h:=Eb 8 (h:=z_ (h:=t_ (?_))))))))))))))));refine A9 rfl (fun hb2=>?_) (fun hb2=>?_)
  ·have hc2:=bp hb2;refine w_ (f_ (h:=l_ (h:=m_ (h:=i_ (h:=f_ (h:=l_ (h:=a_ (h:=e_ (A4 (AN (A8 (A8 (AN (A8 (?_)))))))))))))));refine A7 ?_;rw[show C1 s a=x.1 by simp only[C1];rw[Gp hy (by simpa using hc2) ha];rfl];rfl
  have hc2:=bp hb2;refine Aq (Ai (t_ (AR (m_ (h:=B8 (h:=a_ (h:=AP (?_))))))));refine AJ ?_;refine⟨_,_,?_,⟨j+1,by omega,rfl,FA hy ha (by simpa using hc2),rfl⟩,(wk 4 0)⟩;omega
 have hc1:=bp hb1;have e3:=C9 CG hj hc1;subst e3;refine BF (Ah (Ah (BG (t_ (w_ (a_ (h:=e_ (A4 (?_)))))))));refine A7 ?_;rw[show C1 s a=⟨#[]⟩ by simp only[C1];rw[Gq ha];rfl];rfl
end
def Ci(s:AM):List AV:=[.v (.string s)]
theorem Tn{P:Program}{ev:Operand→Option AV}{h:AH}{R:AV→AH→Prop}{d:Option Tmp}{ty:TypeId}{pos:String}{af:Array Edge}{gd:Option (Nat×Bool)}{T:TypeId}{x lo hi:Operand}{s:ByteArray}{a k:Nat}{i j:Int}(hu:P.underlying T=some .string)
    (hx:ev x=some (.v (.string s))) (hl:ev lo=some (.v (.int .i64 i))) (hh:ev hi=some (.v (.int .i64 j))) (hi':i=(a:Int)) (hj:j=(k:Int)) (h1:a≤k) (h2:k≤s.size) (hR:R (.v (.string (s.extract a k))) h):AStep P ⟨d, .slice T x (some lo) (some hi) none,ty,pos,af,gd⟩ ev h R:=by
 refine Ch (fun _ G w ec _ he=>?_) hR;have k1:=he x (by simp[Op.operands]) _ hx;have k2:=he lo (by simp[Op.operands]) _ hl;have k3:=he hi (by simp[Op.operands]) _ hh;simp only[rep]at k1 k2 k3;subst hi' hj;refine⟨.string (s.extract a k),?_,by simp only[rep]⟩;simp[execOp,k1,k2,k3,Instr.sliceAt,Instr.slice,Instr.sliceBounds,Instr.sliceBound,asIntOf,run_underlying hu,h1,h2]
def Cq(s:AM):Bool:=decide (s.data.toList.head?=some 47)
def BJ(s:AM):Bool:=decide (s.data.toList.getLast?=some 47)
theorem NM{s:AM}(h:0<s.size):Cq s=decide (((s[0]'h).toNat:Int)=47):=by
 unfold Cq;rw[Xe s h,Bool.eq_iff_iff];simp
theorem NN{s:AM}(h:0<s.size):BJ s=decide (((s[s.size - 1]'(by omega)).toNat:Int)=47):=by
 unfold BJ;rw[Xf s h,Bool.eq_iff_iff];simp
theorem NO{s:AM}(h:¬0<s.size):Cq s=false:=by
 have:s.data.toList=[]:=Ct (by rw[←Lib.size_eq];omega);unfold Cq;rw[this];rfl
theorem NP{s:AM}(h:¬0<s.size):BJ s=false:=by
 have:s.data.toList=[]:=Ct (by rw[←Lib.size_eq];omega);unfold BJ;rw[this];rfl
theorem To{s:AM}{k:Nat}(h:k<s.size)(h47:((s[k]'h).toNat:Int)=47):s.data.toList[k]?=some 47:=by
 rw[Lib.data_getElem? s k h]
 congr 1
 refine UInt8.toNat_inj.1 ?_;show _=47;omega
theorem Tp{s:AM}{f k:Nat}{ps:List AM}(hI:Dh s.data.toList f k (C6 ps))(h:k=s.size∨s.data.toList[k]?=some 47):Dh s.data.toList (k+1) (k+1) (C6 ps++one_ ((s.data.toList.drop f).take (k - f))):=by
 rcases h with h|h
 ·rw[Lib.size_eq]at h;subst h;exact Xa hI
 exact XZ hI h
theorem Tq{s:AM}{f k:Nat}{ps:List AM}(hI:Dh s.data.toList f k (C6 ps))(hk:k≤s.size)(h:k=s.size∨s.data.toList[k]?=some 47)(hf:f<k):Dh s.data.toList (k+1) (k+1) (C6 (ps++[s.extract f k])):=Xg (Tp hI h) (Xc (Xd s hf hk))
theorem Tr{s:AM}{f k:Nat}{ps:List AM}(hI:Dh s.data.toList f k (C6 ps))(h:k=s.size∨s.data.toList[k]?=some 47)(hf:¬f<k):Dh s.data.toList (k+1) (k+1) (C6 ps):=Xh (Tp hI h) (by omega)
theorem ZM{s:AM}{f k:Nat}{ps:List AM}(hI:Dh s.data.toList f k (C6 ps))(h:k<s.size)(h47:¬((s[k]'h).toNat:Int)=47):Dh s.data.toList f (k+1) (C6 ps):=XY hI (Lib.data_getElem? s k h) (fun e=>h47 (by rw[e];rfl))
theorem Ts(ps:List AM):ps.length≤(Co (C6 ps)).length:=by
 induction ps with
 |nil=>simp
 |cons p ps ih=>
   have:C6 (p::ps)=p.data.toList::C6 ps:=rfl;rw[this,Fg];simp;omega
theorem Q1{s:AM}{ps:List AM}(h:C6 ps=Br s.data.toList){i:Nat}{x:AM}(hx:ps[i]?=some x):x.size≤s.size:=by
 rw[Lib.size_eq,Lib.size_eq s];refine Xm ?_;rw[←h];exact List.mem_map.2 ⟨x,B1 hx,rfl⟩
theorem ZN{ps:List AM}{j:Nat}{x t:AM}(hx:ps[j]?=some x)(h:t.data.toList=Co ((C6 ps).take j)):(t++(⟨#[47]⟩++x)).data.toList=Co ((C6 ps).take (j+1)):=by
 have e:(C6 ps)[j]?=some x.data.toList:=by unfold C6;rw[List.getElem?_map,hx];rfl
 rw[List.take_add_one,e,PM,←h];simp[Co]
theorem Lh{a b:AM}(h:a.data.toList=b.data.toList):a=b:=ByteArray.ext (Array.toList_inj.1 h)
theorem ZO{s:AM}{ps:List AM}(h:C6 ps=Br s.data.toList){i:Nat}{x:AM}(hx:ps[i]?=some x)(hn:D4 x=false):DJ s.data.toList=false:=by
 rw[←PP];unfold LG;rw[←h];have:(C6 ps).all Dg=false:=List.all_eq_false.2 ⟨x.data.toList,List.mem_map.2 ⟨x,B1 hx,rfl⟩,by rw[←N2,hn];simp⟩;rw[this,Bool.false_and]
theorem ZP{s t1:AM}{ps:List AM}(h:C6 ps=Br s.data.toList)(ha:∀(i:Nat) (y:AM),i<ps.length→ps[i]?=some y→D4 y=true)(ht:t1.data.toList=Co ((C6 ps).take ps.length))(h3:¬s=⟨#[47]⟩)(h0:0<ps.length):DJ s.data.toList=decide (s=t1):=by
 have hl:(C6 ps).length=ps.length:=by simp[C6]
 rw[List.take_of_length_le (by omega)]at ht;rw[←PP];unfold LG;rw[←h,←ht]
 have h1:(C6 ps).all Dg=true:=List.all_eq_true.2 fun y hy=>by
  obtain⟨z,hz,rfl⟩:=List.mem_map.1 hy;obtain⟨i,hi⟩:=List.getElem?_of_mem hz;rw[←N2];exact ha i z (Al.1 hi).1 hi
 have h2:decide (s.data.toList=[47])=false:=decide_eq_false fun e=>h3 (Lh e);have h4:C6 ps≠[]:=fun e=>by rw[e]at hl;simp at hl;omega
 rw[h1,h2,decide_eq_true h4];simp only[Bool.true_and,Bool.false_or];rw[Bool.eq_iff_iff,decide_eq_true_iff,decide_eq_true_iff];exact⟨fun e=>Lh e,fun e=>by rw[e]⟩
theorem ZQ{s:AM}{ps:List AM}(h:C6 ps=Br s.data.toList)(h3:¬s=⟨#[47]⟩)(h0:ps.length=0):DJ s.data.toList=false:=by
 have e:C6 ps=[]:=by rw[Ct h0];rfl
 rw[←PP];unfold LG;rw[←h,e];have h2:decide (s.data.toList=[47])=false:=decide_eq_false fun e=>h3 (Lh e);rw[h2];simp
section
theorem Q2(s:AM)(hs:s.size≤100000):AFn prog 191 [.v (.string s)] (fun r=>∃ps:List AM,C6 ps=Br s.data.toList∧r= .tup [.sl 1 (ps.map Ci) none, .v (.bool (Cq s)), .v (.bool (BJ s))]):=by
 have hsz:=Lib.size_eq s;refine enter Tryz.func191 rfl rfl rfl rfl rfl 0 rfl ?_;refine w_ (a_ (h:=a_ (h:=a_ (h:=e_ (w_ (a_ (h:=e_ (w_ (a_ (h:=e_ (q_ (w_ (a_ (h:=e_ (Ab (?_))))))))))))))));refine Jr 5 9 1 rfl (by repeat constructor) ?_;refine BT (fun m t=>∃(f k:Nat) (ps:List AM),k≤s.size+1∧f≤k∧ps.length≤k∧m=s.size+1 - k∧Dh s.data.toList f k (C6 ps)∧t=⟨look [(0, .v (.string s)),(5, .sl 1 (ps.map Ci) (some 0)),(6, .v (.int .i64 (f:Int))),(7, .v (.int .i64 (k:Int)))],⟨[],[(9,1,ps.map Ci)]⟩⟩) (s.size+1) ((wk 0 1)) (⟨0,0,[],by omega,by omega,by simp,rfl,Xb _,rfl⟩) ?_;rintro m t ⟨f,k,ps,hk,hfk,hpl,rfl,hI,rfl⟩;refine q_ (w_ (m_ (h:=m_ (h:=n_ (h:=Dn (h:=e_ (?_)))))));refine A9 rfl (fun hb1=>?_) (fun hb1=>?_)
 ·have hc1:=bp hb1;refine AD (q_ (Ab (w_ (m_ (h:=m_ (h:=n_ (h:=AK (h:=m_ (h:=?_)))))))));refine AT false rfl rfl (fun hb2=>?_) (fun hb2=>?_)
  ·have hc2:=bp hb2;refine A3 (h:=A3 (h:=A3 (h:=A3 (h:=AA (h:=e_ (B6 (h:=q_ (w_ (m_ (h:=m_ (h:=Ba (h:=e_ (?_)))))))))))));refine A9 rfl (fun hb3=>?_) (fun hb3=>?_)
   ·have hc3:=bp hb3;have hnx:=Tq hI (by omega) (.inl (by omega)) (by omega);refine AR (m_ (h:=m_ (h:=m_ (h:=m_ (h:=?_)))));refine A6 rfl (Tn (a:=f) (k:=k) Tryz.underlying9 rfl rfl rfl rfl rfl (by omega) (by omega) ?_);refine BX (h:=?_)
    first|refine A6 rfl (E2 rfl rfl rfl (by simp;omega) (by repeat constructor) ?_)|refine A6 rfl (E3 rfl rfl (by simp;omega) (by repeat constructor) ?_)
    refine a_ (h:=e_ (AR (m_ (h:=B8 (h:=a_ (h:=AP (Ai (t_ (AR (m_ (h:=B8 (h:=a_ (h:=AP (?_))))))))))))));refine AJ ?_;refine⟨_,_,?_,⟨_,k+1,_,by omega,by omega,(by(try simp only[List.length_append,List.length_cons,List.length_nil]);omega),rfl,hnx,rfl⟩,(by(try simp only[List.map_append,List.map_cons,List.map_nil]);exact Ar 0 1 rfl rfl rfl rfl ((by repeat (first|exact Sub.nil|refine As rfl rfl ?_|refine Ay ?_|refine Az rfl ?_|refine B0 rfl ?_))))⟩;omega
   have hc3:=bp hb3;have hnx:=Tr hI (.inl (by omega)) (by omega);refine AD (AR (m_ (h:=B8 (h:=a_ (h:=AP (Ai (t_ (AR (m_ (h:=B8 (h:=a_ (h:=AP (?_)))))))))))));refine AJ ?_;refine⟨_,_,?_,⟨_,k+1,_,by omega,by omega,(by(try simp only[List.length_append,List.length_cons,List.length_nil]);omega),rfl,hnx,rfl⟩,(by(try simp only[List.map_append,List.map_cons,List.map_nil]);exact Ar 0 1 rfl rfl rfl rfl ((by repeat (first|exact Sub.nil|refine As rfl rfl ?_|refine Ay ?_|refine Az rfl ?_|refine B0 rfl ?_))))⟩;omega
  have hc2:=bp hb2;refine m_ (h:=m_ (h:=?_));refine B2 (Hn (n:=k) Tryz.underlying9 rfl rfl rfl (by omega) ?_);refine AK (h:=AE (h:=e_ (?_)));refine A9 rfl (fun hb4=>?_) (fun hb4=>?_)
  ·have hc4:=bp hb4;refine q_ (w_ (m_ (h:=m_ (h:=Ba (h:=e_ (?_))))));refine A9 rfl (fun hb5=>?_) (fun hb5=>?_)
   ·have hc5:=bp hb5;have hnx:=Tq hI (by omega) (.inr (To (by omega) hc4)) (by omega);refine AR (m_ (h:=m_ (h:=m_ (h:=m_ (h:=?_)))));refine A6 rfl (Tn (a:=f) (k:=k) Tryz.underlying9 rfl rfl rfl rfl rfl (by omega) (by omega) ?_);refine BX (h:=?_)
    first|refine A6 rfl (E2 rfl rfl rfl (by simp;omega) (by repeat constructor) ?_)|refine A6 rfl (E3 rfl rfl (by simp;omega) (by repeat constructor) ?_)
    refine a_ (h:=e_ (AR (m_ (h:=B8 (h:=a_ (h:=AP (Ai (t_ (AR (m_ (h:=B8 (h:=a_ (h:=AP (?_))))))))))))));refine AJ ?_;refine⟨_,_,?_,⟨_,k+1,_,by omega,by omega,(by(try simp only[List.length_append,List.length_cons,List.length_nil]);omega),rfl,hnx,rfl⟩,(by(try simp only[List.map_append,List.map_cons,List.map_nil]);exact Ar 0 1 rfl rfl rfl rfl ((by repeat (first|exact Sub.nil|refine As rfl rfl ?_|refine Ay ?_|refine Az rfl ?_|refine B0 rfl ?_))))⟩;omega
   have hc5:=bp hb5;have hnx:=Tr hI (.inr (To (by omega) hc4)) (by omega);refine AD (AR (m_ (h:=B8 (h:=a_ (h:=AP (Ai (t_ (AR (m_ (h:=B8 (h:=a_ (h:=AP (?_)))))))))))));refine AJ ?_;refine⟨_,_,?_,⟨_,k+1,_,by omega,by omega,(by(try simp only[List.length_append,List.length_cons,List.length_nil]);omega),rfl,hnx,rfl⟩,(by(try simp only[List.map_append,List.map_cons,List.map_nil]);exact Ar 0 1 rfl rfl rfl rfl ((by repeat (first|exact Sub.nil|refine As rfl rfl ?_|refine Ay ?_|refine Az rfl ?_|refine B0 rfl ?_))))⟩;omega
  have hc4:=bp hb4;have hnx:=ZM hI (by omega) hc4;refine Aq (Ai (t_ (AR (m_ (h:=B8 (h:=a_ (h:=AP (?_))))))));refine AJ ?_;refine⟨_,_,?_,⟨_,k+1,_,by omega,by omega,(by(try simp only[List.length_append,List.length_cons,List.length_nil]);omega),rfl,hnx,rfl⟩,(by(try simp only[List.map_append,List.map_cons,List.map_nil]);exact Ar 0 1 rfl rfl rfl rfl ((by repeat (first|exact Sub.nil|refine As rfl rfl ?_|refine Ay ?_|refine Az rfl ?_|refine B0 rfl ?_))))⟩;omega
 have hc1:=bp hb1;refine BF (Ah (Ah (BG (t_ (q_ (Cj 23 (h:=Ac 0 (h:=Ac 1 (h:=Hh 2 (h:=Od 3 (h:=Ac 4 (h:=?_))))))))))));refine EJ (j:=4) rfl (fun hb6=>?_) (fun hb6=>?_)
 ·have hc6:=bp hb6;refine Ac 5 (h:=?_);refine Dw (i:=6) rfl (Hn (n:=0) Tryz.underlying9 rfl rfl rfl (by omega) ⟨rfl,rfl⟩) ?_;refine Eb 7 (h:=E5 8 (h:=Ac 9 (h:=Hh 10 (h:=Od 11 (h:=Ac 12 (h:=?_))))));refine EJ (j:=12) rfl (fun hb7=>?_) (fun hb7=>?_)
  ·have hc7:=bp hb7;refine Ac 13 (h:=Ac 14 (h:=Hh 15 (h:=Oc 16 (h:=?_))));refine Dw (i:=17) rfl (Hn (n:=s.size - 1) Tryz.underlying9 rfl rfl (by omega) (by omega) ⟨rfl,rfl⟩) ?_;refine Eb 18 (h:=E5 19 (h:=BL 20 (h:=BL 21 (h:=BL 22 (h:=z_ (h:=t_ (A4 (?_))))))));refine A7 ?_;refine⟨ps,N1 hI (by omega),?_⟩
   first|(rw[NM (by omega),NN (by omega)];rfl)|(rw[NO (by omega),NP (by omega)];rfl)|(exfalso;omega)
  have hc7:=bp hb7;refine B5 13 (h:=B5 14 (h:=B5 15 (h:=B5 16 (h:=B5 17 (h:=B5 18 (h:=Fs 19 (h:=BL 20 (h:=BL 21 (h:=BL 22 (h:=z_ (h:=t_ (A4 (?_)))))))))))));refine A7 ?_;refine⟨ps,N1 hI (by omega),?_⟩
  first|(rw[NM (by omega),NN (by omega)];rfl)|(rw[NO (by omega),NP (by omega)];rfl)|(exfalso;omega)
 have hc6:=bp hb6;refine B5 5 (h:=B5 6 (h:=B5 7 (h:=Fs 8 (h:=Ac 9 (h:=Hh 10 (h:=Od 11 (h:=Ac 12 (h:=?_))))))));refine EJ (j:=12) rfl (fun hb8=>?_) (fun hb8=>?_)
 ·have hc8:=bp hb8;refine Ac 13 (h:=Ac 14 (h:=Hh 15 (h:=Oc 16 (h:=?_))));refine Dw (i:=17) rfl (Hn (n:=s.size - 1) Tryz.underlying9 rfl rfl (by omega) (by omega) ⟨rfl,rfl⟩) ?_;refine Eb 18 (h:=E5 19 (h:=BL 20 (h:=BL 21 (h:=BL 22 (h:=z_ (h:=t_ (A4 (?_))))))));refine A7 ?_;refine⟨ps,N1 hI (by omega),?_⟩
  first|(rw[NM (by omega),NN (by omega)];rfl)|(rw[NO (by omega),NP (by omega)];rfl)|(exfalso;omega)
 have hc8:=bp hb8;refine B5 13 (h:=B5 14 (h:=B5 15 (h:=B5 16 (h:=B5 17 (h:=B5 18 (h:=Fs 19 (h:=BL 20 (h:=BL 21 (h:=BL 22 (h:=z_ (h:=t_ (A4 (?_)))))))))))));refine A7 ?_;refine⟨ps,N1 hI (by omega),?_⟩
 first|(rw[NM (by omega),NN (by omega)];rfl)|(rw[NO (by omega),NP (by omega)];rfl)|(exfalso;omega)
theorem NQ(s:AM)(hs:s.size≤50000):AFn prog 156 [.v (.string s)] (fun r=>r= .v (.bool (DJ s.data.toList))):=by
 have hsz:=Lib.size_eq s;refine enter Tryz.func156 rfl rfl rfl rfl rfl 0 rfl ?_;refine w_ (a_ (h:=e_ (w_ (m_ (h:=?_)))));refine A6 rfl (AB (Q2 s (by omega)) ?_);rintro r ⟨ps,hps,rfl⟩;have hpl:(ps.map Ci).length=ps.length:=by simp
 have hfl:=PR s.data.toList;rw[←hps]at hfl;have hpm:=Ts ps;refine m_ (h:=x_ (h:=x_ (h:=x_ (h:=a_ (h:=a_ (h:=a_ (h:=e_ (w_ (a_ (h:=e_ (q_ (w_ (a_ (h:=e_ (Ab (?_))))))))))))))));refine BT (fun m t=>∃(j:Nat) (t1:AM),j≤ps.length∧m=ps.length - j∧(∀i y,i<j→ps[i]?=some y→D4 y=true)∧t1.data.toList=Co ((C6 ps).take j)∧t=⟨look [(0, .v (.string s)),(3, .sl 1 (ps.map Ci) none),(6, .v (.string t1)),(7, .v (.int .i64 (j:Int)))],⟨[],[]⟩⟩) (ps.length) ((wk 0 0)) (⟨0,⟨#[]⟩,by omega,rfl,fun i y hi=>by omega,rfl,rfl⟩) ?_;rintro m t ⟨j,t1,hj,rfl,ha,ht1,rfl⟩;refine q_ (w_ (m_ (h:=m_ (h:=n_ (h:=B4 (h:=e_ (?_)))))));refine A9 rfl (fun hb1=>?_) (fun hb1=>?_)
 ·have hc1:=bp hb1;obtain⟨hlt,x,hy,hrow, -⟩:=Bt Ci hc1;have ht2:t1.size≤s.size+1:=by rw[Lib.size_eq,ht1];exact Nat.le_trans (Xl _ _) (by omega)
  refine AD (q_ (Ab (q_ (w_ (m_ (h:=m_ (h:=?_)))))));refine A6 rfl (DX (n:=j) rfl rfl rfl hrow ?_);refine l_ (h:=?_);refine A6 rfl (AB (Oj x (by have:=Q1 hps hy;omega)) ?_);rintro r rfl;refine B7 (h:=e_ (?_));refine A9 rfl (fun hb2=>?_) (fun hb2=>?_)
  ·have hc2:=bp hb2;refine w_ (a_ (h:=e_ (A4 (A8 (AN (A8 (A8 (AN (A8 (?_))))))))));refine A7 ?_;exact vb (ZO hps hy hc2).symm
  have hc2:=bp hb2;refine AD (AR (m_ (h:=m_ (h:=m_ (h:=?_)))));refine A6 rfl (DX (n:=j) rfl rfl rfl hrow ?_);refine l_ (h:=?_);refine A6 rfl (EC rfl rfl (by have:=Q1 hps hy;show 1+x.size≤_;omega) ?_);refine A6 rfl (EC rfl rfl (by have:=Q1 hps hy;rw[ByteArray.size_append];show t1.size+(1+x.size)≤_;omega) ?_);refine a_ (h:=AP (Ai (t_ (AR (m_ (h:=B8 (h:=a_ (h:=AP (?_)))))))));refine AJ ?_;refine⟨_,_,?_,⟨j+1,t1++(⟨#[47]⟩++x),by omega,rfl,FA hy ha hc2,ZN hy ht1,rfl⟩,(wk 0 0)⟩;omega
 have hc1:=bp hb1;refine BF (Ah (Ah (BG (t_ (w_ (m_ (h:=AK (h:=m_ (h:=?_)))))))));refine AT false rfl rfl (fun hb3=>?_) (fun hb3=>?_)
 ·have hc3:=bp hb3;refine A3 (h:=A3 (h:=A3 (h:=A3 (h:=AW (h:=AW (h:=AW (h:=A3 (h:=AA (h:=a_ (h:=e_ (A4 (?_))))))))))));refine A7 ?_;exact vb (by rw[hc3];rfl)
 have hc3:=bp hb3;refine m_ (h:=n_ (h:=Ba (h:=m_ (h:=?_))));refine AT true rfl rfl (fun hb4=>?_) (fun hb4=>?_)
 ·have hc4:=bp hb4;refine m_ (h:=m_ (h:=AK (h:=AA (h:=AE (h:=a_ (h:=e_ (A4 (?_))))))));refine A7 ?_;have e:=C9 Ci hj hc1;subst e;exact vb (ZP hps ha ht1 hc3 (by omega)).symm
 have hc4:=bp hb4;refine A3 (h:=A3 (h:=A3 (h:=AE (h:=AE (h:=a_ (h:=e_ (A4 (?_))))))));refine A7 ?_;have e:=C9 Ci hj hc1;subst e;exact vb (ZQ hps hc3 (by omega)).symm
end
theorem Tt{f:Af}{a:AG}(h:Ax f a=true):(Au f a).ino=a.2:=by
 obtain⟨q,d,m,_,_,_,h4,h5,_⟩:=Hz (f:=f) (a:=a) (by rw[h];simp);rw[h5,h4]
theorem Q3{s:Spc}{d:Int}(h:(Bg s d).isSome=true):Bg s d=some ((Bg s d).getD (0,0)):=by
 cases ho:Bg s d with
 |none=>rw[ho]at h;cases h
 |some o=>rfl
theorem ZR{s:Spc}{d:Int}(h:(Bg s d).isSome=false):Bg s d=none:=by
 cases ho:Bg s d with
 |none=>rfl
 |some o=>rw[ho]at h;cases h
theorem NR{s:Spc}{a:AG}(k:Nat)(h:Ax s.files a=false):DM s (k+1) a=(0,0):=by unfold DM;rw[h];rfl
theorem Tu{s:Spc}{a:AG}(k:Nat)(h:Ax s.files a=true)(h1:¬a.2=1):DM s (k+1) a=(a.1,(Au s.files a).parent):=by unfold DM;rw[if_pos h,if_pos h1]
theorem Tv{s:Spc}{a:AG}(k:Nat)(h:Ax s.files a=true)(h1:a.2=1)(ho:(Bg s a.1).isSome=true):DM s (k+1) a=DM s k ((Bg s a.1).getD (0,0)):=by
 conv=>lhs;unfold DM
 rw[if_pos h,if_neg (by simpa using h1),Q3 ho];rfl
theorem Tw{s:Spc}{a:AG}(k:Nat)(h:Ax s.files a=true)(h1:a.2=1)(ho:(Bg s a.1).isSome=false):DM s (k+1) a=a:=by
 conv=>lhs;unfold DM
 rw[if_pos h,if_neg (by simpa using h1),ZR ho]
section
theorem Tx{s:Spc}(hs:SpcB s)(hv:SpcV s)(a:AG)
    (hrec:Ax s.files a=true→∀b,CQ s a=some b→AFn prog 195 [.agg (Aj s), .agg (AF b)] (fun r=>r= .tup [.v (.string (Bh s b).1), .v (.bool (Bh s b).2)])):
    AFn prog 195 [.agg (Aj s), .agg (AF a)] (fun r=>r= .tup [.v (.string (Bh s a).1), .v (.bool (Bh s a).2)]):=by
 have hnm:=Pv hv.files a;have hwz:=Q0 hv;refine enter Tryz.func195 rfl rfl rfl rfl rfl 0 rfl ?_;refine w_ (b_ (h:=b_ (h:=a_ (h:=a_ (h:=e_ (q_ (w_ (f_ (h:=l_ (h:=l_ (h:=?_)))))))))));refine A6 rfl (AB (Gl s.files a hs.files) ?_);rintro r rfl;refine B7 (h:=m_ (h:=?_));refine AT false rfl rfl (fun hb1=>?_) (fun hb1=>?_)
 ·have hc1:=bp hb1;refine A3 (h:=A3 (h:=A3 (h:=A3 (h:=A3 (h:=AA (h:=e_ (B6 (h:=w_ (a_ (h:=a_ (h:=e_ (A4 (A8 (?_))))))))))))));refine A7 ?_
  first|(rw[KN hv (by simp_all)];rfl)|(rw[hw1];first|rfl|(rw[←hw2];rfl))|(rw[h00,Lg hv (by rw[←h00];exact hc1)];rfl)
 have hc1:=bp hb1;refine l_ (h:=f_ (h:=l_ (h:=?_)));refine B2 (AB (Om s a.1 hs) ?_);rintro r rfl;refine B7 (h:=AE (h:=e_ (?_)));refine A9 rfl (fun hb2=>?_) (fun hb2=>?_)
 ·have hc2:=bp hb2;refine w_ (a_ (h:=a_ (h:=e_ (A4 (A8 (?_))))));refine A7 ?_
  first|(rw[KN hv (by simp_all)];rfl)|(rw[hw1];first|rfl|(rw[←hw2];rfl))|(rw[h00,Lg hv (by rw[←h00];exact hc1)];rfl)
 have hc2:=bp hb2;refine AD (q_ (w_ (f_ (h:=l_ (h:=AK (h:=e_ (?_)))))));refine A9 rfl (fun hb3=>?_) (fun hb3=>?_)
 ·have hc3:=bp hb3;refine q_ (w_ (l_ (h:=f_ (h:=l_ (h:=?_)))));refine A6 rfl (AB (Mm s a.1 hs) ?_);rintro r rfl;refine m_ (h:=x_ (h:=x_ (h:=Aa (h:=s_ (h:=a_ (h:=e_ (w_ (m_ (h:=e_ (?_))))))))));refine A9 rfl (fun hb4=>?_) (fun hb4=>?_)
  ·have hc4:=bp hb4;have hst:CQ s a=some ((Bg s a.1).getD (0,0)):=by unfold CQ;rw[if_neg (by simpa using hc3)];exact Q3 hc4
   obtain⟨hw1,hw2⟩:=Tf hv hc1 hc2 (fun e=>by rw[e,Pz hv]at hc4;cases hc4) hst;rw[if_pos hc3]at hw1;refine w_ (l_ (h:=l_ (h:=?_)));refine A6 rfl (AB (hrec hc1 _ hst) ?_);rintro r rfl
   skip
   refine x_ (h:=x_ (h:=a_ (h:=a_ (h:=e_ (A4 (A8 (A8 (?_))))))));refine A7 ?_
   first|(rw[KN hv (by simp_all)];rfl)|(rw[hw1];first|rfl|(rw[←hw2];rfl))|(rw[h00,Lg hv (by rw[←h00];exact hc1)];rfl)
  have hc4:=bp hb4
  have h00:a=(0,1):=by
   refine Prod.ext ?_ hc3;have:=hc2;unfold CB at this;rw[hc4,Bool.false_or]at this;exact of_decide_eq_true this
  refine AD (w_ (a_ (h:=a_ (h:=e_ (A4 (A8 (?_)))))));refine A7 ?_
  first|(rw[KN hv (by simp_all)];rfl)|(rw[hw1];first|rfl|(rw[←hw2];rfl))|(rw[h00,Lg hv (by rw[←h00];exact hc1)];rfl)
 have hc3:=bp hb3;have hst:CQ s a=some (a.1,(Au s.files a).parent):=if_pos hc3;obtain⟨hw1,hw2⟩:=Tf hv hc1 hc2 (fun e=>hc3 (by rw[e])) hst;rw[if_neg hc3]at hw1;refine AD (w_ (f_ (h:=l_ (h:=l_ (h:=?_)))));refine A6 rfl (AB (Ec s.files a hs.files) ?_);rintro r rfl;refine m_ (h:=x_ (h:=x_ (h:=Aa (h:=s_ (h:=a_ (h:=e_ (w_ (l_ (h:=f_ (h:=l_ (h:=f_ (h:=l_ (h:=AX (h:=?_))))))))))))));refine A6 rfl (AB (hrec hc1 _ hst) ?_);rintro r rfl
 skip
 refine m_ (h:=x_ (h:=x_ (h:=a_ (h:=a_ (h:=e_ (w_ (m_ (h:=f_ (h:=l_ (h:=l_ (h:=?_)))))))))));refine A6 rfl (AB (ZL s a hs) ?_);rintro r rfl;refine A6 rfl (AB (Tm (Bh s (a.1,(Au s.files a).parent)).1 (C1 s a) (by have:=hwz (a.1,(Au s.files a).parent);omega) (by omega)) ?_);rintro r rfl;refine m_ (h:=a_ (h:=a_ (h:=e_ (A4 (?_)))));refine A7 ?_
 first|(rw[KN hv (by simp_all)];rfl)|(rw[hw1];first|rfl|(rw[←hw2];rfl))|(rw[h00,Lg hv (by rw[←h00];exact hc1)];rfl)
theorem ZS{s:Spc}(hs:SpcB s)(hv:SpcV s)(a:AG):AFn prog 195 [.agg (Aj s), .agg (AF a)] (fun r=>r= .tup [.v (.string (Bh s a).1), .v (.bool (Bh s a).2)]):=by
 have key:∀(k:Nat) (a:AG),E9 s k a→AFn prog 195 [.agg (Aj s), .agg (AF a)] (fun r=>r= .tup [.v (.string (Bh s a).1), .v (.bool (Bh s a).2)]):=by
  intro k
  induction k with
  |zero=>intro a h;exact Tx hs hv a fun hd=>by rw[show Ax s.files a=false from h]at hd;cases hd
  |succ k ih=>intro a h;exact Tx hs hv a fun hd b hb=>ih b (h.resolve_left (by rw[hd];simp) b hb)
 exact key _ a (Fz hv a)
theorem ZT{s:Spc}(hs:SpcB s)(a:AG)(p:Nat)(hrec:(Bg s a.1).isSome=true→AFn prog 194 [.agg (Aj s), .agg (AF ((Bg s a.1).getD (0,0)))] (fun r=>r= .agg (AF (DM s p ((Bg s a.1).getD (0,0)))))):
    AFn prog 194 [.agg (Aj s), .agg (AF a)] (fun r=>r= .agg (AF (DM s (p+1) a))):=by
 have hde:=FB s.files a;refine enter Tryz.func194 rfl rfl rfl rfl rfl 0 rfl ?_;refine w_ (b_ (h:=b_ (h:=Aa (h:=e_ (w_ (f_ (h:=l_ (h:=l_ (h:=?_)))))))));refine A6 rfl (AB (Ec s.files a hs.files) ?_);rintro r rfl;refine m_ (h:=x_ (h:=x_ (h:=Aa (h:=s_ (h:=a_ (h:=e_ (q_ (w_ (m_ (h:=B7 (h:=m_ (h:=?_))))))))))));refine AT false rfl rfl (fun hb1=>?_) (fun hb1=>?_)
 ·have hc1:=bp hb1;refine A3 (h:=A3 (h:=A3 (h:=AA (h:=e_ (B6 (h:=w_ (AX (h:=s_ (h:=e_ (A4 (A8 (?_))))))))))));refine A7 ?_;rw[NR p (by rw[hde,hc1];rfl)];rfl
 have hc1:=bp hb1;refine f_ (h:=l_ (h:=Ao (h:=AE (h:=e_ (?_)))));refine A9 rfl (fun hb2=>?_) (fun hb2=>?_)
 ·have hc2:=bp hb2;refine w_ (AX (h:=s_ (h:=e_ (A4 (A8 (?_))))));refine A7 ?_;rw[NR p (by rw[hde,decide_eq_false hc2,Bool.and_false])];rfl
 have hc2:=bp hb2;refine AD (q_ (w_ (f_ (h:=l_ (h:=Ao (h:=e_ (?_)))))));refine A9 rfl (fun hb3=>?_) (fun hb3=>?_)
 ·have hc3:=bp hb3;refine w_ (f_ (h:=l_ (h:=f_ (h:=l_ (h:=AX (h:=s_ (h:=e_ (A4 (A8 (?_))))))))));refine A7 ?_;rw[Tu p (by rw[hde,hc1,decide_eq_true hc2];rfl) hc3];rfl
 have hc3:=bp hb3;refine AD (q_ (w_ (l_ (h:=f_ (h:=l_ (h:=?_))))));refine A6 rfl (AB (Mm s a.1 hs) ?_);rintro r rfl;refine m_ (h:=x_ (h:=x_ (h:=Aa (h:=s_ (h:=a_ (h:=e_ (w_ (m_ (h:=e_ (?_))))))))));refine A9 rfl (fun hb4=>?_) (fun hb4=>?_)
 ·have hc4:=bp hb4;refine w_ (l_ (h:=l_ (h:=?_)));refine A6 rfl (AB (hrec hc4) ?_);rintro r rfl;refine s_ (h:=e_ (A4 (A8 (?_))));refine A7 ?_;rw[Tv p (by rw[hde,hc1,decide_eq_true hc2];rfl) hc3 hc4];rfl
 have hc4:=bp hb4;refine AD (w_ (l_ (h:=s_ (h:=e_ (A4 (?_))))));refine A7 ?_;rw[Tw p (by rw[hde,hc1,decide_eq_true hc2];rfl) hc3 hc4];rfl
theorem ZU{s:Spc}(hs:SpcB s)(hv:SpcV s):∀(p:Nat) (a:AG),J0 s a.1<p→AFn prog 194 [.agg (Aj s), .agg (AF a)] (fun r=>r= .agg (AF (DM s p a))):=by
 intro p
 induction p with
 |zero=>intro a h;omega
 |succ p ih=>intro a hp;exact ZT hs a p fun ho=>ih _ (by have:=TQ hv (Q3 ho);omega)
theorem ZV{s:Spc}(hs:SpcB s)(hv:SpcV s)(a:AG):AFn prog 265 [.agg (Aj s), .agg (AF a)] (fun r=>r= .agg (AF (DM s (s.mounts.length+1) a))):=by
 have hfew:=hs.few;have hml:(s.mounts.map Cu).length=s.mounts.length:=by simp
 refine enter Tryz.func265 rfl rfl rfl rfl rfl 0 rfl ?_;refine w_ (b_ (h:=b_ (h:=Aa (h:=e_ (q_ (w_ (f_ (h:=l_ (h:=n_ (h:=B8 (h:=m_ (h:=e_ (Ab (?_))))))))))))));refine BT (fun m t=>∃(j:Nat) (b:AG),j≤s.mounts.length+1∧m=s.mounts.length+1 - j∧DM s (s.mounts.length+1 - j) b=DM s (s.mounts.length+1) a∧t=⟨look [(2, .bp 0 0),(3, .bp 1 0),(4, .bp 2 0),(11, .v (.int .i64 (((s.mounts.map Cu).length:Int)+1))),(12, .v (.int .i64 (j:Int)))],⟨[Aj s,AF b,[.v (.int .i64 0), .v (.int .i64 0)]],[]⟩⟩) (s.mounts.length+1) ((wk 3 0)) (⟨0,a,by omega,rfl,rfl,rfl⟩) ?_;rintro m t ⟨j,b,hj,rfl,hit,rfl⟩;have hde:=FB s.files b;refine w_ (B4 (h:=e_ (q_ (?_))));refine A9 rfl (fun hb1=>?_) (fun hb1=>?_)
 ·have hc1:=bp hb1;obtain⟨k,hk⟩:∃k,s.mounts.length+1 - j=k+1:=⟨s.mounts.length - j,by omega⟩;rw[hk]at hit;refine AD (q_ (Ab (w_ (f_ (h:=l_ (h:=l_ (h:=?_)))))));refine A6 rfl (AB (GM s.files b hs.files) ?_);rintro r rfl;refine m_ (h:=x_ (h:=x_ (h:=Aa (h:=s_ (h:=a_ (h:=e_ (q_ (w_ (m_ (h:=B7 (h:=m_ (h:=?_))))))))))));refine AT false rfl rfl (fun hb2=>?_) (fun hb2=>?_)
  ·have hc2:=bp hb2;refine A3 (h:=A3 (h:=A3 (h:=AA (h:=e_ (B6 (h:=w_ (AX (h:=s_ (h:=e_ (A4 (A8 (AN (A8 (A8 (AN (A8 (?_)))))))))))))))));refine A7 ?_;rw[←hit,NR k (by rw[hde,hc2];rfl)];rfl
  have hc2:=bp hb2;refine f_ (h:=l_ (h:=Ao (h:=AE (h:=e_ (?_)))));refine A9 rfl (fun hb3=>?_) (fun hb3=>?_)
  ·have hc3:=bp hb3;refine w_ (AX (h:=s_ (h:=e_ (A4 (A8 (AN (A8 (A8 (AN (A8 (?_)))))))))));refine A7 ?_;rw[←hit,NR k (by rw[hde,decide_eq_false hc3,Bool.and_false])];rfl
  have hc3:=bp hb3;refine AD (q_ (w_ (f_ (h:=l_ (h:=Ao (h:=e_ (?_)))))));refine A9 rfl (fun hb4=>?_) (fun hb4=>?_)
  ·have hc4:=bp hb4;have hdd:Ax s.files b=true:=by rw[hde,hc2,decide_eq_true hc3];rfl
   have hb1:¬b.2=1:=by rw[←Tt hdd];exact hc4
   refine w_ (f_ (h:=l_ (h:=f_ (h:=l_ (h:=AX (h:=s_ (h:=e_ (A4 (A8 (AN (A8 (A8 (AN (A8 (?_)))))))))))))));refine A7 ?_;rw[←hit,Tu k hdd hb1];rfl
  have hc4:=bp hb4;have hdd:Ax s.files b=true:=by rw[hde,hc2,decide_eq_true hc3];rfl
  have hb1:b.2=1:=by rw[←Tt hdd];exact hc4
  refine AD (w_ (l_ (h:=f_ (h:=l_ (h:=?_)))));refine A6 rfl (AB (On s b.1 hs) ?_);rintro r rfl;refine m_ (h:=x_ (h:=x_ (h:=Aa (h:=s_ (h:=a_ (h:=e_ (q_ (w_ (m_ (h:=B7 (h:=m_ (h:=?_))))))))))));refine AT false rfl rfl (fun hb5=>?_) (fun hb5=>?_)
  ·have hc5:=bp hb5;refine A3 (h:=A3 (h:=A3 (h:=AA (h:=e_ (B6 (h:=w_ (l_ (h:=s_ (h:=e_ (A4 (A8 (AN (A8 (A8 (AN (A8 (?_)))))))))))))))));refine A7 ?_;rw[←hit,Tw k hdd hb1 hc5];rfl
  have hc5:=bp hb5;refine f_ (h:=l_ (h:=AK (h:=AE (h:=e_ (?_)))));refine A9 rfl (fun hb6=>?_) (fun hb6=>?_)
  ·have hc6:=bp hb6;refine w_ (l_ (h:=s_ (h:=e_ (A4 (A8 (AN (A8 (A8 (AN (A8 (?_)))))))))));refine A7 ?_;exfalso;rw[hc6,Pz hv]at hc5;cases hc5
  have hc6:=bp hb6;refine AD (AR (l_ (h:=s_ (h:=AP (Ai (t_ (AR (B8 (h:=m_ (h:=AP (?_)))))))))));refine AJ ?_;refine⟨_,_,?_,⟨j+1,((Bg s b.1).getD (0,0)),by omega,rfl,(by rw[←hit,Tv k hdd hb1 hc5,show s.mounts.length+1 - (j+1)=k by omega]),rfl⟩,(wk 3 0)⟩;omega
 have hc1:=bp hb1;refine BF (Ah (Ah (BG (t_ (w_ (l_ (h:=s_ (h:=e_ (A4 (?_))))))))));refine A7 ?_;have ej:s.mounts.length+1 - j=0:=by omega
 rw[ej]at hit;rw[←hit];rfl
end
end Go.Proofs.YtbgnigjfkbmceaaGreatDoor
namespace Go.Proofs.YtbgnigjfkbmceaaGreatDoor
section
variable {s:Spc}(hv:SpcV s)
include hv
omit hv in
theorem Q4{a:AG}(h:(Bh s a).2=true):Ax s.files a=true∧CB s a.1=true:=by
 unfold Bh at h;split at h
 ·rename_i c;exact⟨c.1,c.2.1⟩
 cases h
theorem Ty{d:Int}(h0:0≤d)(h1:d<(s.files.length:Int)):Ax s.files (d,1)=true:=by
 obtain⟨q,rfl⟩:=Int.eq_ofNat_of_zero_le h0;have hq:s.files[q]?=some s.files[q]:=BV (by omega);obtain⟨r,rest,hr,h2,h3,_⟩:=(hv.files.vd _ (B1 hq)).root;exact(Jc (Px hv hq (by rw[hr];exact List.mem_cons_self ..) h2)).2 h3
end
end Go.Proofs.YtbgnigjfkbmceaaGreatDoor
namespace Go.Proofs.YtbgnigjfkbmceaaGreatDoor
structure Fnd where
 dir:AG
 name:AM
 file:AG
 ex:Bool
 slash:Bool
 path:AM
def DN:Fnd:=⟨(0,0),⟨#[]⟩,(0,0),false,false,⟨#[]⟩⟩
def Dc(x:Fnd):List AV:=[.v (.int .i64 x.dir.1), .v (.int .i64 x.dir.2), .v (.string x.name), .v (.int .i64 x.file.1), .v (.int .i64 x.file.2), .v (.bool x.ex), .v (.bool x.slash), .v (.string x.path)]
def CZ(s:AM):List AM:=(Br s.data.toList).map fun l=>⟨l.toArray⟩
theorem Tz(s:AM):C6 (CZ s)=Br s.data.toList:=by
 unfold C6 CZ;rw[List.map_map];have:((fun x:AM=>x.data.toList) ∘ fun l:Bs=>(⟨l.toArray⟩:AM))=id:=by funext l;simp
 rw[this,List.map_id]
theorem U0:∀{a b:List AM},C6 a=C6 b→a=b
 |[],[],_=>rfl
 |[],_::_,h=>by simp[C6]at h
 |_::_,[],h=>by simp[C6]at h
 |x::a,y::b,h=>by
   simp only[C6,List.map_cons,List.cons.injEq]at h;rw[Lh h.1,U0 (a:=a) (b:=b) h.2]
theorem Q5{s:AM}{ps:List AM}(h:C6 ps=Br s.data.toList):ps=CZ s:=U0 (h.trans (Tz s).symm)
theorem KO(s:AM):(CZ s).length≤s.size+1:=by
 have h1:=Ts (CZ s);have h2:=PR s.data.toList;rw[←Tz]at h2;rw[Lib.size_eq];omega
def Dd(s:Spc):AG:=Cd s s.mounts.length (0,1)
structure Lk where
 ps:List AM
 dir:AG
 name:AM
 file:AG
 ex:Bool
 links:Nat
abbrev NT:AM:=⟨#[46]⟩
abbrev Li:AM:=⟨#[46,46]⟩
def Cg(s:Spc)(fl:Bool)(p:AM)(ps:List AM)(a:AG)(lk:Nat):Int ⊕ Lk:=
 if Ax s.files a=false then .inl 20
 else if 12<p.size then .inl 36
 else if p=NT then .inr ⟨ps,a,⟨#[]⟩,a,true,lk⟩
 else if p=Li then .inr ⟨ps,Cd s s.mounts.length (DM s (s.mounts.length+1) a),⟨#[]⟩,Cd s s.mounts.length (DM s (s.mounts.length+1) a),true,lk⟩
 else if(AU s.files a p).2≠0 then(if ps≠[]∨D4 p=false then .inl 2 else .inr ⟨[],a,p,(0,0),false,lk⟩)
 else if(Au s.files (AU s.files a p).1).kind=3∧(ps≠[]∨fl=true)then
  (if lk=8 then .inl 40 else
    .inr ⟨CZ (Au s.files (AU s.files a p).1).target++ps,if Cq (Au s.files (AU s.files a p).1).target=true then Dd s else a,⟨#[]⟩,if Cq (Au s.files (AU s.files a p).1).target=true then Dd s else a,true,lk+1⟩)
 else .inr ⟨ps,a,p,Cd s s.mounts.length (AU s.files a p).1,true,lk⟩
def NU:Lk:=⟨[],(0,0),⟨#[]⟩,(0,0),false,0⟩
def Gz(s:Spc)(fl:Bool):Nat→Lk→Int×Lk
 |0,σ=>(0,σ)
 |k+1,σ=>match σ.ps with
   |[]=>(0,σ)
   |p::ps=>match Cg s fl p ps σ.file σ.links with
     | .inl e=>(e,NU)
     | .inr τ=>Gz s fl k τ
def EA(σ:Lk):Nat:=(8 - σ.links) * 200+σ.ps.length
section
variable {s:Spc}(hv:FlsV s.files)
include hv
theorem Q6{fl:Bool}{p:AM}{ps:List AM}{a:AG}{lk:Nat}{τ:Lk}(h8:lk≤8)(h:Cg s fl p ps a lk= .inr τ):τ.links≤8∧EA τ<(8 - lk) * 200+(ps.length+1):=by
 unfold Cg at h;split at h
 ·cases h
 split at h
 ·cases h
 split at h
 ·injection h with h;subst h;exact⟨h8,by unfold EA;simp only;omega⟩
 split at h
 ·injection h with h;subst h;exact⟨h8,by unfold EA;simp only;omega⟩
 split at h
 ·split at h
  ·cases h
  injection h with h;subst h;exact⟨h8,by unfold EA;simp only[List.length_nil];omega⟩
 split at h
 ·split at h
  ·cases h
  rename_i h9;injection h with h;subst h;have ht:=LZ hv (AU s.files a p).1;have hl:=KO (Au s.files (AU s.files a p).1).target;refine⟨by simp only;omega,?_⟩;unfold EA;simp only[List.length_append]
  have:(8 - lk) * 200=(8 - (lk+1)) * 200+200:=by
   rw[show 8 - lk=(8 - (lk+1))+1 by omega,Nat.add_mul]
  omega
 injection h with h;subst h;exact⟨h8,by unfold EA;simp only;omega⟩
theorem ZW(fl:Bool):∀(k k':Nat) (σ:Lk),σ.links≤8→EA σ≤k→EA σ≤k'→Gz s fl k σ=Gz s fl k' σ:=by
 intro k
 induction k with
 |zero=>
   intro k' σ h8 h h'
   have he:σ.ps=[]:=by
    unfold EA at h;exact Ct (by omega)
   cases k' with
   |zero=>rfl
   |succ k'=>unfold Gz;rw[he]
 |succ k ih=>
   intro k' σ h8 h h'
   cases hps:σ.ps with
   |nil=>cases k'<;>(unfold Gz;rw[hps])
   |cons p ps=>
     have hm:EA σ=(8 - σ.links) * 200+(ps.length+1):=by unfold EA;rw[hps];rfl
     cases k' with
     |zero=>rw[hm]at h';omega
     |succ k'=>
       unfold Gz;rw[hps];simp only
       cases hs:Cg s fl p ps σ.file σ.links with
       |inl e=>rfl
       |inr τ=>
         simp only;obtain⟨h1,h2⟩:=Q6 hv h8 hs;exact ih k' τ h1 (by omega) (by omega)
end
def DV(s:Spc)(fl:Bool)(σ:Lk):Int×Lk:=Gz s fl (EA σ) σ
theorem Q7{s:Spc}{fl:Bool}{σ:Lk}(h:σ.ps=[]):DV s fl σ=(0,σ):=by
 unfold DV
 cases EA σ with
 |zero=>rfl
 |succ k=>unfold Gz;rw[h]
theorem U1{s:Spc}(hv:FlsV s.files){fl:Bool}{σ:Lk}{p:AM}{ps:List AM}(h8:σ.links≤8)(h:σ.ps=p::ps):DV s fl σ=match Cg s fl p ps σ.file σ.links with
    | .inl e=>(e,NU)
    | .inr τ=>DV s fl τ:=by
 have hm:EA σ=((8 - σ.links) * 200+ps.length)+1:=by unfold EA;rw[h];rfl
 unfold DV;rw[hm]
 conv=>lhs;unfold Gz
 rw[h];simp only
 cases hs:Cg s fl p ps σ.file σ.links with
 |inl e=>rfl
 |inr τ=>
   simp only;obtain⟨h1,h2⟩:=Q6 hv h8 hs;exact ZW hv fl _ _ τ h1 (by omega) (B3 _)
def G4(s:Spc)(sl:Bool)(τ:Lk):Fnd:=⟨τ.dir,τ.name,τ.file,τ.ex,sl,if(Bh s τ.dir).2=true then(if τ.name=⟨#[]⟩then(Bh s τ.dir).1 else Cp (Bh s τ.dir).1 τ.name)else⟨#[]⟩⟩
def FM(ps:List AM)(a:AG):Lk:=⟨ps,a,⟨#[]⟩,a,true,0⟩
def Cr(s:Spc)(start:AG)(p:AM)(fl:Bool):Fnd×Int:=
 if p=⟨#[]⟩then(DN,2)else if 128<p.size then(DN,36)
 else if Ax s.files (if Cq p=true then Dd s else start)=false then(DN,2)
 else if(DV s (fl||BJ p) (FM (CZ p) (if Cq p=true then Dd s else start))).1≠0 then(DN,(DV s (fl||BJ p) (FM (CZ p) (if Cq p=true then Dd s else start))).1)
 else if BJ p=true∧(DV s (fl||BJ p) (FM (CZ p) (if Cq p=true then Dd s else start))).2.ex=true∧Ax s.files (DV s (fl||BJ p) (FM (CZ p) (if Cq p=true then Dd s else start))).2.file=false then(DN,20)
 else(G4 s (BJ p) (DV s (fl||BJ p) (FM (CZ p) (if Cq p=true then Dd s else start))).2,0)
end Go.Proofs.YtbgnigjfkbmceaaGreatDoor
namespace Go.Proofs.YtbgnigjfkbmceaaGreatDoor
open Go.RowKit
structure Dsc where
 fd:Int
 file:AG
 flags:Int
structure Prc where
 pid:Int
 ppid:Int
 uid:Int
 euid:Int
 gid:Int
 egid:Int
 auid:Int
 ses:Int
 cwd:AG
 comm:AM
 exe:AM
 opens:List Dsc
 audited:Bool
structure Tab where
 next:Int
 nextS:Int
 ps:List Prc
structure Syst where
 spc:Spc
 tab:Tab
structure Cal where
 num:Int
 a0:Int
 a1:Int
 a2:Int
 a3:Int
 paths:List AM
 args:List AM
def ZX:Tab:=⟨0,0,[]⟩
def Q8(cwd:AG):Tab:=⟨2,1,[⟨1,0,0,0,0,0,4294967295,4294967295,cwd,⟨#[105,110,105,116]⟩,⟨#[47,105,110,105,116]⟩,[],true⟩]⟩
def FN:List (AM×Int×Int×Int×Int):=[(⟨#[102,111,114,107]⟩,0,0,0,0),
 (⟨#[101,120,101,99,118,101]⟩,0,1,0,4),
 (⟨#[101,120,105,116]⟩,1,0,0,0),
 (⟨#[115,101,116,117,105,100]⟩,1,0,0,0),
 (⟨#[115,101,116,103,105,100]⟩,1,0,0,0),
 (⟨#[108,111,103,105,110]⟩,1,0,0,0),
 (⟨#[111,112,101,110]⟩,2,1,0,0),
 (⟨#[99,108,111,115,101]⟩,1,0,0,0),
 (⟨#[108,105,110,107]⟩,0,2,0,0),
 (⟨#[115,121,109,108,105,110,107]⟩,0,1,1,1),
 (⟨#[117,110,108,105,110,107]⟩,0,1,0,0),
 (⟨#[109,107,100,105,114]⟩,1,1,0,0),
 (⟨#[114,109,100,105,114]⟩,0,1,0,0),
 (⟨#[114,101,110,97,109,101]⟩,0,2,0,0),
 (⟨#[99,104,109,111,100]⟩,1,1,0,0),
 (⟨#[99,104,111,119,110]⟩,2,1,0,0),
 (⟨#[99,104,100,105,114]⟩,0,1,0,0),
 (⟨#[109,111,117,110,116]⟩,1,1,0,0),
 (⟨#[117,109,111,117,110,116]⟩,1,0,0,0),
 (⟨#[99,111,110,110,101,99,116]⟩,1,0,1,1),
 (⟨#[107,105,108,108]⟩,2,0,0,0),
 (⟨#[116,114,117,110,99,97,116,101]⟩,1,1,0,0)]
def Di(n:Int):AM×Int×Int×Int×Int:=if n<0∨22≤n then(⟨#[]⟩,0,0,0,0)else(FN[n.toNat]?).getD (⟨#[]⟩,0,0,0,0)
def G5(n:Int):Syst×Int:=if(E6 n).2≠0 then(⟨⟨[],[]⟩,ZX⟩,(E6 n).2)else(⟨⟨(E6 n).1,[]⟩,Q8 (0,1)⟩,0)
def ZY(d:Dsc):List AV:=[.v (.int .i64 d.fd), .v (.int .i64 d.file.1), .v (.int .i64 d.file.2), .v (.int .i64 d.flags)]
def Q9(p:Prc):List AV:=[.v (.int .i64 p.pid), .v (.int .i64 p.ppid), .v (.int .i64 p.uid), .v (.int .i64 p.euid), .v (.int .i64 p.gid), .v (.int .i64 p.egid), .v (.int .i64 p.auid), .v (.int .i64 p.ses), .v (.int .i64 p.cwd.1), .v (.int .i64 p.cwd.2), .v (.string p.comm), .v (.string p.exe), .sl 4 (p.opens.map ZY) none, .v (.bool p.audited)]
def QA(t:Tab):List AV:=[.v (.int .i64 t.next), .v (.int .i64 t.nextS), .sl 14 (t.ps.map Q9) none]
def U2(s:Syst):List AV:=[.sl 2 (s.spc.files.map Bo) none, .sl 3 (s.spc.mounts.map Cu) none, .v (.int .i64 s.tab.next), .v (.int .i64 s.tab.nextS), .sl 14 (s.tab.ps.map Q9) none]
def Eg(s:AM):List AV:=[.v (.string s)]
def U3(c:Cal):List AV:=[.v (.int .i64 c.num), .v (.int .i64 c.a0), .v (.int .i64 c.a1), .v (.int .i64 c.a2), .v (.int .i64 c.a3), .sl 1 (c.paths.map Eg) none, .sl 1 (c.args.map Eg) none]
def Je(y:Itm):List AV:=[.v (.string y.given), .v (.string y.path), .v (.int .i64 y.dir.1), .v (.int .i64 y.dir.2), .v (.string y.name), .v (.int .i64 y.file.1), .v (.int .i64 y.file.2), .v (.int .i64 y.role), .v (.int .i64 y.kind), .v (.int .i64 y.mode), .v (.int .i64 y.uid), .v (.int .i64 y.gid), .v (.int .i64 y.perm)]
structure TabB(t:Tab):Prop where
 few:t.ps.length≤16
 opens:∀p∈t.ps,p.opens.length≤8
 next:t.next≤1073741824
 nextS:t.nextS≤1073741824
structure RowF(sz:Nat){α:Type}(F:α→List AV):Prop where
 len:∀x,(F x).length=sz
 flat:∀x,∀y∈F x,(∃v,y= .v v)∨∃s r,y= .sl s r none
 pos:0<sz
def LB(sz:Nat){α:Type}(F:α→List AV)(l:List α)(cap:Nat):List AV:=CC sz cap (l.map F)
section
variable {α:Type}{sz:Nat}{F:α→List AV}(hF:RowF sz F)
include hF
theorem ZZ(l:List α):∀r∈l.map F,r.length=sz:=by
 intro r hr;obtain⟨x,_,rfl⟩:=List.mem_map.1 hr;exact hF.len x
theorem Za{g:AV→AV}(hv:∀x,g (.v x)= .v x)(hs:∀sz rows,g (.sl sz rows none)= .sl sz rows none)(x:α):(F x).map g=F x:=by
 conv=>rhs;rw[←List.map_id (F x)]
 apply List.map_congr_left;intro y hy;rcases hF.flat x y hy with⟨v,rfl⟩|⟨s,r,rfl⟩
 ·exact hv v
 exact hs s r
theorem Zb{g:AV→AV}(hany:g .any= .any)(hv:∀x,g (.v x)= .v x)(hs:∀sz rows,g (.sl sz rows none)= .sl sz rows none)(l:List α)(cap:Nat):(LB sz F l cap).map g=LB sz F l cap:=by
 unfold LB;rw[LC g hany,List.map_map]
 congr 1
 apply List.map_congr_left;intro x _;exact Za hF hv hs x
theorem Zc(g:Nat→Option (List AV))(l:List α)(cap:Nat):FZ g (LB sz F l cap)=LB sz F l cap:=by
 rw[LA];exact Zb hF rfl (fun _=>rfl) (fun _ _=>rfl) l cap
theorem Zd{n m:Nat}(x:α):BB n m (F x)=true:=by
 refine PB.2 fun y hy=>?_;rcases hF.flat x y hy with⟨v,rfl⟩|⟨s,r,rfl⟩<;>rfl
theorem QB{n m:Nat}{l:List α}{cap:Nat}:BB n m (LB sz F l cap)=true:=by
 refine PC fun r hr=>?_;obtain⟨x,_,rfl⟩:=List.mem_map.1 hr;exact Zd hF x
theorem Ze{n:Nat}{bx:List (List AV)}{k j:Nat}{l:List α}{cap:Nat}(hn:n≤j)(hj:bx[j]?=some (LB sz F l cap)):D3 n bx (k+1) j=some (LB sz F l cap):=by
 have:Nat.blt j n=false:=by rw[←Bool.not_eq_true,Nat.blt_eq];omega
 simp only[D3,this,hj,Option.map_some,Zc hF]
theorem Zf{n:Nat}{bx:List (List AV)}{k j:Nat}{l:List α}{cap cap0:Nat}(hn:Nat.ble n j=true)(hj:bx[j]?=some (LB sz F l cap))(hc:l.length≤cap):ED n (D3 n bx (k+1)) (.bs j 0 sz l.length cap0)= .sl sz (l.map F) none:=
 TH (B9 hn) (Ze hF (B9 hn) hj) (ZZ hF l) (by simp) (by simpa using hc)
end
theorem D1{f:Nat→Option AV}{bx:List (List AV)}{tk:List (Nat×Nat×List (List AV))}{l:List (Nat×AV)}{N:Dim}(n m:Nat){bx':List (List AV)}{tk':List (Nat×Nat×List (List AV))}(hbp:BK n m bx'=true)(hn:Nat.ble N.ni n=true:=by rfl)(hb:bx.take n=bx':=by rfl)(ht:tk.take m=tk':=by rfl)(hl:Sub n m f l:=by repeat (first|exact Sub.nil|refine Sub.cons _ _ _ rfl rfl ?_|refine Sub.any _ _ ?_|refine Sub.sl _ _ _ _ _ rfl ?_|refine Sub.slnil _ _ _ rfl ?_|(apply Sub.of;(focus exact rfl);(focus exact LeA.of_eq (vb (by simp[*])));(focus exact rfl)))):Weak N ⟨f,⟨bx,tk⟩⟩ ⟨look l,⟨bx',tk'⟩⟩:=Ar n m hn hb ht hbp hl
def NV(r:AM×Int×Int×Int×Int):List AV:=[.v (.string r.1), .v (.int .i64 r.2.1), .v (.int .i64 r.2.2.1), .v (.int .i64 r.2.2.2.1), .v (.int .i64 r.2.2.2.2)]
section
theorem U4:AFn prog 190 [] (fun r=>r= .sl 5 (FN.map NV) none):=by
 refine enter Tryz.func190 rfl rfl rfl rfl rfl 0 rfl ?_;refine w_ (a_ (h:=e_ (w_ (AX (h:=AX (h:=AX (h:=AX (h:=AX (h:=AX (h:=AX (h:=AX (h:=AX (h:=AX (h:=AX (h:=AX (h:=AX (h:=AX (h:=AX (h:=AX (h:=AX (h:=AX (h:=AX (h:=AX (h:=?_))))))))))))))))))))))));refine AX (h:=AX (h:=BX (h:=a_ (h:=e_ (A4 (?_))))));refine A7 ?_;rfl
theorem Zg:AFn prog 189 [] (fun r=>r= .v (.int .i64 22)):=by
 refine enter Tryz.func189 rfl rfl rfl rfl rfl 0 rfl ?_;refine w_ (a_ (h:=e_ (w_ (?_))));refine A6 rfl (AB (U4) ?_);rintro r rfl;refine n_ (h:=a_ (h:=e_ (A4 (?_))));refine A7 ?_;rfl
theorem Zh(n:Int):AFn prog 139 [.v (.int .i64 n)] (fun r=>r= .agg (NV (Di n))):=by
 refine enter Tryz.func139 rfl rfl rfl rfl rfl 0 rfl ?_;refine w_ (Aa (h:=e_ (q_ (w_ (m_ (h:=B4 (h:=m_ (h:=?_))))))));refine AT false rfl rfl (fun hb1=>?_) (fun hb1=>?_)
 ·have hc1:=bp hb1;refine A3 (h:=A3 (h:=A3 (h:=AA (h:=e_ (B6 (h:=w_ (AX (h:=s_ (h:=e_ (A4 (A8 (?_))))))))))));refine A7 ?_;rw[Di,if_pos (by omega)];rfl
 have hc1:=bp hb1;refine m_ (h:=?_);refine B2 (AB (Zg) ?_);rintro r rfl;refine Cm (h:=AE (h:=e_ (?_)));refine A9 rfl (fun hb2=>?_) (fun hb2=>?_)
 ·have hc2:=bp hb2;refine w_ (AX (h:=s_ (h:=e_ (A4 (A8 (?_))))));refine A7 ?_;rw[Di,if_pos (by omega)];rfl
 have hc2:=bp hb2;refine AD (w_ (?_));refine A6 rfl (AB (U4) ?_);rintro r rfl;obtain⟨m,rfl⟩:=Int.eq_ofNat_of_zero_le (show 0≤n by omega);obtain⟨row,hrow⟩:∃row,FN[m]?=some row:=⟨FN[m]'(by show m<22;omega),BV (by show m<22;omega)⟩;have hrow2:(FN.map NV)[m]?=some (NV row):=by rw[List.getElem?_map,hrow];rfl
 refine m_ (h:=?_);refine A6 rfl (DX (n:=m) rfl rfl rfl hrow2 ?_);refine l_ (h:=s_ (h:=e_ (A4 (?_))));refine A7 ?_;rw[Di,if_neg (by omega),Int.toNat_natCast,hrow];rfl
end
theorem Fm(s:ByteArray):s.toList=s.data.toList:=Lib.toList_data s
theorem U5{a b:ByteArray}(h:a.data.toList=b.data.toList):a=b:=by
 cases a;cases b;simp at h;simp[h]
theorem Zi{a b:ByteArray}:a.data.toList=b.data.toList↔a=b:=⟨U5,fun h=>by rw[h]⟩
theorem Zj(a b:ByteArray):(a.toList==b.toList)=decide (a=b):=by
 rw[Fm,Fm,Bool.eq_iff_iff,beq_iff_eq,decide_eq_true_iff];exact Zi
theorem U6(s:ByteArray):s.toList.isEmpty=decide (s.size=0):=by
 rw[Fm,Lib.size_eq,Bool.eq_iff_iff,List.isEmpty_iff,decide_eq_true_iff,List.length_eq_zero_iff]
set_option maxRecDepth 100000 in
set_option maxHeartbeats 400000 in
theorem QC(s:ByteArray)(w:World):
    Calls prog 289 #[.string s, .string ⟨#[47]⟩] w fun e w'=>e= .returned (.int .i64 (Lib.indexByte s.data.toList 47))∧w=w':=by
 by_cases h:s=⟨#[47]⟩
 ·subst h
  go_enter Tryz.func289,Tryz.ntmps289
  go_wp2
  go_ret
  exact⟨rfl,rfl⟩
 have h1:([47]==s.toList)=false:=by
  have:=Zj ⟨#[47]⟩ s;rw[decide_eq_false (fun e=>h e.symm),Fm ⟨#[47]⟩]at this;exact this
 go_enter Tryz.func289,Tryz.ntmps289
 go_wp2_with (go_at_call 292;refine(Tryz.stringslite_IndexByte _ _ _).mono ?_;rintro e w' ⟨rfl,rfl⟩)
 go_ret
 exact⟨rfl,rfl⟩
theorem Zk(s:ByteArray)(w:World):
    Calls prog 276 #[.string s, .string ⟨#[47]⟩] w fun e w'=>e= .returned (.int .i64 (Lib.indexByte s.data.toList 47))∧w=w':=by
 go_enter Tryz.func276,Tryz.ntmps276
 go_wp2_with (go_at_call 289;refine(QC _ _).mono ?_;rintro e w' ⟨rfl,rfl⟩)
 go_ret
 exact⟨rfl,rfl⟩
theorem QD{l:Bs}(h:(47:UInt8)∈l):∃i:Nat,Lib.indexByte l 47=i∧i<l.length∧l=l.take i++47::l.drop (i+1)∧(47:UInt8)∉l.take i:=by
 have hge:=Lib.indexByte_ge l 47;by_cases hm:Lib.indexByte l 47= -1
 ·have:=Lib.indexByte_none hm;obtain⟨k,hk⟩:=List.mem_iff_getElem?.1 h;exact absurd hk (this k)
 obtain⟨i,hi⟩:=Int.eq_ofNat_of_zero_le (show 0≤Lib.indexByte l 47 by omega);obtain⟨h1,h2⟩:=Lib.indexByte_some hi;have hlt:i<l.length:=(Al.1 h1).1;refine⟨i,hi,hlt,?_,?_⟩
 ·have h3:l[i]=47:=(Al.1 h1).2;rw[←h3,List.getElem_cons_drop,List.take_append_drop]
 intro hmem;obtain⟨k,hk⟩:=List.mem_iff_getElem?.1 hmem;rw[List.getElem?_take]at hk;split at hk
 ·exact h2 k (by assumption) hk
 cases hk
theorem U7{l:Bs}(h:(47:UInt8)∉l):Lib.indexByte l 47= -1:=by
 have hge:=Lib.indexByte_ge l 47;by_cases hm:Lib.indexByte l 47= -1
 ·exact hm
 obtain⟨i,hi⟩:=Int.eq_ofNat_of_zero_le (show 0≤Lib.indexByte l 47 by omega);obtain⟨h1,_⟩:=Lib.indexByte_some hi;exact absurd (B1 h1) h
theorem Zl(r:Int)(h0:128≤r)(h1:Lib.validRune r=true):
    (∃a b:UInt8,Utf8.encode r=⟨#[a,b]⟩∧128≤b.toNat)∨(∃a b c:UInt8,Utf8.encode r=⟨#[a,b,c]⟩)∨(∃a b c d:UInt8,Utf8.encode r=⟨#[a,b,c,d]⟩):=by
 have hv:Utf8.valid r=true:=by
  have:=of_decide_eq_true h1;unfold Utf8.valid;simp only[Bool.or_eq_true,Bool.and_eq_true,decide_eq_true_iff];omega
 unfold Utf8.encode;simp only[hv,if_true];have hn:¬r.toNat<128:=by omega
 rw[if_neg hn];by_cases h2:r.toNat<2048
 ·rw[if_pos h2];refine .inl ⟨_,_,rfl,?_⟩;simp only[UInt8.toNat_ofNat'];omega
 rw[if_neg h2];by_cases h3:r.toNat<65536
 ·rw[if_pos h3];exact .inr (.inl ⟨_,_,_,rfl⟩)
 rw[if_neg h3];exact .inr (.inr ⟨_,_,_,_,rfl⟩)
set_option maxRecDepth 1000000 in
set_option maxHeartbeats 2000000 in
theorem Zm(r:Int)(w:World)(h0:128≤r)(h1:r≤2147483647)(h2:r≠65533)(hv:Lib.validRune r=false):
    Calls prog 269 #[.string ⟨#[0,47]⟩, .int .i32 r] w fun e w'=>e= .returned (.int .i64 (-1))∧w=w':=by
 have h2':(r==65533)=false:=by simpa using h2
 go_enter Tryz.func269,Tryz.ntmps269
 go_wp2_with (go_at_call 285;refine(Tryz.utf8_ValidRune _ _).mono ?_;rintro e w' ⟨rfl,rfl⟩;rw[hv])
 go_ret
 exact⟨rfl,rfl⟩
set_option maxRecDepth 1000000 in
set_option maxHeartbeats 2000000 in
theorem Zn(r:Int)(w:World)(h0:128≤r)(h1:r≤2147483647)(h2:r≠65533)(hv:Lib.validRune r=true):
    Calls prog 269 #[.string ⟨#[0,47]⟩, .int .i32 r] w fun e w'=>e= .returned (.int .i64 (-1))∧Below w.heap.size w w':=by
 have h2':(r==65533)=false:=by simpa using h2
 have hlt:decide (r<128)=false:=by simpa using h0
 rcases Zl r h0 hv with⟨a,b,he,hb⟩|⟨a,b,c,he⟩|⟨a,b,c,d,he⟩
 ·have hne:((((⟨#[0,47]⟩:ByteArray)[1]'(by decide)).toNat:Int) != (((⟨#[a,b]⟩:ByteArray)[1]'(by show 1<2;decide)).toNat:Int))=true:=by
     show((47:Int) != (b.toNat:Int))=true;rw[bne_iff_ne];omega
  go_enter Tryz.func269,Tryz.ntmps269
  go_wp2_with (go_at_call 285;refine(Tryz.utf8_ValidRune _ _).mono ?_;rintro e w' ⟨rfl,rfl⟩;rw[hv])
  go_step3
  go_wp2
  refine wp_loop_rounds 1 ?_;rw[rounds_succ]
  go_wp2
  go_step3
  go_wp2
  go_quiet (fail)
  have hb:=Mr (Below.refl w'.heap.size w') nq;generalize w'.drewN nq=wq at *
  go_wp2
  go_quiet ((go_at_call 284;exact Calls.quiet_of_same (Tryz.strings_IndexByte _ _ _)))
  go_wp2
  rw[Exit.noGoto_ret]
  go_wp2
  rw[Exit.noGoto_ret]
  go_wp2
  go_ret
  exact⟨rfl,Mr hb _⟩
 ·go_enter Tryz.func269,Tryz.ntmps269
  go_wp2_with (go_at_call 285;refine(Tryz.utf8_ValidRune _ _).mono ?_;rintro e w' ⟨rfl,rfl⟩;rw[hv])
  go_step3
  go_wp2
  refine wp_loop_rounds 1 ?_;rw[rounds_succ]
  go_wp2
  rw[Exit.noGoto_ret]
  go_wp2
  go_ret
  exact⟨rfl,Below.refl _ _⟩
 go_enter Tryz.func269,Tryz.ntmps269
 go_wp2_with (go_at_call 285;refine(Tryz.utf8_ValidRune _ _).mono ?_;rintro e w' ⟨rfl,rfl⟩;rw[hv])
 go_step3
 go_wp2
 refine wp_loop_rounds 1 ?_;rw[rounds_succ]
 go_wp2
 rw[Exit.noGoto_ret]
 go_wp2
 go_ret
 exact⟨rfl,Below.refl _ _⟩
theorem Zo(i:Nat)(hi:i<2):((⟨#[0,47]⟩:ByteArray)[i]'hi).toNat<128:=by
 match i,hi with
 |0,_=>show(0:UInt8).toNat<128;decide
 |1,_=>show(47:UInt8).toNat<128;decide
set_option maxRecDepth 1000000 in
set_option maxHeartbeats 2000000 in
theorem Zp(w:World):
    Calls prog 269 #[.string ⟨#[0,47]⟩, .int .i32 65533] w fun e w'=>e= .returned (.int .i64 (-1))∧Below w.heap.size w w':=by
 go_enter Tryz.func269,Tryz.ntmps269
 go_wp2
 go_loopg [5,6] 2 (fun g _ _ wx=>∃i:Nat,i+g=2∧wx=w.iter ⟨#[0,47]⟩ i)
 case atStart=>exact⟨0,by omega,rfl⟩
 case round=>
  obtain⟨i,hig,rfl⟩:=hrel
  cases gk with
  |zero=>
    obtain rfl:i=2:=by omega
    have hnx:=run_next_end (P:=prog) w ⟨#[0,47]⟩ 2
    go_wp2
    go_ret
    exact⟨rfl,(Below.refl _ _).alloc (B3 _) _⟩
  |succ g=>
    have hi:i<2:=by omega
    have hx:=Zo i hi;have hnx:=fun ty=>run_next_ascii (P:=prog) w ⟨#[0,47]⟩ i ty hi hx;generalize ((⟨#[0,47]⟩:ByteArray)[i]'hi)=x at *;have hne:((x.toNat:Int)==65533)=false:=beq_eq_false_iff_ne.2 (by omega)
    go_wp2
    go_roundg g
    case measure=>omega
    case rel=>exact⟨i+1,by omega,rfl⟩
end Go.Proofs.YtbgnigjfkbmceaaGreatDoor
