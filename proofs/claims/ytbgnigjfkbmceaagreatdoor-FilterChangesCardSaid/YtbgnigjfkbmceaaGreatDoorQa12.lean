/-
  Part 12 of the proof of FilterChangesP: what the statement's proof uses of the texts in wip/tpl.
-/
import Derived.OpenShut
import Derived.ChangeArms
import Derived.ChangeOld
import Derived.DataReads
import Derived.DataElems
import Derived.Test.YtbgnigjfkbmceaaGreatDoorShelf
import Derived.Laws.RangeAny
import Derived.Deep.LoopGhost
import Derived.Lib.OthersKept
import Derived.Test.YtbgnigjfkbmceaaGreatDoorQa11
open Go.Proofs.Tryz (prog)
set_option maxRecDepth 10000
set_option maxHeartbeats 4000000
set_option linter.unusedVariables false
set_option linter.unusedSimpArgs false
namespace Go.Proofs.YtbgnigjfkbmceaaGreatDoor
open Go.RowKit
theorem SpcV.b{s:Spc}(h:SpcV s)(hm:s.mounts.length≤1000):SpcB s:=⟨h.files.b,hm⟩
section
theorem Yt(l:List Int)(a:Nat)(ha:a≤10000000):E2 prog 35 l a [] 1100 (fun r=>∃s,r= .agg (Ag s)∧SpcV s∧s.mounts.length≤3):=by
 refine enter Tryz.func35 rfl rfl rfl rfl rfl 1 rfl ?_;refine w_ (Aa (h:=e_ (w_ (m_ (h:=?_)))));refine A6 rfl (Au 0 (hc:=YX l _ (by omega)) (hR:=?_));rintro r a1 ha1 ⟨f1,rfl,hv1,hp1⟩;refine⟨rfl,_,(by repeat constructor),?_⟩;refine A6 rfl (H7 (y:= .agg (Ag ⟨f1,[]⟩)) (E8 ⟨rfl,rfl⟩) ?_);refine Aa (h:=s_ (h:=e_ (q_ (w_ (m_ (h:=?_))))));refine A6 rfl (Au 0 (hc:=Gn l _ (4) (by omega) (by omega)) (hR:=?_));rintro r a2 ha2 ⟨k2,rfl,p2,q2,o2⟩;refine⟨rfl,_,(by repeat constructor),?_⟩;refine a_ (h:=e_ (Af (?_)));obtain⟨M,rfl⟩:=Int.eq_ofNat_of_zero_le p2;have hM:M≤3:=by omega
 refine BW (fun n t=>∃(j b:Nat) (s:Spc),j≤M∧n=j∧b+10 * j≤a+1001+10 * M∧SpcV s∧s.mounts.length+j≤M∧t=⟨look [(0, .bp 0 0),(2, .bp 1 0),(3, .bp 2 0),(4, .v (.int .i64 (j:Int)))],⟨[D1 l b,[.v (.slice none 0 0), .v (.slice none 0 0)],Ag s],[]⟩⟩) (M) ((wk 3 0)) (⟨M,_,⟨f1,[]⟩,Aw _,rfl,by omega,⟨hv1,hp1,fun i m hi=>by simp at hi⟩,by simp,rfl⟩) ?_;rintro n t ⟨j,b,s,hj,rfl,hb,hv,hm,rfl⟩;have hsb:=hv.b (by omega);refine q_ (w_ (m_ (h:=Bf (h:=e_ (?_)))));refine A9 rfl (fun hb1=>?_) (fun hb1=>?_)
 ·have hc1:=bp hb1;refine AA (q_ (Af (?_)));refine CH (fun t=>∃(dev:Int) (x:AB) (b2:Nat),b2≤b+10∧t=⟨look [(0, .bp 0 0),(2, .bp 1 0),(3, .bp 2 0),(4, .v (.int .i64 (n:Int))),(5, .bp 3 0),(6, .v (.int .i64 (Cx s dev x).2))],⟨[D1 l b2,[.v (.slice none 0 0), .v (.slice none 0 0)],Ag s,Ag (Cx s dev x).1],[]⟩⟩) ?_ ?_
  ·skip
   refine CB ([(2,Ag s)]) 14 (h:=?_)
   first|refine AY 0 (h:=?_)|refine BG 0 rfl (fun _ hS=>DW (row:=Ag s) rfl (kb hS rfl) (B8 rfl) rfl ⟨rfl,rfl⟩) ?_
   refine Ap 1 (h:=Ap 3 (h:=Az 4 (h:=?_)))
   first|refine AY 5 (h:=?_)|refine BG 5 rfl (fun _ hS=>DW (row:=Ag s) rfl (kb hS rfl) (B8 rfl) rfl ⟨rfl,rfl⟩) ?_
   refine G6 2 11 rfl rfl ?_ ?_
   ·refine Au 0 (hc:=Cl l _ (1) (2) (by omega) (by omega) (by omega) (by omega)) (hR:=?_);rintro r a3 ha3 ⟨k3,rfl,p3,q3⟩;refine⟨rfl,_,(by repeat constructor),?_⟩;refine o_ (h:=?_);refine G6 6 11 rfl rfl ?_ ?_
    ·refine Au 0 (hc:=K1 l _ s.files (by omega) hv.files.b hv.files.ne) (hR:=?_);rintro r a4 ha4 ⟨x4,rfl⟩;refine⟨rfl,_,(by repeat constructor),?_⟩;refine o_ (h:=?_);refine G6 7 11 rfl rfl ?_ ?_
     ·refine AE (N8 s _ _ hsb) ?_;rintro r rfl;refine o_ (h:=?_);refine Ap 8 (h:=Bw 9 (h:=Bw 10 (h:=?_)));refine c_ 11 rfl (Dt (by repeat constructor) ?_);refine o_ (h:=?_);refine Bi 12 rfl (Ba rfl rfl rfl rfl rfl rfl (by repeat constructor) (by repeat constructor) ?_);refine o_ (h:=BN 13 (h:=z_ (h:=?_)));refine AK ?_;refine⟨_,⟨_,_,_,?_,rfl⟩,(wk 4 0)⟩;omega
     refine Dt (by repeat constructor) ?_;refine o_ (h:=?_);refine c_ 7 rfl (AE (N8 s _ _ hsb) ?_);rintro r rfl;refine o_ (h:=Ap 8 (h:=Bw 9 (h:=Bw 10 (h:=?_))));refine Bi 12 rfl (Ba rfl rfl rfl rfl rfl rfl (by repeat constructor) (by repeat constructor) ?_);refine o_ (h:=BN 13 (h:=z_ (h:=?_)));refine AK ?_;refine⟨_,⟨_,_,_,?_,rfl⟩,(wk 4 0)⟩;omega
    refine Dt (by repeat constructor) ?_;refine o_ (h:=?_);refine c_ 6 rfl (Au 0 (hc:=K1 l _ s.files (by omega) hv.files.b hv.files.ne) (hR:=?_));rintro r a5 ha5 ⟨x5,rfl⟩;refine⟨rfl,_,(by repeat constructor),?_⟩;refine o_ (h:=?_);refine c_ 7 rfl (AE (N8 s _ _ hsb) ?_);rintro r rfl;refine o_ (h:=Ap 8 (h:=Bw 9 (h:=Bw 10 (h:=?_))));refine Bi 12 rfl (Ba rfl rfl rfl rfl rfl rfl (by repeat constructor) (by repeat constructor) ?_);refine o_ (h:=BN 13 (h:=z_ (h:=?_)));refine AK ?_;refine⟨_,⟨_,_,_,?_,rfl⟩,(wk 4 0)⟩;omega
   refine Dt (by repeat constructor) ?_;refine o_ (h:=?_);refine c_ 2 rfl (Au 0 (hc:=Cl l _ (1) (2) (by omega) (by omega) (by omega) (by omega)) (hR:=?_));rintro r a6 ha6 ⟨k6,rfl,p6,q6⟩;refine⟨rfl,_,(by repeat constructor),?_⟩;refine o_ (h:=?_);refine c_ 6 rfl (Au 0 (hc:=K1 l _ s.files (by omega) hv.files.b hv.files.ne) (hR:=?_));rintro r a7 ha7 ⟨x7,rfl⟩;refine⟨rfl,_,(by repeat constructor),?_⟩;refine o_ (h:=?_);refine c_ 7 rfl (AE (N8 s _ _ hsb) ?_);rintro r rfl;refine o_ (h:=Ap 8 (h:=Bw 9 (h:=Bw 10 (h:=?_))));refine Bi 12 rfl (Ba rfl rfl rfl rfl rfl rfl (by repeat constructor) (by repeat constructor) ?_);refine o_ (h:=BN 13 (h:=z_ (h:=?_)));refine AK ?_;refine⟨_,⟨_,_,_,?_,rfl⟩,(wk 4 0)⟩;omega
  rintro t ⟨dev,x,b2,hb2,rfl⟩;refine w_ (m_ (h:=AN (h:=e_ (?_))));refine A9 rfl (fun hb2=>?_) (fun hb2=>?_)
  ·have hc2:=bp hb2;obtain⟨hv2,he2⟩:=YV hv dev x (by omega);have hm2:(Cx s dev x).1.mounts.length=s.mounts.length+1:=by rw[he2];simp
   refine AT (l_ (h:=s_ (h:=AP (Ai (t_ (AT (m_ (h:=?_))))))));refine A6 rfl (Hv rfl rfl (by omega) ?_);refine a_ (h:=AP (?_));refine AK ?_
   first|refine⟨n - 1,_,by omega,⟨n - 1,_,(Cx s dev x).1,by omega,rfl,?_,hv2,?_,rfl⟩,(by rw[show((n - 1:Nat):Int)=(n:Int) - 1 by omega];exact Ay 3 0 rfl rfl rfl rfl ((by repeat (first|exact Sub.nil|refine B0 rfl rfl ?_|refine B2 ?_|refine B3 rfl ?_|refine B4 rfl ?_))))⟩|refine⟨n - 1,_,by omega,⟨n - 1,_,s,by omega,rfl,?_,hv,?_,rfl⟩,(by rw[show((n - 1:Nat):Int)=(n:Int) - 1 by omega];exact Ay 3 0 rfl rfl rfl rfl ((by repeat (first|exact Sub.nil|refine B0 rfl rfl ?_|refine B2 ?_|refine B3 rfl ?_|refine B4 rfl ?_))))⟩
   ·omega
   omega
  have hc2:=bp hb2;refine Av (Ai (t_ (AT (m_ (h:=?_)))));refine A6 rfl (Hv rfl rfl (by omega) ?_);refine a_ (h:=AP (?_));refine AK ?_
  first|refine⟨n - 1,_,by omega,⟨n - 1,_,(Cx s dev x).1,by omega,rfl,?_,hv2,?_,rfl⟩,(by rw[show((n - 1:Nat):Int)=(n:Int) - 1 by omega];exact Ay 3 0 rfl rfl rfl rfl ((by repeat (first|exact Sub.nil|refine B0 rfl rfl ?_|refine B2 ?_|refine B3 rfl ?_|refine B4 rfl ?_))))⟩|refine⟨n - 1,_,by omega,⟨n - 1,_,s,by omega,rfl,?_,hv,?_,rfl⟩,(by rw[show((n - 1:Nat):Int)=(n:Int) - 1 by omega];exact Ay 3 0 rfl rfl rfl rfl ((by repeat (first|exact Sub.nil|refine B0 rfl rfl ?_|refine B2 ?_|refine B3 rfl ?_|refine B4 rfl ?_))))⟩
  ·omega
  omega
 have hc1:=bp hb1;refine BH (Ah (Ah (BJ (t_ (w_ (l_ (h:=s_ (h:=e_ (A4 (?_))))))))));refine Am none (h5:=(AZ _)) (h6:=⟨_,rfl,rfl,b,by omega,rfl,s,rfl,hv,by omega⟩)
end
theorem TL{P:Program}{f:FuncId}{s:Spc}{xs:List AV}{us:List Value}{z:Value}{R:AV}(hx:∀(G:Gh) (w:World) (vs:List Value),AW G w xs vs→vs=us)(hR:∀(G:Gh) (w:World),rep G w R z)
    (h:∀(w:World) (ds ms:Value),SpcIn s w.heap.size w ds ms→Calls P f (.agg #[ds,ms]::us).toArray w fun e w'=>e= .returned z∧Below w.heap.size w w'):AFn P f (.agg (Ag s)::xs) (fun r=>r=R):=by
 intro w St bl vs hr hv;simp only[AW]at hv;obtain⟨z0,zs,rfl,h1,h2⟩:=hv;obtain rfl:=hx _ _ _ h2;simp only[rep,Ag,AW]at h1;obtain⟨ys,rfl,ds,_,rfl,h3,ms,_,rfl,h4,rfl⟩:=h1
 have hs:SpcIn s w.heap.size w ds ms:=by
  refine⟨Aw _,?_⟩;refine Hq (St:=St) (fun b o hb=>⟨hr.stlt b o hb,rfl⟩) _ _ ?_;simp only[Ag,BT];exact⟨_,_,rfl,h3,_,_,rfl,h4,rfl⟩
 refine(h w ds ms hs).mono ?_;rintro e w' ⟨rfl,hb⟩;obtain⟨k1,k2⟩:=hr.below hb;exact⟨_,_,_,_,⟨rfl,rfl,rfl⟩,k1,k2,hR _ _⟩
theorem Yu{G:Gh}{w:World}{a:AB}{vs:List Value}(h:AW G w [.agg (AF a)] vs):vs=[D6 a]:=by
 simp only[AW,rep,AF]at h;obtain⟨_,_,rfl,⟨_,rfl,_,_,rfl,rfl,_,_,rfl,rfl,rfl⟩,rfl⟩:=h;rfl
structure SpcN(s:Spc):Prop where
 b:SpcB s
 nm:∀x,(C1 s x).size≤100
 most:BU s.files≤5000
section
variable {s:Spc}(hs:SpcN s)
include hs
theorem Pj(a:AB):AFn prog 267 [.agg (Ag s), .agg (AF a)] (fun r=>r= .tup [.v (.string (Bd s a).1), .v (.bool (Bd s a).2)]):=
 TL (us:=[D6 a]) (z:= .tuple #[.string (Bd s a).1, .bool (Bd s a).2]) (fun _ _ _ h=>Yu h) (fun G w=>by simp only[rep,AW];exact⟨[_,_],rfl,_,_,rfl,rfl,_,_,rfl,rfl,rfl⟩)
  fun w ds ms h=>callsIn_wide.1 (Ys 4 (Lib.hid (Aw _)) s hs.b hs.nm hs.most a ds ms w h)
end
theorem Yv(s:Spc)(hs:SpcB s)(a b:AB):AFn prog 120 [.agg (Ag s), .agg (AF a), .agg (AF b)] (fun r=>r= .v (.bool (decide (a∈BM s (BU s.files) b)))):=
 TL (us:=[D6 a,D6 b]) (z:= .bool (decide (a∈BM s (BU s.files) b))) (fun G w vs h=>by
  simp only[AW,rep,AF]at h;obtain⟨_,_,rfl,⟨_,rfl,_,_,rfl,rfl,_,_,rfl,rfl,rfl⟩,_,_,rfl,⟨_,rfl,_,_,rfl,rfl,_,_,rfl,rfl,rfl⟩,rfl⟩:=h
  rfl) (fun G w=>by simp only[rep])
  fun w ds ms h=>callsIn_wide.1 (Yf 4 (Lib.hid (by omega)) s hs a b ds ms w h)
theorem Yw{f:Ac}{a:AB}(h:Cj f a=true):∃d∈f,At f a∈d.nodes:=by
 obtain⟨q,i,d,m,_,h2,h3,_,_,h6⟩:=LO h;exact⟨d,Ar h2,by rw[h6];exact Ar h3⟩
theorem Yx{x:AJ}(h:Cq x=true):x.size≤12:=by
 rw[Hb]at h;by_cases hc:x.size<1∨12<x.size
 ·rw[if_pos hc]at h;cases h
 omega
theorem Pk{s:Spc}(h:FlsV s.files)(x:AB):(C1 s x).size≤12:=by
 unfold C1
 cases hf:(EO s x).entries.find? fun e:BK=>decide (e.2=x.2)with
 |none=>exact BO _
 |some e=>
   have hm:=List.mem_of_find?_eq_some hf;unfold EO at hm;by_cases hh:Cj s.files (x.1,(At s.files x).parent)=true
   ·obtain⟨d,hd,hn⟩:=Yw hh;exact Yx ((h.vd d hd).ent _ hn e hm).1
   have:At s.files (x.1,(At s.files x).parent)=Nod.zero:=by
    unfold Cj at hh
    cases hq:Bp s.files (x.1,(At s.files x).parent)with
    |none=>show(Bp s.files (x.1,(At s.files x).parent)).getD Nod.zero=Nod.zero;rw[hq];rfl
    |some m=>rw[hq]at hh;exact absurd rfl hh
   rw[this]at hm;cases hm
theorem TM{f:Ac}(h:FlsV f):BU f≤48:=by
 have:∀(l:Ac),(∀d∈l,d.nodes.length≤16)→BU l≤l.length * 16:=by
  intro l
  induction l with
  |nil=>intro _;simp[BU]
  |cons d l ih=>
    intro h;have h1:=ih fun d hd=>h d (List.mem_cons_of_mem _ hd);have h2:=h d (List.mem_cons_self ..);simp only[BU,List.map_cons,List.sum_cons,List.length_cons]at h1 ⊢;omega
 have h1:=this f fun d hd=>(h.vd d hd).len;have h2:=h.few;omega
theorem SpcV.n{s:Spc}(h:SpcV s)(hm:s.mounts.length≤1000):SpcN s:=⟨⟨h.files.b,hm⟩,fun x=>by have:=Pk h.files x;omega,by have:=TM h.files;omega⟩
def Gi(w:World):Nat→Nat→Prop:=fun b _=>b<w.heap.size
def Opens(P:Program)(t:TypeId)(R:List AV→Prop):Prop:=
 ∀(H:Type) (enc:TypeId×Value→H) (w:World) (base:Nat) (spare:Nat→Bool) (held:Bool) (fuel:Nat) (cs:List Value) (x:DataW H×List MemPlace),DataW.trod enc P w base spare held fuel t cs=some x→
  ∃row,R row∧BT (Gi w) w row cs∧∀u∈cs,u.oneCell'=true
section
variable {P:Program}{t:TypeId}
theorem Opens.mono{R R':List AV→Prop}(h:Opens P t R)(hR:∀r,R r→R' r):Opens P t R':=by
 intro H enc w base spare held fuel cs x hx;obtain⟨row,h1,h2⟩:=h H enc w base spare held fuel cs x hx;exact⟨row,hR _ h1,h2⟩
theorem Yy{k:IntKind}(ht:P.underlying t=some (.int k)):Opens P t fun r=>∃n,r=[.v (.int k n)]∧(Lit.int k n).wf=true:=by
 intro H enc w base spare held fuel cs x hx;obtain⟨b,rfl,_,hw⟩:=DataW.trod_int ht hx;exact⟨_,⟨b,rfl,hw⟩,⟨_,_,rfl,by simp only[Ak],by simp only[BT]⟩,by simp[Value.oneCell']⟩
theorem Yz{w:World}{b o:Nat}{v:Value}(h:w.cell? ⟨b,o,none⟩=some v):b<w.heap.size:=by
 rcases Nat.lt_or_ge b w.heap.size with hlt|hge
 ·exact hlt
 simp[World.cell?,Array.getElem?_eq_none hge]at h
theorem Z0{St:Nat→Nat→Prop}{w:World}{xs:List AV}{ys:List Value}(h:BT St w xs ys):ys.length=xs.length:=FK (G:=⟨St,[],[]⟩) (Gm (G:=⟨St,[],[]⟩) _ _ h)
theorem Z1{e:TypeId}{n:Nat}{R:List AV→Prop}(ht:P.underlying t=some (.slice e))(hc:P.cellsOf e=n)(hn:0<n)(h:Opens P e R):Opens P t fun r=>∃rows,r=[.sl n rows none]∧rows.length≤maxLen∧∀x∈rows,R x:=by
 intro H enc w base spare held fuel cs x hx;rcases DataW.trod_slice ht hx with⟨rfl,_⟩|⟨⟨b,off,spot⟩,len,cap,elems,rest,m,rfl,rfl,_,hb,hl,hm,hlen,hel,_,_⟩
 ·exact⟨_,⟨[],rfl,BO _,by simp⟩,⟨_,_,rfl,by simp only[Ak];exact⟨trivial,none,0,rfl,Aw _,BO _, .inl trivial⟩,by simp only[BT]⟩,by simp[Value.oneCell']⟩
 have each:∀i,i<len→∃row cs',R row∧row.length=n∧BT (Gi w) w row cs'∧(∀u∈cs',u.oneCell'=true)∧cs'.length=n∧∀j,j<n→w.cell? (Addr.add ⟨b,off,spot⟩ (i * n+j))=cs'[j]?:=by
  intro i hi;have h1:=hel i hi;rw[hc,BQ (by omega),Option.bind_eq_some_iff]at h1;obtain⟨cs',h2,h3⟩:=h1;obtain⟨row,r1,r2,r3⟩:=h _ _ _ _ _ _ _ _ _ h3;obtain⟨_,c1,c2⟩:=World.cells?_some h2;refine⟨row,cs',r1,by rw[←Z0 r2,c1],r2,r3,c1,fun j hj=>?_⟩;have:=c2 j hj
  rwa [Addr.add_add]at this
 have hrows:∃rows:List (List AV),rows.length=len∧(∀i,i<len→∃row cs',rows[i]?=some row∧R row∧row.length=n∧BT (Gi w) w row cs'∧(∀u∈cs',u.oneCell'=true)∧cs'.length=n∧∀j,j<n→w.cell? (Addr.add ⟨b,off,spot⟩ (i * n+j))=cs'[j]?):=by
  clear hel
  have:∀k,k≤len→∃rows:List (List AV),rows.length=k∧(∀i,i<k→∃row cs',rows[i]?=some row∧R row∧row.length=n∧BT (Gi w) w row cs'∧(∀u∈cs',u.oneCell'=true)∧cs'.length=n∧∀j,j<n→w.cell? (Addr.add ⟨b,off,spot⟩ (i * n+j))=cs'[j]?):=by
   intro k
   induction k with
   |zero=>intro _;exact⟨[],rfl,fun i hi=>by omega⟩
   |succ k ih=>
     intro hk;obtain⟨rows,e1,e2⟩:=ih (by omega);obtain⟨row,cs',q⟩:=each k (by omega);refine⟨rows++[row],by simp[e1],fun i hi=>?_⟩;rcases Nat.lt_or_ge i k with hlt|hge
     ·obtain⟨row',cs'',q1,q2⟩:=e2 i hlt;exact⟨row',cs'',by rw[CU (by omega)];exact q1,q2⟩
     obtain rfl:i=k:=by omega
     exact⟨row,cs',by rw[DD (by omega),e1];simp,q⟩
  exact this len (Aw _)
 obtain⟨rows,e1,e2⟩:=hrows;refine⟨_,⟨rows,rfl,by omega,fun x hx=>?_⟩,⟨_,_,rfl,?_,by simp only[BT]⟩,by simp[Value.oneCell']⟩
 ·obtain⟨i,hi⟩:=List.getElem?_of_mem hx;obtain⟨row,_,q1,q2,_⟩:=e2 i (by rw[←e1];exact(Al.1 hi).1);rw[hi]at q1;injection q1 with q1;subst q1;exact q2
 simp only[Ak];refine⟨trivial,some ⟨b,off,spot⟩,cap,by rw[e1],by omega,hm,?_⟩;rcases Nat.eq_zero_or_pos len with h0|h0
 ·left;exact Cp (by omega)
 right
 have hspot:spot=none:=by
  obtain⟨_,cs',_,_,_,_,_,c3,c4⟩:=e2 0 h0;have:=c4 0 hn;rw[BQ (by omega)]at this
  simpa[Addr.add]using World.cell?_spot this
 subst hspot;refine⟨b,off,rfl,?_⟩
 have:∀(rs:List (List AV)) (k:Nat),(∀i r,rs[i]?=some r→rows[k+i]?=some r)→froR (Gi w) w b n rs (off+k * n):=by
  intro rs
  induction rs with
  |nil=>intro k _;simp only[froR]
  |cons r rs ih=>
    intro k hk;simp only[froR];have h1:=hk 0 r rfl;rw[Nat.add_zero]at h1;obtain⟨row,cs',q1,_,q3,q4,q5,q6,q7⟩:=e2 k (by rw[←e1];exact(Al.1 h1).1);rw[h1]at q1;injection q1 with q1;subst q1;refine⟨⟨q3,JP fun i x hi=>?_⟩,?_⟩
    ·obtain⟨u,u1,u2⟩:=MB q4 hi;have hin:i<n:=by rw[←q3];exact(Al.1 hi).1
     have hc:=q7 i hin;rw[u1]at hc;have hc':w.cell? ⟨b,off+k * n+i,none⟩=some u:=by rw[Addr.add_mid]at hc;rwa [Nat.add_assoc]
     exact⟨Yz hc',u,hc',q5 u (Ar u1),u2⟩
    have:=ih (k+1) (fun i r' hi=>by
     have:=hk (i+1) r' (by simpa using hi)
     rwa [show k+1+i=k+(i+1) by omega])
    rwa [show off+(k+1) * n=off+k * n+n by rw[Nat.add_mul];omega]at this
 simpa using this rows 0 (fun i r hi=>by simpa using hi)
theorem TN{α:Type}{enc:α→List AV}{Q:α→Prop}:∀{rows:List (List AV)},(∀x∈rows,∃a,x=enc a∧Q a)→∃l:List α,rows=l.map enc∧∀a∈l,Q a
 |[],_=>⟨[],rfl,by simp⟩
 |r::rs,h=>by
   obtain⟨a,rfl,ha⟩:=h r (by simp);obtain⟨l,rfl,hl⟩:=TN (rows:=rs) fun x hx=>h x (by simp[hx]);exact⟨a::l,rfl,by simpa using⟨ha,hl⟩⟩
theorem Opens.one{R:List AV→Prop}(h:Opens P t R){H:Type}{enc:TypeId×Value→H}{w:World}{base:Nat}{spare:Nat→Bool}{held:Bool}{v:Value}{d:DataW H}{ps:List MemPlace}(hv:v.cells=#[v])(hd:DataW.Trod enc P w base spare held t v d ps):
    ∃row,R row∧BT (Gi w) w row [v]:=by
 obtain⟨fuel,hf⟩:=hd;rw[hv]at hf;obtain⟨row,h1,h2,_⟩:=h _ _ _ _ _ _ _ _ _ hf;exact⟨row,h1,h2⟩
end
theorem Z2:Opens prog 22 (fun r=>∃l:List Int,r=[.sl 1 (l.map FP) none]):=
 (Z1 (n:=1) Tryz.underlying22 (by kernel_rfl) (by omega) (Yy Tryz.underlying3)).mono (by
   rintro r ⟨rows,rfl,_,hr⟩;obtain⟨l,rfl,_⟩:=TN (enc:=FP) (Q:=fun _=>True) (fun x hx=>by obtain⟨t,rfl,_⟩:=hr x hx;exact⟨t,rfl,trivial⟩)
   exact⟨l,rfl⟩)
theorem Z3{H:Type}{enc:TypeId×Value→H}{sp:Nat→Bool}{held:Bool}{base:Nat}{w:World}{a:Option Addr}{n c:Nat}{d:DataW H}{p:List MemPlace}(h:DataW.Trod enc prog w base sp held 22 (.slice a n c) d p):
    ∃l:List Int,rep ⟨Gi w,[],[]⟩ w (.sl 1 (l.map FP) none) (.slice a n c):=by
 obtain⟨r0,⟨l,rfl⟩,k0⟩:=Z2.one rfl h;simp only[BT]at k0;obtain⟨_,_,e0,k0,rfl⟩:=k0;injection e0 with e0;subst e0;exact⟨l,Es (G:=⟨Gi w,[],[]⟩) _ _ k0⟩
theorem Z4{f:FuncId}(hf:∀l:List Int,AFn prog f [.sl 1 (l.map FP) none] (fun x=>x= .v (.bool true))){H:Type}{enc:TypeId×Value→H}{sp:Nat→Bool}{held:Bool}{base:Nat}(a:Option Addr)(n c:Nat)(w:World){d:DataW H}{p:List MemPlace}
    (h:DataW.Trod enc prog w base sp held 22 (.slice a n c) d p):Calls prog f #[.slice a n c] w fun e w'=>e= .returned (.bool true)∧Below w.heap.size w w':=by
 obtain⟨l,k⟩:=Z3 h;refine Vg (vs:=[.slice a n c]) (hf l) (Gi w) (fun b o h=>h) ?_;simp only[AW];exact⟨_,_,rfl,k,rfl⟩
theorem TO{s:Spc}{dev:Int}(h:C6 s dev=true)(h0:dev≠0):∃m∈s.mounts,m.1=dev:=by
 unfold C6 Bn at h;simp only[Bool.or_eq_true,decide_eq_true_eq,h0,or_false]at h
 cases hf:s.mounts.find? fun m:DF=>decide (m.1=dev)with
 |none=>rw[hf]at h;cases h
 |some m=>exact⟨m,List.mem_of_find?_eq_some hf,by have:=List.find?_some hf;simpa using this⟩
theorem NC{s:Spc}{m:DF}(h:m∈s.mounts):C6 s m.1=true:=by
 unfold C6 Bn;rw[Bool.or_eq_true];refine .inl ?_;rw[Option.isSome_map]
 cases hf:s.mounts.find? fun m':DF=>decide (m'.1=m.1)with
 |none=>have:=List.find?_eq_none.1 hf m h;simp at this
 |some m=>rfl
theorem Z5{f:Ac}{ms ms':List DF}{dev:Int}(h:C6 ⟨f,ms⟩ dev=true)(hs:∀m∈ms,m∈ms'):C6 ⟨f,ms'⟩ dev=true:=by
 by_cases h0:dev=0
 ·unfold C6;simp[h0]
 obtain⟨m,hm,rfl⟩:=TO h h0;exact NC (s:=⟨f,ms'⟩) (hs m hm)
section
theorem TP(s:Spc):∀(k:Nat) (a:AB),(BM s k a).length≤k
 |0,_=>by simp[BM]
 |k+1,a=>by
   unfold BM;split
   ·cases h:Dl s a with
    |none=>simp
    |some b=>have:=TP s k b;simp;omega
   simp
end
end Go.Proofs.YtbgnigjfkbmceaaGreatDoor
namespace Go.Proofs.YtbgnigjfkbmceaaGreatDoor
section
variable {s:Spc}(hv:SpcV s)
include hv
theorem Pl{q:Nat}{d:Dvc}{p:Nod}{x:Int}(hq:s.files[q]?=some d)(hp:p∈d.nodes)(hx:p.ino=x):Bp s.files ((q:Int),x)=some p:=
 Pc (a:=((q:Int),x)) rfl hq (hv.files.vd d (Ar hq)).asc hp hx
theorem LR{a b:AB}(h:Aq s.files a=true)(hs:Cc s a=some b):Aq s.files b=true:=by
 obtain⟨q,d,m,h1,h2,h3,h4,h5,h6⟩:=Hm (f:=s.files) (a:=a) (by rw[h];simp);have hd:=hv.files.vd d (Ar h2);unfold Cc at hs;by_cases h0:a.2≠1
 ·rw[if_pos h0]at hs;injection hs with hs;subst hs;rw[h5,h1];obtain⟨p,hp,hpi,e,he,_⟩:=hd.par m h3 (by rw[h4];exact h0) h6
  have hk:p.kind=2:=by
   by_cases hk:p.kind=2
   ·exact hk
   have:=(hd.leaf p hp hk).2;rw[this]at he;cases he
  exact(JK (Pl hv h2 hp hpi)).2 hk
 rw[if_neg h0]at hs;obtain⟨m',hm',_,e⟩:=LQ hs;obtain⟨i,hi⟩:=List.getElem?_of_mem hm';rw[←e];exact(hv.mnt i m' hi).dir
theorem Pm{a b:AB}(h:C6 s a.1=true)(hs:Cc s a=some b):C6 s b.1=true:=by
 unfold Cc at hs;by_cases h0:a.2≠1
 ·rw[if_pos h0]at hs;injection hs with hs;subst hs;exact h
 rw[if_neg h0]at hs;obtain⟨m',hm',_,e⟩:=LQ hs;obtain⟨i,hi⟩:=List.getElem?_of_mem hm';rw[←e];exact Z5 (f:=s.files) (hv.mnt i m' hi).there (fun x hx=>List.mem_of_mem_take hx)
theorem Pn:Bn s 0=none:=by
 cases h:Bn s 0 with
 |none=>rfl
 |some on=>
   obtain⟨m',hm',e,_⟩:=LQ h;obtain⟨i,hi⟩:=List.getElem?_of_mem hm';have:=(hv.mnt i m' hi).dev1;omega
theorem Z6{a:AB}(h:C6 s a.1=true)(h0:a≠(0,1)):∃b,Cc s a=some b:=by
 have _:=hv;unfold Cc;by_cases h1:a.2≠1
 ·exact⟨_,if_pos h1⟩
 rw[if_neg h1];have h2:a.1≠0:=fun e=>h0 (Prod.ext e (by simpa using h1));unfold C6 at h;rw[decide_eq_false h2,Bool.or_false]at h
 cases ho:Bn s a.1 with
 |none=>rw[ho]at h;cases h
 |some b=>exact⟨b,rfl⟩
theorem Ho{a:AB}(h:Aq s.files a=true):BM s (BU s.files) a=a::(match Cc s a with
    |none=>[]
    |some b=>BM s (BU s.files) b):=by
 have hd:¬Aq s.files a=false:=by rw[h];simp
 have he:=GJ hv a
 cases hm:BU s.files with
 |zero=>rw[hm]at he;exact absurd he hd
 |succ m=>
   rw[hm]at he;rw[Fp hd,K4 hv hd]
   cases hs:Cc s a with
   |none=>rfl
   |some b=>
     simp only;have h1:=he.resolve_left hd b hs;have h2:=GJ hv b;rw[hm]at h2;rw[Pe hv m (m+1) b h1 h2]
theorem Z7{a:AB}(h:Aq s.files a=true)(hm:C6 s a.1=true):(0,1)∈BM s (BU s.files) a:=by
 have key:∀(k:Nat) (a:AB),ED s k a→Aq s.files a=true→C6 s a.1=true→(0,1)∈BM s (BU s.files) a:=by
  intro k
  induction k with
  |zero=>intro a he h _;rw[show Aq s.files a=false from he]at h;cases h
  |succ k ih=>
    intro a he h hm;by_cases h0:a=(0,1)
    ·rw[Ho hv h,h0];exact List.mem_cons_self ..
    obtain⟨b,hb⟩:=Z6 hv hm h0;rw[Ho hv h,hb];exact List.mem_cons_of_mem _ (ih b (he.resolve_left (by rw[h];simp) b hb) (LR hv h hb) (Pm hv hm hb))
 exact key _ a (GJ hv a) h hm
theorem K6{a:AB}(h:¬(Aq s.files a=true∧C6 s a.1=true)):Bd s a=(⟨#[]⟩,false):=by
 have _:=hv;unfold Bd;rw[if_neg fun c=>h ⟨c.1,c.2.1⟩]
theorem ND{a:AB}(h:Aq s.files a=true)(hm:C6 s a.1=true):Bd s a=(Fq s ((BM s (BU s.files) a).takeWhile fun x=>decide (x≠(0,1))),true):=by
 unfold Bd;rw[if_pos ⟨h,hm,Z7 hv h hm⟩]
theorem LS(h:Aq s.files (0,1)=true):Bd s (0,1)=(⟨#[47]⟩,true):=by
 rw[ND hv h (by unfold C6;simp),Ho hv h,List.takeWhile_cons];simp[Fq,Cd]
theorem TQ{a b:AB}(h:Aq s.files a=true)(hm:C6 s a.1=true)(h0:a≠(0,1))(hb:Cc s a=some b):Bd s a=(if a.2=1 then(Bd s b).1 else Co (Bd s b).1 (C1 s a),true)∧(Bd s b).2=true:=by
 rw[ND hv h hm,ND hv (LR hv h hb) (Pm hv hm hb),Ho hv h,hb,List.takeWhile_cons];simp only[h0,ne_eq,not_false_eq_true,decide_true,if_true];refine⟨?_,trivial⟩;unfold Fq Cd;rw[List.filter_cons];by_cases h1:a.2=1
 ·simp[h1]
 simp[h1]
def D8(s:Spc):Nat→AB→AB
 |0,a=>a
 |k+1,a=>if Aq s.files a=true then(if a.2≠1 then(a.1,(At s.files a).parent)else match Bn s a.1 with
   |some on=>D8 s k on
   |none=>a)else(0,0)
omit hv in
theorem Z8(dev:Int):Hn s dev≤s.mounts.length:=by
 unfold Hn
 cases h:s.mounts.findIdx? fun m:DF=>decide (m.1=dev)with
 |none=>simp
 |some i=>
   have:=(List.findIdx?_eq_some_iff_getElem.1 h).1;simp only;omega
theorem TR{i j:Nat}{m m':DF}(hi:s.mounts[i]?=some m)(hj:s.mounts[j]?=some m')(h:m.1=m'.1):i=j:=by
 have key:∀{i j:Nat} {m m':DF},s.mounts[i]?=some m→s.mounts[j]?=some m'→m.1=m'.1→¬i<j:=by
  intro i j m m' hi hj h hlt;have hf:=(hv.mnt j m' hj).fresh
  have hm:m∈s.mounts.take j:=by
   refine Ar (i:=i) ?_;rw[List.getElem?_take,if_pos hlt];exact hi
  have:=NC (s:=⟨s.files,s.mounts.take j⟩) hm;rw[h,hf]at this;cases this
 have h1:=key hi hj h;have h2:=key hj hi h.symm;omega
omit hv in
theorem NE{a:AB}{d:Int}(h:Bz s a=some d):∃i:Nat,s.mounts[i]?=some ((d,a):DF):=by
 unfold Bz at h
 cases hf:s.mounts.find? fun m:DF=>decide (m.2=a)with
 |none=>rw[hf]at h;cases h
 |some m=>
   rw[hf]at h;injection h with h;have h2:=List.find?_some hf;simp only[decide_eq_true_eq]at h2;obtain⟨i,hi⟩:=List.getElem?_of_mem (List.mem_of_find?_eq_some hf);exact⟨i,by rw[hi,←h,←h2]⟩
omit hv in
theorem Z9{a:AB}(h:∀(i:Nat) (m:DF),s.mounts[i]?=some m→m.2≠a):Bz s a=none:=by
 cases hc:Bz s a with
 |none=>rfl
 |some d=>obtain⟨i,hi⟩:=NE hc;exact absurd rfl (h i _ hi)
theorem TS:∀(n:Nat) (a:AB),(∀(i:Nat) (m:DF),s.mounts[i]?=some m→m.2=a→s.mounts.length≤i+n)→Bz s (CZ s n a)=none:=by
 intro n
 induction n with
 |zero=>
   intro a h;refine Z9 fun i m hi e=>?_;have h1:=h i m hi e;have h2:=(Al.1 hi).1;omega
 |succ n ih=>
   intro a h
   cases hc:Bz s a with
   |none=>rw[Mm (by rw[hc];rfl)];exact hc
   |some d=>
     obtain⟨i,hi⟩:=NE hc;rw[CZ];refine ih _ fun j m hj e=>?_;have he:Fj s a=(d,1):=by unfold Fj;rw[hc]
     rw[he]at e;have h1:=h i _ hi rfl;have hth:=(hv.mnt j m hj).there;have hd1:=(hv.mnt i _ hi).dev1;rw[e]at hth;obtain⟨m'',hm'',e2⟩:=TO hth (by simp only at hd1 ⊢;omega);obtain⟨k,hk⟩:=List.getElem?_of_mem hm''
     have hkj:k<j:=by
      have:=(Al.1 hk).1;simp at this;omega
     rw[List.getElem?_take,if_pos hkj]at hk;have:=TR hv hk hi e2;omega
omit hv in
theorem TT:∀(n:Nat) (a:AB),CZ s (n+1) a=Fj s (CZ s n a)
 |0,_=>rfl
 |n+1,a=>TT n (Fj s a)
theorem ZA(a:AB):CZ s (s.mounts.length+1) a=CZ s s.mounts.length a:=by
 rw[TT];refine Og ?_;rw[TS hv _ a (fun i m _ _=>by omega)];rfl
theorem TU{i:Nat}{m:DF}(hi:s.mounts[i]?=some m):Bn s m.1=some m.2:=by
 have h1:C6 s m.1=true:=NC (Ar hi);have hd:=(hv.mnt i m hi).dev1;unfold C6 at h1;rw[decide_eq_false (by omega),Bool.or_false]at h1
 cases ho:Bn s m.1 with
 |none=>rw[ho]at h1;cases h1
 |some on=>
   obtain⟨m',hm',e1,e2⟩:=LQ ho;obtain⟨j,hj⟩:=List.getElem?_of_mem hm';have:=TR hv hj hi e1;subst this;rw[hi]at hj;injection hj with hj;rw[←e2,hj]
theorem ZB{x:AB}{dev:Int}(hc:Bz s x=some dev):∀(k:Nat) (y:AB),ED s k y→Aq s.files y=true→y.1=dev→∃t r,BM s (BU s.files) y=t++(dev,1)::x::r:=by
 intro k
 induction k with
 |zero=>intro y he h _;rw[show Aq s.files y=false from he]at h;cases h
 |succ k ih=>
   intro y he h hy;obtain⟨i,hi⟩:=NE hc;by_cases h1:y.2=1
   ·have hs:Cc s y=some x:=by
       unfold Cc;rw[if_neg (by simpa using h1),hy];exact TU hv hi
    obtain⟨t,ht⟩:=NA hv (LR hv h hs);refine⟨[],t,?_⟩;rw[Ho hv h,hs];simp only[List.nil_append];rw[ht,←hy,←h1]
   have hs:Cc s y=some (y.1,(At s.files y).parent):=if_pos h1;obtain⟨t,r,ht⟩:=ih _ (he.resolve_left (by rw[h];simp) _ hs) (LR hv h hs) hy;refine⟨y::t,r,?_⟩;rw[Ho hv h,hs];simp only[List.cons_append];rw[ht]
def FB(s:Spc)(L:List AB)(i:Nat):Bool:=match L[i]? with
 |none=>true
 |some x=>match Bz s x with
   |none=>true
   |some dev=>decide (0<i)&&decide (L[i - 1]?=some (dev,1))
theorem TV{a:AB}{i:Nat}{x:AB}(hi:(BM s (BU s.files) a)[i]?=some x):FB s (BM s (BU s.files) a) i=Pi s a x:=by
 unfold FB Pi;simp only[hi]
 cases hc:Bz s x with
 |none=>rfl
 |some dev=>
   simp only;rw[Bool.eq_iff_iff];simp only[Bool.and_eq_true,decide_eq_true_eq];constructor
   ·rintro⟨_,h2⟩;exact⟨_,Ar h2,rfl⟩
   rintro⟨y,hy,hyd⟩;obtain⟨t,r,ht⟩:=ZB hv hc _ y (GJ hv y) (Ye hv hy) hyd;obtain⟨p,hp⟩:=Yd hv hy;have hL:BM s (BU s.files) a=(p++t)++(dev,1)::x::r:=by rw[←hp,ht,List.append_assoc]
   have hn:=TC hv _ a (GJ hv a)
   have hx:(BM s (BU s.files) a)[(p++t).length+1]?=some x:=by
    rw[hL,DD (by omega)];simp
   have hx0:(BM s (BU s.files) a)[(p++t).length]?=some (dev,1):=by
    rw[hL,DD (by omega)];simp
   have e:i=(p++t).length+1:=by
    obtain⟨h1,h2⟩:=Al.1 hi;obtain⟨h3,h4⟩:=Al.1 hx;exact(List.getElem_inj hn).1 (h2.trans h4.symm)
   subst e;exact⟨by omega,hx0⟩
theorem ZC(a:AB):Dn s a=((Bd s a).2&&(List.range (BM s (BU s.files) a).length).all (FB s (BM s (BU s.files) a))):=by
 unfold Dn
 congr 1
 rw[Bool.eq_iff_iff,List.all_eq_true,List.all_eq_true];constructor
 ·intro h i hi;have hl:=List.mem_range.1 hi;rw[TV hv (BQ hl)];exact h _ (List.getElem_mem hl)
 intro h x hx;obtain⟨i,hi⟩:=List.getElem?_of_mem hx;rw[←TV hv hi];exact h i (List.mem_range.2 (Al.1 hi).1)
end
end Go.Proofs.YtbgnigjfkbmceaaGreatDoor
namespace Go.Proofs.YtbgnigjfkbmceaaGreatDoor
open Go.RowKit
theorem ZD(d m:AJ):(Co d m).size≤d.size+1+m.size:=by
 unfold Co;split
 ·rw[ByteArray.size_append];omega
 rw[ByteArray.size_append,ByteArray.size_append];show d.size+1+m.size≤_;omega
theorem ZE{s:Spc}(hv:SpcV s)(pre:List AB):(Fq s pre).size≤1+13 * pre.length:=by
 have key:∀(l:List AJ) (d:AJ),(∀x∈l,x.size≤12)→(l.foldl Co d).size≤d.size+13 * l.length:=by
  intro l
  induction l with
  |nil=>intro d _;simp
  |cons x l ih=>
    intro d h;have h1:=ih (Co d x) fun y hy=>h y (List.mem_cons_of_mem _ hy);have h2:=h x (List.mem_cons_self ..);have h3:=ZD d x;rw[List.foldl_cons,List.length_cons];omega
 have h:=key (Cd s pre).reverse ⟨#[47]⟩ (fun x hx=>by
  rw[List.mem_reverse]at hx;obtain⟨y,_,rfl⟩:=List.mem_map.1 hx
  exact Pk hv.files y)
 have h2:(Cd s pre).length≤pre.length:=by unfold Cd;rw[List.length_map];exact List.length_filter_le _ _
 rw[List.length_reverse]at h;have:(⟨#[47]⟩:AJ).size=1:=rfl;unfold Fq;omega
theorem Po{s:Spc}(hv:SpcV s)(a:AB):(Bd s a).1.size≤1000:=by
 unfold Bd;split
 ·have h3:=TP s (BU s.files) a;have h4:=TM hv.files;refine Nat.le_trans (ZE hv _) ?_;refine Nat.le_trans (Nat.add_le_add_left (Nat.mul_le_mul_left 13 ((List.takeWhile_sublist _).length_le)) 1) ?_;omega
 exact BO _
theorem TW(d:AJ)(h:0<d.size):d.data.toList.getLast?=some 47↔(((d[d.size - 1]'(by omega)).toNat:Int)=47):=by
 have hl:d.data.toList.length=d.size:=by simp
 rw[List.getLast?_eq_getElem?,hl,BQ (by omega)];show some (d[d.size - 1]'(by omega))=some 47↔_;rw[Option.some.injEq];constructor
 ·intro e;rw[e];rfl
 intro e;refine UInt8.toNat_inj.1 ?_;show _=47;omega
theorem ZF{d m:AJ}(h:¬0<d.size):Co d m=d++⟨#[47]⟩++m:=by
 refine if_neg fun e=>?_;have hl:d.data.toList.length=d.size:=by simp
 rw[List.getLast?_eq_getElem?,List.getElem?_eq_none (by omega)]at e;cases e
section
theorem TX(d m:AJ)(hd:d.size≤1000000)(hm:m.size≤1000000):AFn prog 196 [.v (.string d), .v (.string m)] (fun r=>r= .v (.string (Co d m))):=by
 refine enter Tryz.func196 rfl rfl rfl rfl rfl 0 rfl ?_;refine w_ (a_ (h:=e_ (q_ (w_ (m_ (h:=n_ (h:=Bf (h:=m_ (h:=?_)))))))));refine AU true rfl rfl (fun hb1=>?_) (fun hb1=>?_)
 ·have hc1:=bp hb1;refine m_ (h:=m_ (h:=n_ (h:=G8 (h:=?_))));refine Ax (Ha (n:=d.size - 1) Tryz.underlying9 rfl rfl (by omega) (by omega) ?_);refine AN (h:=AD (h:=e_ (?_)));refine A9 rfl (fun hb2=>?_) (fun hb2=>?_)
  ·have hc2:=bp hb2;refine w_ (m_ (h:=m_ (h:=?_)));refine A6 rfl (Dr rfl rfl (by omega) ?_);refine a_ (h:=e_ (A4 (A7 (?_))));refine A8 ?_;rw[show Co d m=d++m from if_pos ((TW d (by omega)).2 hc2)];rfl
  have hc2:=bp hb2;refine AA (w_ (m_ (h:=?_)));refine A6 rfl (Dr rfl rfl (by show d.size+1≤_;omega) ?_);refine m_ (h:=?_);refine A6 rfl (Dr rfl rfl (by rw[ByteArray.size_append];show d.size+1+m.size≤_;omega) ?_);refine a_ (h:=e_ (A4 (?_)));refine A8 ?_;rw[show Co d m=d++⟨#[47]⟩++m from if_neg (fun h=>hc2 ((TW d (by omega)).1 h))];rfl
 have hc1:=bp hb1;refine A3 (h:=A3 (h:=A3 (h:=A3 (h:=A3 (h:=A3 (h:=AG (h:=e_ (Bh (h:=AA (w_ (m_ (h:=?_))))))))))));refine A6 rfl (Dr rfl rfl (by show d.size+1≤_;omega) ?_);refine m_ (h:=?_);refine A6 rfl (Dr rfl rfl (by rw[ByteArray.size_append];show d.size+1+m.size≤_;omega) ?_);refine a_ (h:=e_ (A4 (?_)));refine A8 ?_;rw[ZF (by omega)];rfl
theorem ZG(s:Spc)(a:AB)(hs:SpcB s):AFn prog 248 [.agg (As s.files), .agg (AF a)] (fun r=>r= .v (.string (C1 s a))):=by
 have hen:=Kh hs.files (a.1,(At s.files a).parent);change (EO s a).entries.length≤1000 at hen;refine enter Tryz.func248 rfl rfl rfl rfl rfl 0 rfl ?_;refine w_ (b_ (h:=b_ (h:=a_ (h:=e_ (w_ (l_ (h:=l_ (h:=?_))))))));refine A6 rfl (AE (Eg s.files a hs.files) ?_);rintro r rfl
 skip
 refine m_ (h:=x_ (h:=x_ (h:=Aa (h:=s_ (h:=a_ (h:=e_ (w_ (l_ (h:=f_ (h:=l_ (h:=f_ (h:=l_ (h:=Ab (h:=?_))))))))))))));refine A6 rfl (AE (Eg s.files (a.1,(At s.files a).parent) hs.files) ?_);rintro r rfl
 skip
 refine m_ (h:=x_ (h:=x_ (h:=Aa (h:=s_ (h:=a_ (h:=e_ (q_ (w_ (a_ (h:=e_ (Af (?_))))))))))));refine BW (fun m t=>∃j:Nat,j≤(EO s a).entries.length∧m=(EO s a).entries.length - j∧(∀i y,i<j→(EO s a).entries[i]?=some y→decide (y.2=a.2)=false)∧t=⟨look [(3, .bp 1 0),(7, .bp 3 0),(9, .v (.int .i64 (j:Int)))],⟨[As s.files,AF a,Ao (At s.files a),Ao (EO s a)],[]⟩⟩) ((EO s a).entries.length) ((wk 4 0)) (⟨0,by omega,rfl,fun i y hi=>by omega,rfl⟩) ?_;rintro m t ⟨j,hj,rfl,ha,rfl⟩;refine q_ (w_ (m_ (h:=f_ (h:=l_ (h:=n_ (h:=B1 (h:=e_ (?_))))))));refine A9 rfl (fun hb1=>?_) (fun hb1=>?_)
 ·have hc1:=bp hb1;obtain⟨hlt,x,hy,hrow, -⟩:=Br CK hc1;refine AA (q_ (Af (q_ (DE 9 (h:=Az 0 (h:=AY 1 (h:=Ap 2 (h:=Dj 3 (h:=Az 4 (h:=AY 5 (h:=Az 6 (h:=AY 7 (h:=Fh 8 (h:=z_ (h:=t_ (?_))))))))))))))));refine A9 rfl (fun hb2=>?_) (fun hb2=>?_)
  ·have hc2:=bp hb2;refine w_ (f_ (h:=l_ (h:=m_ (h:=i_ (h:=f_ (h:=l_ (h:=a_ (h:=e_ (A4 (AR (A7 (A7 (AR (A7 (?_)))))))))))))));refine A8 ?_;rw[show C1 s a=x.1 by simp only[C1];rw[GX hy (by simpa using hc2) ha];rfl];rfl
  have hc2:=bp hb2;refine Av (Ai (t_ (AT (m_ (h:=B5 (h:=a_ (h:=AP (?_))))))));refine AK ?_;refine⟨_,_,?_,⟨j+1,by omega,rfl,FS hy ha (by simpa using hc2),rfl⟩,(wk 4 0)⟩;omega
 have hc1:=bp hb1;have e3:=C5 CK hj hc1;subst e3;refine BH (Ah (Ah (BJ (t_ (w_ (a_ (h:=e_ (A4 (?_)))))))));refine A8 ?_;rw[show C1 s a=⟨#[]⟩ by simp only[C1];rw[GY ha];rfl];rfl
end
def Ci(s:AJ):List AV:=[.v (.string s)]
theorem TY{P:Program}{ev:Operand→Option AV}{h:AH}{R:AV→AH→Prop}{d:Option Tmp}{ty:TypeId}{pos:String}{af:Array Edge}{gd:Option (Nat×Bool)}{T:TypeId}{x lo hi:Operand}{s:ByteArray}{a k:Nat}{i j:Int}(hu:P.underlying T=some .string)
    (hx:ev x=some (.v (.string s))) (hl:ev lo=some (.v (.int .i64 i))) (hh:ev hi=some (.v (.int .i64 j))) (hi':i=(a:Int)) (hj:j=(k:Int)) (h1:a≤k) (h2:k≤s.size) (hR:R (.v (.string (s.extract a k))) h):AStep P ⟨d, .slice T x (some lo) (some hi) none,ty,pos,af,gd⟩ ev h R:=by
 refine Cg (fun _ G w ec _ he=>?_) hR;have k1:=he x (by simp[Op.operands]) _ hx;have k2:=he lo (by simp[Op.operands]) _ hl;have k3:=he hi (by simp[Op.operands]) _ hh;simp only[rep]at k1 k2 k3;subst hi' hj;refine⟨.string (s.extract a k),?_,by simp only[rep]⟩;simp[execOp,k1,k2,k3,Instr.sliceAt,Instr.slice,Instr.sliceBounds,Instr.sliceBound,asIntOf,run_underlying hu,h1,h2]
def Ce(s:AJ):Bool:=decide (s.data.toList.head?=some 47)
def BB(s:AJ):Bool:=decide (s.data.toList.getLast?=some 47)
theorem NF{s:AJ}(h:0<s.size):Ce s=decide (((s[0]'h).toNat:Int)=47):=by
 unfold Ce;rw[Xb s h,Bool.eq_iff_iff];simp
theorem NG{s:AJ}(h:0<s.size):BB s=decide (((s[s.size - 1]'(by omega)).toNat:Int)=47):=by
 unfold BB;rw[Xc s h,Bool.eq_iff_iff];simp
theorem NH{s:AJ}(h:¬0<s.size):Ce s=false:=by
 have:s.data.toList=[]:=Cp (by rw[←Lib.size_eq];omega);unfold Ce;rw[this];rfl
theorem NJ{s:AJ}(h:¬0<s.size):BB s=false:=by
 have:s.data.toList=[]:=Cp (by rw[←Lib.size_eq];omega);unfold BB;rw[this];rfl
theorem TZ{s:AJ}{k:Nat}(h:k<s.size)(h47:((s[k]'h).toNat:Int)=47):s.data.toList[k]?=some 47:=by
 rw[Lib.data_getElem? s k h]
 congr 1
 refine UInt8.toNat_inj.1 ?_;show _=47;omega
theorem Ta{s:AJ}{f k:Nat}{ps:List AJ}(hI:Dg s.data.toList f k (C4 ps))(h:k=s.size∨s.data.toList[k]?=some 47):Dg s.data.toList (k+1) (k+1) (C4 ps++one_ ((s.data.toList.drop f).take (k - f))):=by
 rcases h with h|h
 ·rw[Lib.size_eq]at h;subst h;exact XX hI
 exact XW hI h
theorem Tc{s:AJ}{f k:Nat}{ps:List AJ}(hI:Dg s.data.toList f k (C4 ps))(hk:k≤s.size)(h:k=s.size∨s.data.toList[k]?=some 47)(hf:f<k):Dg s.data.toList (k+1) (k+1) (C4 (ps++[s.extract f k])):=Xd (Ta hI h) (XZ (Xa s hf hk))
theorem Td{s:AJ}{f k:Nat}{ps:List AJ}(hI:Dg s.data.toList f k (C4 ps))(h:k=s.size∨s.data.toList[k]?=some 47)(hf:¬f<k):Dg s.data.toList (k+1) (k+1) (C4 ps):=Xe (Ta hI h) (by omega)
theorem ZH{s:AJ}{f k:Nat}{ps:List AJ}(hI:Dg s.data.toList f k (C4 ps))(h:k<s.size)(h47:¬((s[k]'h).toNat:Int)=47):Dg s.data.toList f (k+1) (C4 ps):=XV hI (Lib.data_getElem? s k h) (fun e=>h47 (by rw[e];rfl))
theorem Te(ps:List AJ):ps.length≤(Cn (C4 ps)).length:=by
 induction ps with
 |nil=>simp
 |cons p ps ih=>
   have:C4 (p::ps)=p.data.toList::C4 ps:=rfl;rw[this,FW];simp;omega
theorem Pp{s:AJ}{ps:List AJ}(h:C4 ps=Bt s.data.toList){i:Nat}{x:AJ}(hx:ps[i]?=some x):x.size≤s.size:=by
 rw[Lib.size_eq,Lib.size_eq s];refine Xj ?_;rw[←h];exact List.mem_map.2 ⟨x,Ar hx,rfl⟩
theorem ZJ{ps:List AJ}{j:Nat}{x t:AJ}(hx:ps[j]?=some x)(h:t.data.toList=Cn ((C4 ps).take j)):(t++(⟨#[47]⟩++x)).data.toList=Cn ((C4 ps).take (j+1)):=by
 have e:(C4 ps)[j]?=some x.data.toList:=by unfold C4;rw[List.getElem?_map,hx];rfl
 rw[List.take_add_one,e,P9,←h];simp[Cn]
theorem LT{a b:AJ}(h:a.data.toList=b.data.toList):a=b:=ByteArray.ext (Array.toList_inj.1 h)
theorem ZK{s:AJ}{ps:List AJ}(h:C4 ps=Bt s.data.toList){i:Nat}{x:AJ}(hx:ps[i]?=some x)(hn:Cq x=false):D7 s.data.toList=false:=by
 rw[←PC];unfold L0;rw[←h];have:(C4 ps).all Df=false:=List.all_eq_false.2 ⟨x.data.toList,List.mem_map.2 ⟨x,Ar hx,rfl⟩,by rw[←My,hn];simp⟩;rw[this,Bool.false_and]
theorem ZL{s t1:AJ}{ps:List AJ}(h:C4 ps=Bt s.data.toList)(ha:∀(i:Nat) (y:AJ),i<ps.length→ps[i]?=some y→Cq y=true)(ht:t1.data.toList=Cn ((C4 ps).take ps.length))(h3:¬s=⟨#[47]⟩)(h0:0<ps.length):D7 s.data.toList=decide (s=t1):=by
 have hl:(C4 ps).length=ps.length:=by simp[C4]
 rw[List.take_of_length_le (by omega)]at ht;rw[←PC];unfold L0;rw[←h,←ht]
 have h1:(C4 ps).all Df=true:=List.all_eq_true.2 fun y hy=>by
  obtain⟨z,hz,rfl⟩:=List.mem_map.1 hy;obtain⟨i,hi⟩:=List.getElem?_of_mem hz;rw[←My];exact ha i z (Al.1 hi).1 hi
 have h2:decide (s.data.toList=[47])=false:=decide_eq_false fun e=>h3 (LT e);have h4:C4 ps≠[]:=fun e=>by rw[e]at hl;simp at hl;omega
 rw[h1,h2,decide_eq_true h4];simp only[Bool.true_and,Bool.false_or];rw[Bool.eq_iff_iff,decide_eq_true_iff,decide_eq_true_iff];exact⟨fun e=>LT e,fun e=>by rw[e]⟩
theorem ZM{s:AJ}{ps:List AJ}(h:C4 ps=Bt s.data.toList)(h3:¬s=⟨#[47]⟩)(h0:ps.length=0):D7 s.data.toList=false:=by
 have e:C4 ps=[]:=by rw[Cp h0];rfl
 rw[←PC];unfold L0;rw[←h,e];have h2:decide (s.data.toList=[47])=false:=decide_eq_false fun e=>h3 (LT e);rw[h2];simp
section
theorem Pq(s:AJ)(hs:s.size≤100000):AFn prog 191 [.v (.string s)] (fun r=>∃ps:List AJ,C4 ps=Bt s.data.toList∧r= .tup [.sl 1 (ps.map Ci) none, .v (.bool (Ce s)), .v (.bool (BB s))]):=by
 have hsz:=Lib.size_eq s;refine enter Tryz.func191 rfl rfl rfl rfl rfl 0 rfl ?_;refine w_ (a_ (h:=a_ (h:=a_ (h:=e_ (w_ (a_ (h:=e_ (w_ (a_ (h:=e_ (q_ (w_ (a_ (h:=e_ (Af (?_))))))))))))))));refine JY 5 9 1 rfl (by repeat constructor) ?_;refine BW (fun m t=>∃(f k:Nat) (ps:List AJ),k≤s.size+1∧f≤k∧ps.length≤k∧m=s.size+1 - k∧Dg s.data.toList f k (C4 ps)∧t=⟨look [(0, .v (.string s)),(5, .sl 1 (ps.map Ci) (some 0)),(6, .v (.int .i64 (f:Int))),(7, .v (.int .i64 (k:Int)))],⟨[],[(9,1,ps.map Ci)]⟩⟩) (s.size+1) ((wk 0 1)) (⟨0,0,[],by omega,by omega,by simp,rfl,XY _,rfl⟩) ?_;rintro m t ⟨f,k,ps,hk,hfk,hpl,rfl,hI,rfl⟩;refine q_ (w_ (m_ (h:=m_ (h:=n_ (h:=EJ (h:=e_ (?_)))))));refine A9 rfl (fun hb1=>?_) (fun hb1=>?_)
 ·have hc1:=bp hb1;refine AA (q_ (Af (w_ (m_ (h:=m_ (h:=n_ (h:=AN (h:=m_ (h:=?_)))))))));refine AU false rfl rfl (fun hb2=>?_) (fun hb2=>?_)
  ·have hc2:=bp hb2;refine A3 (h:=A3 (h:=A3 (h:=A3 (h:=AD (h:=e_ (B6 (h:=q_ (w_ (m_ (h:=m_ (h:=Bf (h:=e_ (?_)))))))))))));refine A9 rfl (fun hb3=>?_) (fun hb3=>?_)
   ·have hc3:=bp hb3;have hnx:=Tc hI (by omega) (.inl (by omega)) (by omega);refine AT (m_ (h:=m_ (h:=m_ (h:=m_ (h:=?_)))));refine A6 rfl (TY (a:=f) (k:=k) Tryz.underlying9 rfl rfl rfl rfl rfl (by omega) (by omega) ?_);refine Bc (h:=?_)
    first|refine A6 rfl (E0 rfl rfl rfl (by simp;omega) (by repeat constructor) ?_)|refine A6 rfl (E1 rfl rfl (by simp;omega) (by repeat constructor) ?_)
    refine a_ (h:=e_ (AT (m_ (h:=B5 (h:=a_ (h:=AP (Ai (t_ (AT (m_ (h:=B5 (h:=a_ (h:=AP (?_))))))))))))));refine AK ?_;refine⟨_,_,?_,⟨_,k+1,_,by omega,by omega,(by(try simp only[List.length_append,List.length_cons,List.length_nil]);omega),rfl,hnx,rfl⟩,(by(try simp only[List.map_append,List.map_cons,List.map_nil]);exact Ay 0 1 rfl rfl rfl rfl ((by repeat (first|exact Sub.nil|refine B0 rfl rfl ?_|refine B2 ?_|refine B3 rfl ?_|refine B4 rfl ?_))))⟩;omega
   have hc3:=bp hb3;have hnx:=Td hI (.inl (by omega)) (by omega);refine AA (AT (m_ (h:=B5 (h:=a_ (h:=AP (Ai (t_ (AT (m_ (h:=B5 (h:=a_ (h:=AP (?_)))))))))))));refine AK ?_;refine⟨_,_,?_,⟨_,k+1,_,by omega,by omega,(by(try simp only[List.length_append,List.length_cons,List.length_nil]);omega),rfl,hnx,rfl⟩,(by(try simp only[List.map_append,List.map_cons,List.map_nil]);exact Ay 0 1 rfl rfl rfl rfl ((by repeat (first|exact Sub.nil|refine B0 rfl rfl ?_|refine B2 ?_|refine B3 rfl ?_|refine B4 rfl ?_))))⟩;omega
  have hc2:=bp hb2;refine m_ (h:=m_ (h:=?_));refine Ax (Ha (n:=k) Tryz.underlying9 rfl rfl rfl (by omega) ?_);refine AN (h:=AG (h:=e_ (?_)));refine A9 rfl (fun hb4=>?_) (fun hb4=>?_)
  ·have hc4:=bp hb4;refine q_ (w_ (m_ (h:=m_ (h:=Bf (h:=e_ (?_))))));refine A9 rfl (fun hb5=>?_) (fun hb5=>?_)
   ·have hc5:=bp hb5;have hnx:=Tc hI (by omega) (.inr (TZ (by omega) hc4)) (by omega);refine AT (m_ (h:=m_ (h:=m_ (h:=m_ (h:=?_)))));refine A6 rfl (TY (a:=f) (k:=k) Tryz.underlying9 rfl rfl rfl rfl rfl (by omega) (by omega) ?_);refine Bc (h:=?_)
    first|refine A6 rfl (E0 rfl rfl rfl (by simp;omega) (by repeat constructor) ?_)|refine A6 rfl (E1 rfl rfl (by simp;omega) (by repeat constructor) ?_)
    refine a_ (h:=e_ (AT (m_ (h:=B5 (h:=a_ (h:=AP (Ai (t_ (AT (m_ (h:=B5 (h:=a_ (h:=AP (?_))))))))))))));refine AK ?_;refine⟨_,_,?_,⟨_,k+1,_,by omega,by omega,(by(try simp only[List.length_append,List.length_cons,List.length_nil]);omega),rfl,hnx,rfl⟩,(by(try simp only[List.map_append,List.map_cons,List.map_nil]);exact Ay 0 1 rfl rfl rfl rfl ((by repeat (first|exact Sub.nil|refine B0 rfl rfl ?_|refine B2 ?_|refine B3 rfl ?_|refine B4 rfl ?_))))⟩;omega
   have hc5:=bp hb5;have hnx:=Td hI (.inr (TZ (by omega) hc4)) (by omega);refine AA (AT (m_ (h:=B5 (h:=a_ (h:=AP (Ai (t_ (AT (m_ (h:=B5 (h:=a_ (h:=AP (?_)))))))))))));refine AK ?_;refine⟨_,_,?_,⟨_,k+1,_,by omega,by omega,(by(try simp only[List.length_append,List.length_cons,List.length_nil]);omega),rfl,hnx,rfl⟩,(by(try simp only[List.map_append,List.map_cons,List.map_nil]);exact Ay 0 1 rfl rfl rfl rfl ((by repeat (first|exact Sub.nil|refine B0 rfl rfl ?_|refine B2 ?_|refine B3 rfl ?_|refine B4 rfl ?_))))⟩;omega
  have hc4:=bp hb4;have hnx:=ZH hI (by omega) hc4;refine Av (Ai (t_ (AT (m_ (h:=B5 (h:=a_ (h:=AP (?_))))))));refine AK ?_;refine⟨_,_,?_,⟨_,k+1,_,by omega,by omega,(by(try simp only[List.length_append,List.length_cons,List.length_nil]);omega),rfl,hnx,rfl⟩,(by(try simp only[List.map_append,List.map_cons,List.map_nil]);exact Ay 0 1 rfl rfl rfl rfl ((by repeat (first|exact Sub.nil|refine B0 rfl rfl ?_|refine B2 ?_|refine B3 rfl ?_|refine B4 rfl ?_))))⟩;omega
 have hc1:=bp hb1;refine BH (Ah (Ah (BJ (t_ (q_ (DE 23 (h:=Ap 0 (h:=Ap 1 (h:=H4 2 (h:=OW 3 (h:=Ap 4 (h:=?_))))))))))));refine Ht (j:=4) rfl (fun hb6=>?_) (fun hb6=>?_)
 ·have hc6:=bp hb6;refine Ap 5 (h:=?_);refine EV (i:=6) rfl (Ha (n:=0) Tryz.underlying9 rfl rfl rfl (by omega) ⟨rfl,rfl⟩) ?_;refine Fh 7 (h:=H5 8 (h:=Ap 9 (h:=H4 10 (h:=OW 11 (h:=Ap 12 (h:=?_))))));refine Ht (j:=12) rfl (fun hb7=>?_) (fun hb7=>?_)
  ·have hc7:=bp hb7;refine Ap 13 (h:=Ap 14 (h:=H4 15 (h:=OU 16 (h:=?_))));refine EV (i:=17) rfl (Ha (n:=s.size - 1) Tryz.underlying9 rfl rfl (by omega) (by omega) ⟨rfl,rfl⟩) ?_;refine Fh 18 (h:=H5 19 (h:=BN 20 (h:=BN 21 (h:=BN 22 (h:=z_ (h:=t_ (A4 (?_))))))));refine A8 ?_;refine⟨ps,Mx hI (by omega),?_⟩
   first|(rw[NF (by omega),NG (by omega)];rfl)|(rw[NH (by omega),NJ (by omega)];rfl)|(exfalso;omega)
  have hc7:=bp hb7;refine Be 13 (h:=Be 14 (h:=Be 15 (h:=Be 16 (h:=Be 17 (h:=Be 18 (h:=H6 19 (h:=BN 20 (h:=BN 21 (h:=BN 22 (h:=z_ (h:=t_ (A4 (?_)))))))))))));refine A8 ?_;refine⟨ps,Mx hI (by omega),?_⟩
  first|(rw[NF (by omega),NG (by omega)];rfl)|(rw[NH (by omega),NJ (by omega)];rfl)|(exfalso;omega)
 have hc6:=bp hb6;refine Be 5 (h:=Be 6 (h:=Be 7 (h:=H6 8 (h:=Ap 9 (h:=H4 10 (h:=OW 11 (h:=Ap 12 (h:=?_))))))));refine Ht (j:=12) rfl (fun hb8=>?_) (fun hb8=>?_)
 ·have hc8:=bp hb8;refine Ap 13 (h:=Ap 14 (h:=H4 15 (h:=OU 16 (h:=?_))));refine EV (i:=17) rfl (Ha (n:=s.size - 1) Tryz.underlying9 rfl rfl (by omega) (by omega) ⟨rfl,rfl⟩) ?_;refine Fh 18 (h:=H5 19 (h:=BN 20 (h:=BN 21 (h:=BN 22 (h:=z_ (h:=t_ (A4 (?_))))))));refine A8 ?_;refine⟨ps,Mx hI (by omega),?_⟩
  first|(rw[NF (by omega),NG (by omega)];rfl)|(rw[NH (by omega),NJ (by omega)];rfl)|(exfalso;omega)
 have hc8:=bp hb8;refine Be 13 (h:=Be 14 (h:=Be 15 (h:=Be 16 (h:=Be 17 (h:=Be 18 (h:=H6 19 (h:=BN 20 (h:=BN 21 (h:=BN 22 (h:=z_ (h:=t_ (A4 (?_)))))))))))));refine A8 ?_;refine⟨ps,Mx hI (by omega),?_⟩
 first|(rw[NF (by omega),NG (by omega)];rfl)|(rw[NH (by omega),NJ (by omega)];rfl)|(exfalso;omega)
theorem NK(s:AJ)(hs:s.size≤50000):AFn prog 156 [.v (.string s)] (fun r=>r= .v (.bool (D7 s.data.toList))):=by
 have hsz:=Lib.size_eq s;refine enter Tryz.func156 rfl rfl rfl rfl rfl 0 rfl ?_;refine w_ (a_ (h:=e_ (w_ (m_ (h:=?_)))));refine A6 rfl (AE (Pq s (by omega)) ?_);rintro r ⟨ps,hps,rfl⟩;have hpl:(ps.map Ci).length=ps.length:=by simp
 have hfl:=PF s.data.toList;rw[←hps]at hfl;have hpm:=Te ps;refine m_ (h:=x_ (h:=x_ (h:=x_ (h:=a_ (h:=a_ (h:=a_ (h:=e_ (w_ (a_ (h:=e_ (q_ (w_ (a_ (h:=e_ (Af (?_))))))))))))))));refine BW (fun m t=>∃(j:Nat) (t1:AJ),j≤ps.length∧m=ps.length - j∧(∀i y,i<j→ps[i]?=some y→Cq y=true)∧t1.data.toList=Cn ((C4 ps).take j)∧t=⟨look [(0, .v (.string s)),(3, .sl 1 (ps.map Ci) none),(6, .v (.string t1)),(7, .v (.int .i64 (j:Int)))],⟨[],[]⟩⟩) (ps.length) ((wk 0 0)) (⟨0,⟨#[]⟩,by omega,rfl,fun i y hi=>by omega,rfl,rfl⟩) ?_;rintro m t ⟨j,t1,hj,rfl,ha,ht1,rfl⟩;refine q_ (w_ (m_ (h:=m_ (h:=n_ (h:=B1 (h:=e_ (?_)))))));refine A9 rfl (fun hb1=>?_) (fun hb1=>?_)
 ·have hc1:=bp hb1;obtain⟨hlt,x,hy,hrow, -⟩:=Br Ci hc1;have ht2:t1.size≤s.size+1:=by rw[Lib.size_eq,ht1];exact Nat.le_trans (Xi _ _) (by omega)
  refine AA (q_ (Af (q_ (w_ (m_ (h:=m_ (h:=?_)))))));refine A6 rfl (Dc (n:=j) rfl rfl rfl hrow ?_);refine l_ (h:=?_);refine A6 rfl (AE (OZ x (by have:=Pp hps hy;omega)) ?_);rintro r rfl;refine B7 (h:=e_ (?_));refine A9 rfl (fun hb2=>?_) (fun hb2=>?_)
  ·have hc2:=bp hb2;refine w_ (a_ (h:=e_ (A4 (A7 (AR (A7 (A7 (AR (A7 (?_))))))))));refine A8 ?_;exact vb (ZK hps hy hc2).symm
  have hc2:=bp hb2;refine AA (AT (m_ (h:=m_ (h:=m_ (h:=?_)))));refine A6 rfl (Dc (n:=j) rfl rfl rfl hrow ?_);refine l_ (h:=?_);refine A6 rfl (Dr rfl rfl (by have:=Pp hps hy;show 1+x.size≤_;omega) ?_);refine A6 rfl (Dr rfl rfl (by have:=Pp hps hy;rw[ByteArray.size_append];show t1.size+(1+x.size)≤_;omega) ?_);refine a_ (h:=AP (Ai (t_ (AT (m_ (h:=B5 (h:=a_ (h:=AP (?_)))))))));refine AK ?_;refine⟨_,_,?_,⟨j+1,t1++(⟨#[47]⟩++x),by omega,rfl,FS hy ha hc2,ZJ hy ht1,rfl⟩,(wk 0 0)⟩;omega
 have hc1:=bp hb1;refine BH (Ah (Ah (BJ (t_ (w_ (m_ (h:=AN (h:=m_ (h:=?_)))))))));refine AU false rfl rfl (fun hb3=>?_) (fun hb3=>?_)
 ·have hc3:=bp hb3;refine A3 (h:=A3 (h:=A3 (h:=A3 (h:=AX (h:=AX (h:=AX (h:=A3 (h:=AD (h:=a_ (h:=e_ (A4 (?_))))))))))));refine A8 ?_;exact vb (by rw[hc3];rfl)
 have hc3:=bp hb3;refine m_ (h:=n_ (h:=Bf (h:=m_ (h:=?_))));refine AU true rfl rfl (fun hb4=>?_) (fun hb4=>?_)
 ·have hc4:=bp hb4;refine m_ (h:=m_ (h:=AN (h:=AD (h:=AG (h:=a_ (h:=e_ (A4 (?_))))))));refine A8 ?_;have e:=C5 Ci hj hc1;subst e;exact vb (ZL hps ha ht1 hc3 (by omega)).symm
 have hc4:=bp hb4;refine A3 (h:=A3 (h:=A3 (h:=AG (h:=AG (h:=a_ (h:=e_ (A4 (?_))))))));refine A8 ?_;have e:=C5 Ci hj hc1;subst e;exact vb (ZM hps hc3 (by omega)).symm
end
theorem Tf{f:Ac}{a:AB}(h:Aq f a=true):(At f a).ino=a.2:=by
 obtain⟨q,d,m,_,_,_,h4,h5,_⟩:=Hm (f:=f) (a:=a) (by rw[h];simp);rw[h5,h4]
theorem Pr{s:Spc}{d:Int}(h:(Bn s d).isSome=true):Bn s d=some ((Bn s d).getD (0,0)):=by
 cases ho:Bn s d with
 |none=>rw[ho]at h;cases h
 |some o=>rfl
theorem ZN{s:Spc}{d:Int}(h:(Bn s d).isSome=false):Bn s d=none:=by
 cases ho:Bn s d with
 |none=>rfl
 |some o=>rw[ho]at h;cases h
theorem NL{s:Spc}{a:AB}(k:Nat)(h:Aq s.files a=false):D8 s (k+1) a=(0,0):=by unfold D8;rw[h];rfl
theorem Ps{s:Spc}{a:AB}(k:Nat)(h:Aq s.files a=true)(h1:¬a.2=1):D8 s (k+1) a=(a.1,(At s.files a).parent):=by unfold D8;rw[if_pos h,if_pos h1]
theorem Pt{s:Spc}{a:AB}(k:Nat)(h:Aq s.files a=true)(h1:a.2=1)(ho:(Bn s a.1).isSome=true):D8 s (k+1) a=D8 s k ((Bn s a.1).getD (0,0)):=by
 conv=>lhs;unfold D8
 rw[if_pos h,if_neg (by simpa using h1),Pr ho];rfl
theorem Pu{s:Spc}{a:AB}(k:Nat)(h:Aq s.files a=true)(h1:a.2=1)(ho:(Bn s a.1).isSome=false):D8 s (k+1) a=a:=by
 conv=>lhs;unfold D8
 rw[if_pos h,if_neg (by simpa using h1),ZN ho]
section
theorem Tg{s:Spc}(hs:SpcB s)(hv:SpcV s)(a:AB)
    (hrec:Aq s.files a=true→∀b,Cc s a=some b→AFn prog 195 [.agg (Ag s), .agg (AF b)] (fun r=>r= .tup [.v (.string (Bd s b).1), .v (.bool (Bd s b).2)])):
    AFn prog 195 [.agg (Ag s), .agg (AF a)] (fun r=>r= .tup [.v (.string (Bd s a).1), .v (.bool (Bd s a).2)]):=by
 have hnm:=Pk hv.files a;have hwz:=Po hv;refine enter Tryz.func195 rfl rfl rfl rfl rfl 0 rfl ?_;refine w_ (b_ (h:=b_ (h:=a_ (h:=a_ (h:=e_ (q_ (w_ (f_ (h:=l_ (h:=l_ (h:=?_)))))))))));refine A6 rfl (AE (GW s.files a hs.files) ?_);rintro r rfl;refine B7 (h:=m_ (h:=?_));refine AU false rfl rfl (fun hb1=>?_) (fun hb1=>?_)
 ·have hc1:=bp hb1;refine A3 (h:=A3 (h:=A3 (h:=A3 (h:=A3 (h:=AD (h:=e_ (B6 (h:=w_ (a_ (h:=a_ (h:=e_ (A4 (A7 (?_))))))))))))));refine A8 ?_
  first|(rw[K6 hv (by simp_all)];rfl)|(rw[hw1];first|rfl|(rw[←hw2];rfl))|(rw[h00,LS hv (by rw[←h00];exact hc1)];rfl)
 have hc1:=bp hb1;refine l_ (h:=f_ (h:=l_ (h:=?_)));refine Ax (AE (Od s a.1 hs) ?_);rintro r rfl;refine B7 (h:=AG (h:=e_ (?_)));refine A9 rfl (fun hb2=>?_) (fun hb2=>?_)
 ·have hc2:=bp hb2;refine w_ (a_ (h:=a_ (h:=e_ (A4 (A7 (?_))))));refine A8 ?_
  first|(rw[K6 hv (by simp_all)];rfl)|(rw[hw1];first|rfl|(rw[←hw2];rfl))|(rw[h00,LS hv (by rw[←h00];exact hc1)];rfl)
 have hc2:=bp hb2;refine AA (q_ (w_ (f_ (h:=l_ (h:=AN (h:=e_ (?_)))))));refine A9 rfl (fun hb3=>?_) (fun hb3=>?_)
 ·have hc3:=bp hb3;refine q_ (w_ (l_ (h:=f_ (h:=l_ (h:=?_)))));refine A6 rfl (AE (Oc s a.1 hs) ?_);rintro r rfl;refine m_ (h:=x_ (h:=x_ (h:=Aa (h:=s_ (h:=a_ (h:=e_ (w_ (m_ (h:=e_ (?_))))))))));refine A9 rfl (fun hb4=>?_) (fun hb4=>?_)
  ·have hc4:=bp hb4;have hst:Cc s a=some ((Bn s a.1).getD (0,0)):=by unfold Cc;rw[if_neg (by simpa using hc3)];exact Pr hc4
   obtain⟨hw1,hw2⟩:=TQ hv hc1 hc2 (fun e=>by rw[e,Pn hv]at hc4;cases hc4) hst;rw[if_pos hc3]at hw1;refine w_ (l_ (h:=l_ (h:=?_)));refine A6 rfl (AE (hrec hc1 _ hst) ?_);rintro r rfl
   skip
   refine x_ (h:=x_ (h:=a_ (h:=a_ (h:=e_ (A4 (A7 (A7 (?_))))))));refine A8 ?_
   first|(rw[K6 hv (by simp_all)];rfl)|(rw[hw1];first|rfl|(rw[←hw2];rfl))|(rw[h00,LS hv (by rw[←h00];exact hc1)];rfl)
  have hc4:=bp hb4
  have h00:a=(0,1):=by
   refine Prod.ext ?_ hc3;have:=hc2;unfold C6 at this;rw[hc4,Bool.false_or]at this;exact of_decide_eq_true this
  refine AA (w_ (a_ (h:=a_ (h:=e_ (A4 (A7 (?_)))))));refine A8 ?_
  first|(rw[K6 hv (by simp_all)];rfl)|(rw[hw1];first|rfl|(rw[←hw2];rfl))|(rw[h00,LS hv (by rw[←h00];exact hc1)];rfl)
 have hc3:=bp hb3;have hst:Cc s a=some (a.1,(At s.files a).parent):=if_pos hc3;obtain⟨hw1,hw2⟩:=TQ hv hc1 hc2 (fun e=>hc3 (by rw[e])) hst;rw[if_neg hc3]at hw1;refine AA (w_ (f_ (h:=l_ (h:=l_ (h:=?_)))));refine A6 rfl (AE (Eg s.files a hs.files) ?_);rintro r rfl;refine m_ (h:=x_ (h:=x_ (h:=Aa (h:=s_ (h:=a_ (h:=e_ (w_ (l_ (h:=f_ (h:=l_ (h:=f_ (h:=l_ (h:=Ab (h:=?_))))))))))))));refine A6 rfl (AE (hrec hc1 _ hst) ?_);rintro r rfl
 skip
 refine m_ (h:=x_ (h:=x_ (h:=a_ (h:=a_ (h:=e_ (w_ (m_ (h:=f_ (h:=l_ (h:=l_ (h:=?_)))))))))));refine A6 rfl (AE (ZG s a hs) ?_);rintro r rfl;refine A6 rfl (AE (TX (Bd s (a.1,(At s.files a).parent)).1 (C1 s a) (by have:=hwz (a.1,(At s.files a).parent);omega) (by omega)) ?_);rintro r rfl;refine m_ (h:=a_ (h:=a_ (h:=e_ (A4 (?_)))));refine A8 ?_
 first|(rw[K6 hv (by simp_all)];rfl)|(rw[hw1];first|rfl|(rw[←hw2];rfl))|(rw[h00,LS hv (by rw[←h00];exact hc1)];rfl)
theorem ZO{s:Spc}(hs:SpcB s)(hv:SpcV s)(a:AB):AFn prog 195 [.agg (Ag s), .agg (AF a)] (fun r=>r= .tup [.v (.string (Bd s a).1), .v (.bool (Bd s a).2)]):=by
 have key:∀(k:Nat) (a:AB),ED s k a→AFn prog 195 [.agg (Ag s), .agg (AF a)] (fun r=>r= .tup [.v (.string (Bd s a).1), .v (.bool (Bd s a).2)]):=by
  intro k
  induction k with
  |zero=>intro a h;exact Tg hs hv a fun hd=>by rw[show Aq s.files a=false from h]at hd;cases hd
  |succ k ih=>intro a h;exact Tg hs hv a fun hd b hb=>ih b (h.resolve_left (by rw[hd];simp) b hb)
 exact key _ a (GJ hv a)
theorem ZP{s:Spc}(hs:SpcB s)(a:AB)(p:Nat)(hrec:(Bn s a.1).isSome=true→AFn prog 194 [.agg (Ag s), .agg (AF ((Bn s a.1).getD (0,0)))] (fun r=>r= .agg (AF (D8 s p ((Bn s a.1).getD (0,0)))))):
    AFn prog 194 [.agg (Ag s), .agg (AF a)] (fun r=>r= .agg (AF (D8 s (p+1) a))):=by
 have hde:=FU s.files a;refine enter Tryz.func194 rfl rfl rfl rfl rfl 0 rfl ?_;refine w_ (b_ (h:=b_ (h:=Aa (h:=e_ (w_ (f_ (h:=l_ (h:=l_ (h:=?_)))))))));refine A6 rfl (AE (Eg s.files a hs.files) ?_);rintro r rfl;refine m_ (h:=x_ (h:=x_ (h:=Aa (h:=s_ (h:=a_ (h:=e_ (q_ (w_ (m_ (h:=B7 (h:=m_ (h:=?_))))))))))));refine AU false rfl rfl (fun hb1=>?_) (fun hb1=>?_)
 ·have hc1:=bp hb1;refine A3 (h:=A3 (h:=A3 (h:=AD (h:=e_ (B6 (h:=w_ (Ab (h:=s_ (h:=e_ (A4 (A7 (?_))))))))))));refine A8 ?_;rw[NL p (by rw[hde,hc1];rfl)];rfl
 have hc1:=bp hb1;refine f_ (h:=l_ (h:=Aj (h:=AG (h:=e_ (?_)))));refine A9 rfl (fun hb2=>?_) (fun hb2=>?_)
 ·have hc2:=bp hb2;refine w_ (Ab (h:=s_ (h:=e_ (A4 (A7 (?_))))));refine A8 ?_;rw[NL p (by rw[hde,decide_eq_false hc2,Bool.and_false])];rfl
 have hc2:=bp hb2;refine AA (q_ (w_ (f_ (h:=l_ (h:=Aj (h:=e_ (?_)))))));refine A9 rfl (fun hb3=>?_) (fun hb3=>?_)
 ·have hc3:=bp hb3;refine w_ (f_ (h:=l_ (h:=f_ (h:=l_ (h:=Ab (h:=s_ (h:=e_ (A4 (A7 (?_))))))))));refine A8 ?_;rw[Ps p (by rw[hde,hc1,decide_eq_true hc2];rfl) hc3];rfl
 have hc3:=bp hb3;refine AA (q_ (w_ (l_ (h:=f_ (h:=l_ (h:=?_))))));refine A6 rfl (AE (Oc s a.1 hs) ?_);rintro r rfl;refine m_ (h:=x_ (h:=x_ (h:=Aa (h:=s_ (h:=a_ (h:=e_ (w_ (m_ (h:=e_ (?_))))))))));refine A9 rfl (fun hb4=>?_) (fun hb4=>?_)
 ·have hc4:=bp hb4;refine w_ (l_ (h:=l_ (h:=?_)));refine A6 rfl (AE (hrec hc4) ?_);rintro r rfl;refine s_ (h:=e_ (A4 (A7 (?_))));refine A8 ?_;rw[Pt p (by rw[hde,hc1,decide_eq_true hc2];rfl) hc3 hc4];rfl
 have hc4:=bp hb4;refine AA (w_ (l_ (h:=s_ (h:=e_ (A4 (?_))))));refine A8 ?_;rw[Pu p (by rw[hde,hc1,decide_eq_true hc2];rfl) hc3 hc4];rfl
theorem ZQ{s:Spc}(hs:SpcB s)(hv:SpcV s):∀(p:Nat) (a:AB),Hn s a.1<p→AFn prog 194 [.agg (Ag s), .agg (AF a)] (fun r=>r= .agg (AF (D8 s p a))):=by
 intro p
 induction p with
 |zero=>intro a h;omega
 |succ p ih=>intro a hp;exact ZP hs a p fun ho=>ih _ (by have:=TB hv (Pr ho);omega)
theorem ZR{s:Spc}(hs:SpcB s)(hv:SpcV s)(a:AB):AFn prog 265 [.agg (Ag s), .agg (AF a)] (fun r=>r= .agg (AF (D8 s (s.mounts.length+1) a))):=by
 have hfew:=hs.few;have hml:(s.mounts.map Cr).length=s.mounts.length:=by simp
 refine enter Tryz.func265 rfl rfl rfl rfl rfl 0 rfl ?_;refine w_ (b_ (h:=b_ (h:=Aa (h:=e_ (q_ (w_ (f_ (h:=l_ (h:=n_ (h:=B5 (h:=m_ (h:=e_ (Af (?_))))))))))))));refine BW (fun m t=>∃(j:Nat) (b:AB),j≤s.mounts.length+1∧m=s.mounts.length+1 - j∧D8 s (s.mounts.length+1 - j) b=D8 s (s.mounts.length+1) a∧t=⟨look [(2, .bp 0 0),(3, .bp 1 0),(4, .bp 2 0),(11, .v (.int .i64 (((s.mounts.map Cr).length:Int)+1))),(12, .v (.int .i64 (j:Int)))],⟨[Ag s,AF b,[.v (.int .i64 0), .v (.int .i64 0)]],[]⟩⟩) (s.mounts.length+1) ((wk 3 0)) (⟨0,a,by omega,rfl,rfl,rfl⟩) ?_;rintro m t ⟨j,b,hj,rfl,hit,rfl⟩;have hde:=FU s.files b;refine w_ (B1 (h:=e_ (q_ (?_))));refine A9 rfl (fun hb1=>?_) (fun hb1=>?_)
 ·have hc1:=bp hb1;obtain⟨k,hk⟩:∃k,s.mounts.length+1 - j=k+1:=⟨s.mounts.length - j,by omega⟩;rw[hk]at hit;refine AA (q_ (Af (w_ (f_ (h:=l_ (h:=l_ (h:=?_)))))));refine A6 rfl (AE (GA s.files b hs.files) ?_);rintro r rfl;refine m_ (h:=x_ (h:=x_ (h:=Aa (h:=s_ (h:=a_ (h:=e_ (q_ (w_ (m_ (h:=B7 (h:=m_ (h:=?_))))))))))));refine AU false rfl rfl (fun hb2=>?_) (fun hb2=>?_)
  ·have hc2:=bp hb2;refine A3 (h:=A3 (h:=A3 (h:=AD (h:=e_ (B6 (h:=w_ (Ab (h:=s_ (h:=e_ (A4 (A7 (AR (A7 (A7 (AR (A7 (?_)))))))))))))))));refine A8 ?_;rw[←hit,NL k (by rw[hde,hc2];rfl)];rfl
  have hc2:=bp hb2;refine f_ (h:=l_ (h:=Aj (h:=AG (h:=e_ (?_)))));refine A9 rfl (fun hb3=>?_) (fun hb3=>?_)
  ·have hc3:=bp hb3;refine w_ (Ab (h:=s_ (h:=e_ (A4 (A7 (AR (A7 (A7 (AR (A7 (?_)))))))))));refine A8 ?_;rw[←hit,NL k (by rw[hde,decide_eq_false hc3,Bool.and_false])];rfl
  have hc3:=bp hb3;refine AA (q_ (w_ (f_ (h:=l_ (h:=Aj (h:=e_ (?_)))))));refine A9 rfl (fun hb4=>?_) (fun hb4=>?_)
  ·have hc4:=bp hb4;have hdd:Aq s.files b=true:=by rw[hde,hc2,decide_eq_true hc3];rfl
   have hb1:¬b.2=1:=by rw[←Tf hdd];exact hc4
   refine w_ (f_ (h:=l_ (h:=f_ (h:=l_ (h:=Ab (h:=s_ (h:=e_ (A4 (A7 (AR (A7 (A7 (AR (A7 (?_)))))))))))))));refine A8 ?_;rw[←hit,Ps k hdd hb1];rfl
  have hc4:=bp hb4;have hdd:Aq s.files b=true:=by rw[hde,hc2,decide_eq_true hc3];rfl
  have hb1:b.2=1:=by rw[←Tf hdd];exact hc4
  refine AA (w_ (l_ (h:=f_ (h:=l_ (h:=?_)))));refine A6 rfl (AE (Oe s b.1 hs) ?_);rintro r rfl;refine m_ (h:=x_ (h:=x_ (h:=Aa (h:=s_ (h:=a_ (h:=e_ (q_ (w_ (m_ (h:=B7 (h:=m_ (h:=?_))))))))))));refine AU false rfl rfl (fun hb5=>?_) (fun hb5=>?_)
  ·have hc5:=bp hb5;refine A3 (h:=A3 (h:=A3 (h:=AD (h:=e_ (B6 (h:=w_ (l_ (h:=s_ (h:=e_ (A4 (A7 (AR (A7 (A7 (AR (A7 (?_)))))))))))))))));refine A8 ?_;rw[←hit,Pu k hdd hb1 hc5];rfl
  have hc5:=bp hb5;refine f_ (h:=l_ (h:=AN (h:=AG (h:=e_ (?_)))));refine A9 rfl (fun hb6=>?_) (fun hb6=>?_)
  ·have hc6:=bp hb6;refine w_ (l_ (h:=s_ (h:=e_ (A4 (A7 (AR (A7 (A7 (AR (A7 (?_)))))))))));refine A8 ?_;exfalso;rw[hc6,Pn hv]at hc5;cases hc5
  have hc6:=bp hb6;refine AA (AT (l_ (h:=s_ (h:=AP (Ai (t_ (AT (B5 (h:=m_ (h:=AP (?_)))))))))));refine AK ?_;refine⟨_,_,?_,⟨j+1,((Bn s b.1).getD (0,0)),by omega,rfl,(by rw[←hit,Pt k hdd hb1 hc5,show s.mounts.length+1 - (j+1)=k by omega]),rfl⟩,(wk 3 0)⟩;omega
 have hc1:=bp hb1;refine BH (Ah (Ah (BJ (t_ (w_ (l_ (h:=s_ (h:=e_ (A4 (?_))))))))));refine A8 ?_;have ej:s.mounts.length+1 - j=0:=by omega
 rw[ej]at hit;rw[←hit];rfl
end
end Go.Proofs.YtbgnigjfkbmceaaGreatDoor
namespace Go.Proofs.YtbgnigjfkbmceaaGreatDoor
section
variable {s:Spc}(hv:SpcV s)
include hv
omit hv in
theorem K7{a:AB}(h:(Bd s a).2=true):Aq s.files a=true∧C6 s a.1=true:=by
 unfold Bd at h;split at h
 ·rename_i c;exact⟨c.1,c.2.1⟩
 cases h
theorem Pv{d:Int}(h0:0≤d)(h1:d<(s.files.length:Int)):Aq s.files (d,1)=true:=by
 obtain⟨q,rfl⟩:=Int.eq_ofNat_of_zero_le h0;have hq:s.files[q]?=some s.files[q]:=BQ (by omega);obtain⟨r,rest,hr,h2,h3,_⟩:=(hv.files.vd _ (Ar hq)).root;exact(JK (Pl hv hq (by rw[hr];exact List.mem_cons_self ..) h2)).2 h3
end
end Go.Proofs.YtbgnigjfkbmceaaGreatDoor
namespace Go.Proofs.YtbgnigjfkbmceaaGreatDoor
structure Fnd where
 dir:AB
 name:AJ
 file:AB
 ex:Bool
 slash:Bool
 path:AJ
def DL:Fnd:=⟨(0,0),⟨#[]⟩,(0,0),false,false,⟨#[]⟩⟩
def DZ(x:Fnd):List AV:=[.v (.int .i64 x.dir.1), .v (.int .i64 x.dir.2), .v (.string x.name), .v (.int .i64 x.file.1), .v (.int .i64 x.file.2), .v (.bool x.ex), .v (.bool x.slash), .v (.string x.path)]
def CT(s:AJ):List AJ:=(Bt s.data.toList).map fun l=>⟨l.toArray⟩
theorem Th(s:AJ):C4 (CT s)=Bt s.data.toList:=by
 unfold C4 CT;rw[List.map_map];have:((fun x:AJ=>x.data.toList) ∘ fun l:Bs=>(⟨l.toArray⟩:AJ))=id:=by funext l;simp
 rw[this,List.map_id]
theorem Ti:∀{a b:List AJ},C4 a=C4 b→a=b
 |[],[],_=>rfl
 |[],_::_,h=>by simp[C4]at h
 |_::_,[],h=>by simp[C4]at h
 |x::a,y::b,h=>by
   simp only[C4,List.map_cons,List.cons.injEq]at h;rw[LT h.1,Ti (a:=a) (b:=b) h.2]
theorem Pw{s:AJ}{ps:List AJ}(h:C4 ps=Bt s.data.toList):ps=CT s:=Ti (h.trans (Th s).symm)
theorem K8(s:AJ):(CT s).length≤s.size+1:=by
 have h1:=Te (CT s);have h2:=PF s.data.toList;rw[←Th]at h2;rw[Lib.size_eq];omega
def Cs(s:Spc):AB:=CZ s s.mounts.length (0,1)
structure Lk where
 ps:List AJ
 dir:AB
 name:AJ
 file:AB
 ex:Bool
 links:Nat
abbrev NM:AJ:=⟨#[46]⟩
abbrev LU:AJ:=⟨#[46,46]⟩
def Bu(s:Spc)(fl:Bool)(p:AJ)(ps:List AJ)(a:AB)(lk:Nat):Int ⊕ Lk:=
 if Aq s.files a=false then .inl 20
 else if 12<p.size then .inl 36
 else if p=NM then .inr ⟨ps,a,⟨#[]⟩,a,true,lk⟩
 else if p=LU then .inr ⟨ps,CZ s s.mounts.length (D8 s (s.mounts.length+1) a),⟨#[]⟩,CZ s s.mounts.length (D8 s (s.mounts.length+1) a),true,lk⟩
 else if(AQ s.files a p).2≠0 then(if ps≠[]∨Cq p=false then .inl 2 else .inr ⟨[],a,p,(0,0),false,lk⟩)
 else if(At s.files (AQ s.files a p).1).kind=3∧(ps≠[]∨fl=true)then
  (if lk=8 then .inl 40 else
    .inr ⟨CT (At s.files (AQ s.files a p).1).target++ps,if Ce (At s.files (AQ s.files a p).1).target=true then Cs s else a,⟨#[]⟩,if Ce (At s.files (AQ s.files a p).1).target=true then Cs s else a,true,lk+1⟩)
 else .inr ⟨ps,a,p,CZ s s.mounts.length (AQ s.files a p).1,true,lk⟩
def LV:Lk:=⟨[],(0,0),⟨#[]⟩,(0,0),false,0⟩
def Da(s:Spc)(fl:Bool):Nat→Lk→Int×Lk
 |0,σ=>(0,σ)
 |k+1,σ=>match σ.ps with
   |[]=>(0,σ)
   |p::ps=>match Bu s fl p ps σ.file σ.links with
     | .inl e=>(e,LV)
     | .inr τ=>Da s fl k τ
def Dp(σ:Lk):Nat:=(8 - σ.links) * 200+σ.ps.length
section
variable {s:Spc}(hv:FlsV s.files)
include hv
theorem Px{fl:Bool}{p:AJ}{ps:List AJ}{a:AB}{lk:Nat}{τ:Lk}(h8:lk≤8)(h:Bu s fl p ps a lk= .inr τ):τ.links≤8∧Dp τ<(8 - lk) * 200+(ps.length+1):=by
 unfold Bu at h;split at h
 ·cases h
 split at h
 ·cases h
 split at h
 ·injection h with h;subst h;exact⟨h8,by unfold Dp;simp only;omega⟩
 split at h
 ·injection h with h;subst h;exact⟨h8,by unfold Dp;simp only;omega⟩
 split at h
 ·split at h
  ·cases h
  injection h with h;subst h;exact⟨h8,by unfold Dp;simp only[List.length_nil];omega⟩
 split at h
 ·split at h
  ·cases h
  rename_i h9;injection h with h;subst h;have ht:=LM hv (AQ s.files a p).1;have hl:=K8 (At s.files (AQ s.files a p).1).target;refine⟨by simp only;omega,?_⟩;unfold Dp;simp only[List.length_append]
  have:(8 - lk) * 200=(8 - (lk+1)) * 200+200:=by
   rw[show 8 - lk=(8 - (lk+1))+1 by omega,Nat.add_mul]
  omega
 injection h with h;subst h;exact⟨h8,by unfold Dp;simp only;omega⟩
theorem ZS(fl:Bool):∀(k k':Nat) (σ:Lk),σ.links≤8→Dp σ≤k→Dp σ≤k'→Da s fl k σ=Da s fl k' σ:=by
 intro k
 induction k with
 |zero=>
   intro k' σ h8 h h'
   have he:σ.ps=[]:=by
    unfold Dp at h;exact Cp (by omega)
   cases k' with
   |zero=>rfl
   |succ k'=>unfold Da;rw[he]
 |succ k ih=>
   intro k' σ h8 h h'
   cases hps:σ.ps with
   |nil=>cases k'<;>(unfold Da;rw[hps])
   |cons p ps=>
     have hm:Dp σ=(8 - σ.links) * 200+(ps.length+1):=by unfold Dp;rw[hps];rfl
     cases k' with
     |zero=>rw[hm]at h';omega
     |succ k'=>
       unfold Da;rw[hps];simp only
       cases hs:Bu s fl p ps σ.file σ.links with
       |inl e=>rfl
       |inr τ=>
         simp only;obtain⟨h1,h2⟩:=Px hv h8 hs;exact ih k' τ h1 (by omega) (by omega)
end
def DM(s:Spc)(fl:Bool)(σ:Lk):Int×Lk:=Da s fl (Dp σ) σ
theorem Py{s:Spc}{fl:Bool}{σ:Lk}(h:σ.ps=[]):DM s fl σ=(0,σ):=by
 unfold DM
 cases Dp σ with
 |zero=>rfl
 |succ k=>unfold Da;rw[h]
theorem Tj{s:Spc}(hv:FlsV s.files){fl:Bool}{σ:Lk}{p:AJ}{ps:List AJ}(h8:σ.links≤8)(h:σ.ps=p::ps):DM s fl σ=match Bu s fl p ps σ.file σ.links with
    | .inl e=>(e,LV)
    | .inr τ=>DM s fl τ:=by
 have hm:Dp σ=((8 - σ.links) * 200+ps.length)+1:=by unfold Dp;rw[h];rfl
 unfold DM;rw[hm]
 conv=>lhs;unfold Da
 rw[h];simp only
 cases hs:Bu s fl p ps σ.file σ.links with
 |inl e=>rfl
 |inr τ=>
   simp only;obtain⟨h1,h2⟩:=Px hv h8 hs;exact ZS hv fl _ _ τ h1 (by omega) (Aw _)
def FC(s:Spc)(sl:Bool)(τ:Lk):Fnd:=⟨τ.dir,τ.name,τ.file,τ.ex,sl,if(Bd s τ.dir).2=true then(if τ.name=⟨#[]⟩then(Bd s τ.dir).1 else Co (Bd s τ.dir).1 τ.name)else⟨#[]⟩⟩
def Em(ps:List AJ)(a:AB):Lk:=⟨ps,a,⟨#[]⟩,a,true,0⟩
def By(s:Spc)(start:AB)(p:AJ)(fl:Bool):Fnd×Int:=
 if p=⟨#[]⟩then(DL,2)else if 128<p.size then(DL,36)
 else if Aq s.files (if Ce p=true then Cs s else start)=false then(DL,2)
 else if(DM s (fl||BB p) (Em (CT p) (if Ce p=true then Cs s else start))).1≠0 then(DL,(DM s (fl||BB p) (Em (CT p) (if Ce p=true then Cs s else start))).1)
 else if BB p=true∧(DM s (fl||BB p) (Em (CT p) (if Ce p=true then Cs s else start))).2.ex=true∧Aq s.files (DM s (fl||BB p) (Em (CT p) (if Ce p=true then Cs s else start))).2.file=false then(DL,20)
 else(FC s (BB p) (DM s (fl||BB p) (Em (CT p) (if Ce p=true then Cs s else start))).2,0)
end Go.Proofs.YtbgnigjfkbmceaaGreatDoor
namespace Go.Proofs.YtbgnigjfkbmceaaGreatDoor
open Go.RowKit
structure Dsc where
 fd:Int
 file:AB
 flags:Int
structure Prc where
 pid:Int
 ppid:Int
 uid:Int
 euid:Int
 gid:Int
 egid:Int
 auid:Int
 ses:Int
 cwd:AB
 comm:AJ
 exe:AJ
 opens:List Dsc
 audited:Bool
structure Tab where
 next:Int
 nextS:Int
 ps:List Prc
structure Syst where
 spc:Spc
 tab:Tab
def ZT:Tab:=⟨0,0,[]⟩
def Pz(cwd:AB):Tab:=⟨2,1,[⟨1,0,0,0,0,0,4294967295,4294967295,cwd,⟨#[105,110,105,116]⟩,⟨#[47,105,110,105,116]⟩,[],true⟩]⟩
def Fr(n:Int):Syst×Int:=if(E3 n).2≠0 then(⟨⟨[],[]⟩,ZT⟩,(E3 n).2)else(⟨⟨(E3 n).1,[]⟩,Pz (0,1)⟩,0)
def ZU(d:Dsc):List AV:=[.v (.int .i64 d.fd), .v (.int .i64 d.file.1), .v (.int .i64 d.file.2), .v (.int .i64 d.flags)]
def Q0(p:Prc):List AV:=[.v (.int .i64 p.pid), .v (.int .i64 p.ppid), .v (.int .i64 p.uid), .v (.int .i64 p.euid), .v (.int .i64 p.gid), .v (.int .i64 p.egid), .v (.int .i64 p.auid), .v (.int .i64 p.ses), .v (.int .i64 p.cwd.1), .v (.int .i64 p.cwd.2), .v (.string p.comm), .v (.string p.exe), .sl 4 (p.opens.map ZU) none, .v (.bool p.audited)]
def Q1(t:Tab):List AV:=[.v (.int .i64 t.next), .v (.int .i64 t.nextS), .sl 14 (t.ps.map Q0) none]
def Tk(s:Syst):List AV:=[.sl 2 (s.spc.files.map Bm) none, .sl 3 (s.spc.mounts.map Cr) none, .v (.int .i64 s.tab.next), .v (.int .i64 s.tab.nextS), .sl 14 (s.tab.ps.map Q0) none]
def LW(y:Itm):List AV:=[.v (.string y.given), .v (.string y.path), .v (.int .i64 y.dir.1), .v (.int .i64 y.dir.2), .v (.string y.name), .v (.int .i64 y.file.1), .v (.int .i64 y.file.2), .v (.int .i64 y.role), .v (.int .i64 y.kind), .v (.int .i64 y.mode), .v (.int .i64 y.uid), .v (.int .i64 y.gid), .v (.int .i64 y.perm)]
structure TabB(t:Tab):Prop where
 few:t.ps.length≤16
 opens:∀p∈t.ps,p.opens.length≤8
 next:t.next≤1073741824
 nextS:t.nextS≤1073741824
structure RowF(sz:Nat){α:Type}(F:α→List AV):Prop where
 len:∀x,(F x).length=sz
 flat:∀x,∀y∈F x,(∃v,y= .v v)∨∃s r,y= .sl s r none
 pos:0<sz
def LB(sz:Nat){α:Type}(F:α→List AV)(l:List α)(cap:Nat):List AV:=CD sz cap (l.map F)
section
variable {α:Type}{sz:Nat}{F:α→List AV}(hF:RowF sz F)
include hF
theorem ZV(l:List α):∀r∈l.map F,r.length=sz:=by
 intro r hr;obtain⟨x,_,rfl⟩:=List.mem_map.1 hr;exact hF.len x
theorem ZW{g:AV→AV}(hv:∀x,g (.v x)= .v x)(hs:∀sz rows,g (.sl sz rows none)= .sl sz rows none)(x:α):(F x).map g=F x:=by
 conv=>rhs;rw[←List.map_id (F x)]
 apply List.map_congr_left;intro y hy;rcases hF.flat x y hy with⟨v,rfl⟩|⟨s,r,rfl⟩
 ·exact hv v
 exact hs s r
theorem ZX{g:AV→AV}(hany:g .any= .any)(hv:∀x,g (.v x)= .v x)(hs:∀sz rows,g (.sl sz rows none)= .sl sz rows none)(l:List α)(cap:Nat):(LB sz F l cap).map g=LB sz F l cap:=by
 unfold LB;rw[Kw g hany,List.map_map]
 congr 1
 apply List.map_congr_left;intro x _;exact ZW hF hv hs x
theorem ZY(g:Nat→Option (List AV))(l:List α)(cap:Nat):FR g (LB sz F l cap)=LB sz F l cap:=by
 rw[Kv];exact ZX hF rfl (fun _=>rfl) (fun _ _=>rfl) l cap
theorem ZZ{n m:Nat}(x:α):BA n m (F x)=true:=by
 refine Oy.2 fun y hy=>?_;rcases hF.flat x y hy with⟨v,rfl⟩|⟨s,r,rfl⟩<;>rfl
theorem Q2{n m:Nat}{l:List α}{cap:Nat}:BA n m (LB sz F l cap)=true:=by
 refine Oz fun r hr=>?_;obtain⟨x,_,rfl⟩:=List.mem_map.1 hr;exact ZZ hF x
theorem Za{n:Nat}{bx:List (List AV)}{k j:Nat}{l:List α}{cap:Nat}(hn:n≤j)(hj:bx[j]?=some (LB sz F l cap)):D2 n bx (k+1) j=some (LB sz F l cap):=by
 have:Nat.blt j n=false:=by rw[←Bool.not_eq_true,Nat.blt_eq];omega
 simp only[D2,this,hj,Option.map_some,ZY hF]
theorem Zb{n:Nat}{bx:List (List AV)}{k j:Nat}{l:List α}{cap cap0:Nat}(hn:Nat.ble n j=true)(hj:bx[j]?=some (LB sz F l cap))(hc:l.length≤cap):E7 n (D2 n bx (k+1)) (.bs j 0 sz l.length cap0)= .sl sz (l.map F) none:=
 T1 (B8 hn) (Za hF (B8 hn) hj) (ZV hF l) (by simp) (by simpa using hc)
end
theorem Cy{f:Nat→Option AV}{bx:List (List AV)}{tk:List (Nat×Nat×List (List AV))}{l:List (Nat×AV)}{N:Dim}(n m:Nat){bx':List (List AV)}{tk':List (Nat×Nat×List (List AV))}(hbp:BF n m bx'=true)(hn:Nat.ble N.ni n=true:=by rfl)(hb:bx.take n=bx':=by rfl)(ht:tk.take m=tk':=by rfl)(hl:Sub n m f l:=by repeat (first|exact Sub.nil|refine Sub.cons _ _ _ rfl rfl ?_|refine Sub.any _ _ ?_|refine Sub.sl _ _ _ _ _ rfl ?_|refine Sub.slnil _ _ _ rfl ?_|(apply Sub.of;(focus exact rfl);(focus exact LeA.of_eq (vb (by simp[*])));(focus exact rfl)))):Weak N ⟨f,⟨bx,tk⟩⟩ ⟨look l,⟨bx',tk'⟩⟩:=Ay n m hn hb ht hbp hl
theorem Fb(s:ByteArray):s.toList=s.data.toList:=Lib.toList_data s
theorem Tl{a b:ByteArray}(h:a.data.toList=b.data.toList):a=b:=by
 cases a;cases b;simp at h;simp[h]
theorem Zc{a b:ByteArray}:a.data.toList=b.data.toList↔a=b:=⟨Tl,fun h=>by rw[h]⟩
theorem Zd(a b:ByteArray):(a.toList==b.toList)=decide (a=b):=by
 rw[Fb,Fb,Bool.eq_iff_iff,beq_iff_eq,decide_eq_true_iff];exact Zc
theorem Tm(s:ByteArray):s.toList.isEmpty=decide (s.size=0):=by
 rw[Fb,Lib.size_eq,Bool.eq_iff_iff,List.isEmpty_iff,decide_eq_true_iff,List.length_eq_zero_iff]
set_option maxRecDepth 100000 in
set_option maxHeartbeats 400000 in
theorem Q3(s:ByteArray)(w:World):
    Calls prog 289 #[.string s, .string ⟨#[47]⟩] w fun e w'=>e= .returned (.int .i64 (Lib.indexByte s.data.toList 47))∧w=w':=by
 by_cases h:s=⟨#[47]⟩
 ·subst h
  go_enter Tryz.func289,Tryz.ntmps289
  go_wp2
  go_ret
  exact⟨rfl,rfl⟩
 have h1:([47]==s.toList)=false:=by
  have:=Zd ⟨#[47]⟩ s;rw[decide_eq_false (fun e=>h e.symm),Fb ⟨#[47]⟩]at this;exact this
 go_enter Tryz.func289,Tryz.ntmps289
 go_wp2_with (go_at_call 292;refine(Tryz.stringslite_IndexByte _ _ _).mono ?_;rintro e w' ⟨rfl,rfl⟩)
 go_ret
 exact⟨rfl,rfl⟩
theorem Ze(s:ByteArray)(w:World):
    Calls prog 276 #[.string s, .string ⟨#[47]⟩] w fun e w'=>e= .returned (.int .i64 (Lib.indexByte s.data.toList 47))∧w=w':=by
 go_enter Tryz.func276,Tryz.ntmps276
 go_wp2_with (go_at_call 289;refine(Q3 _ _).mono ?_;rintro e w' ⟨rfl,rfl⟩)
 go_ret
 exact⟨rfl,rfl⟩
theorem Q4{l:Bs}(h:(47:UInt8)∈l):∃i:Nat,Lib.indexByte l 47=i∧i<l.length∧l=l.take i++47::l.drop (i+1)∧(47:UInt8)∉l.take i:=by
 have hge:=Lib.indexByte_ge l 47;by_cases hm:Lib.indexByte l 47= -1
 ·have:=Lib.indexByte_none hm;obtain⟨k,hk⟩:=List.mem_iff_getElem?.1 h;exact absurd hk (this k)
 obtain⟨i,hi⟩:=Int.eq_ofNat_of_zero_le (show 0≤Lib.indexByte l 47 by omega);obtain⟨h1,h2⟩:=Lib.indexByte_some hi;have hlt:i<l.length:=(Al.1 h1).1;refine⟨i,hi,hlt,?_,?_⟩
 ·have h3:l[i]=47:=(Al.1 h1).2;rw[←h3,List.getElem_cons_drop,List.take_append_drop]
 intro hmem;obtain⟨k,hk⟩:=List.mem_iff_getElem?.1 hmem;rw[List.getElem?_take]at hk;split at hk
 ·exact h2 k (by assumption) hk
 cases hk
theorem Tn{l:Bs}(h:(47:UInt8)∉l):Lib.indexByte l 47= -1:=by
 have hge:=Lib.indexByte_ge l 47;by_cases hm:Lib.indexByte l 47= -1
 ·exact hm
 obtain⟨i,hi⟩:=Int.eq_ofNat_of_zero_le (show 0≤Lib.indexByte l 47 by omega);obtain⟨h1,_⟩:=Lib.indexByte_some hi;exact absurd (Ar h1) h
theorem Zf(r:Int)(h0:128≤r)(h1:Lib.validRune r=true):
    (∃a b:UInt8,Utf8.encode r=⟨#[a,b]⟩∧128≤b.toNat)∨(∃a b c:UInt8,Utf8.encode r=⟨#[a,b,c]⟩)∨(∃a b c d:UInt8,Utf8.encode r=⟨#[a,b,c,d]⟩):=by
 have hv:Utf8.valid r=true:=by
  have:=of_decide_eq_true h1;unfold Utf8.valid;simp only[Bool.or_eq_true,Bool.and_eq_true,decide_eq_true_iff];omega
 unfold Utf8.encode;simp only[hv,if_true];have hn:¬r.toNat<128:=by omega
 rw[if_neg hn];by_cases h2:r.toNat<2048
 ·rw[if_pos h2];refine .inl ⟨_,_,rfl,?_⟩;simp only[UInt8.toNat_ofNat'];omega
 rw[if_neg h2];by_cases h3:r.toNat<65536
 ·rw[if_pos h3];exact .inr (.inl ⟨_,_,_,rfl⟩)
 rw[if_neg h3];exact .inr (.inr ⟨_,_,_,_,rfl⟩)
set_option maxRecDepth 1000000 in
set_option maxHeartbeats 2000000 in
theorem Zg(r:Int)(w:World)(h0:128≤r)(h1:r≤2147483647)(h2:r≠65533)(hv:Lib.validRune r=false):
    Calls prog 269 #[.string ⟨#[0,47]⟩, .int .i32 r] w fun e w'=>e= .returned (.int .i64 (-1))∧w=w':=by
 have h2':(r==65533)=false:=by simpa using h2
 go_enter Tryz.func269,Tryz.ntmps269
 go_wp2_with (go_at_call 285;refine(Tryz.utf8_ValidRune _ _).mono ?_;rintro e w' ⟨rfl,rfl⟩;rw[hv])
 go_ret
 exact⟨rfl,rfl⟩
set_option maxRecDepth 1000000 in
set_option maxHeartbeats 2000000 in
theorem Zh(r:Int)(w:World)(h0:128≤r)(h1:r≤2147483647)(h2:r≠65533)(hv:Lib.validRune r=true):
    Calls prog 269 #[.string ⟨#[0,47]⟩, .int .i32 r] w fun e w'=>e= .returned (.int .i64 (-1))∧Below w.heap.size w w':=by
 have h2':(r==65533)=false:=by simpa using h2
 have hlt:decide (r<128)=false:=by simpa using h0
 rcases Zf r h0 hv with⟨a,b,he,hb⟩|⟨a,b,c,he⟩|⟨a,b,c,d,he⟩
 ·have hne:((((⟨#[0,47]⟩:ByteArray)[1]'(by decide)).toNat:Int) != (((⟨#[a,b]⟩:ByteArray)[1]'(by show 1<2;decide)).toNat:Int))=true:=by
     show((47:Int) != (b.toNat:Int))=true;rw[bne_iff_ne];omega
  go_enter Tryz.func269,Tryz.ntmps269
  go_wp2_with (go_at_call 285;refine(Tryz.utf8_ValidRune _ _).mono ?_;rintro e w' ⟨rfl,rfl⟩;rw[hv])
  go_step3
  go_wp2
  refine wp_loop_rounds 1 ?_;rw[rounds_succ]
  go_wp2
  go_step3
  go_wp2
  go_quiet (fail)
  have hb:=Mn (Below.refl w'.heap.size w') nq;generalize w'.drewN nq=wq at *
  go_wp2
  go_quiet ((go_at_call 284;exact Calls.quiet_of_same (Tryz.strings_IndexByte _ _ _)))
  go_wp2
  rw[Exit.noGoto_ret]
  go_wp2
  rw[Exit.noGoto_ret]
  go_wp2
  go_ret
  exact⟨rfl,Mn hb _⟩
 ·go_enter Tryz.func269,Tryz.ntmps269
  go_wp2_with (go_at_call 285;refine(Tryz.utf8_ValidRune _ _).mono ?_;rintro e w' ⟨rfl,rfl⟩;rw[hv])
  go_step3
  go_wp2
  refine wp_loop_rounds 1 ?_;rw[rounds_succ]
  go_wp2
  rw[Exit.noGoto_ret]
  go_wp2
  go_ret
  exact⟨rfl,Below.refl _ _⟩
 go_enter Tryz.func269,Tryz.ntmps269
 go_wp2_with (go_at_call 285;refine(Tryz.utf8_ValidRune _ _).mono ?_;rintro e w' ⟨rfl,rfl⟩;rw[hv])
 go_step3
 go_wp2
 refine wp_loop_rounds 1 ?_;rw[rounds_succ]
 go_wp2
 rw[Exit.noGoto_ret]
 go_wp2
 go_ret
 exact⟨rfl,Below.refl _ _⟩
theorem Zi(i:Nat)(hi:i<2):((⟨#[0,47]⟩:ByteArray)[i]'hi).toNat<128:=by
 match i,hi with
 |0,_=>show(0:UInt8).toNat<128;decide
 |1,_=>show(47:UInt8).toNat<128;decide
set_option maxRecDepth 1000000 in
set_option maxHeartbeats 2000000 in
theorem Zj(w:World):
    Calls prog 269 #[.string ⟨#[0,47]⟩, .int .i32 65533] w fun e w'=>e= .returned (.int .i64 (-1))∧Below w.heap.size w w':=by
 go_enter Tryz.func269,Tryz.ntmps269
 go_wp2
 go_loopg [5,6] 2 (fun g _ _ wx=>∃i:Nat,i+g=2∧wx=w.iter ⟨#[0,47]⟩ i)
 case atStart=>exact⟨0,by omega,rfl⟩
 case round=>
  obtain⟨i,hig,rfl⟩:=hrel
  cases gk with
  |zero=>
    obtain rfl:i=2:=by omega
    have hnx:=run_next_end (P:=prog) w ⟨#[0,47]⟩ 2
    go_wp2
    go_ret
    exact⟨rfl,(Below.refl _ _).alloc (Aw _) _⟩
  |succ g=>
    have hi:i<2:=by omega
    have hx:=Zi i hi;have hnx:=fun ty=>run_next_ascii (P:=prog) w ⟨#[0,47]⟩ i ty hi hx;generalize ((⟨#[0,47]⟩:ByteArray)[i]'hi)=x at *;have hne:((x.toNat:Int)==65533)=false:=beq_eq_false_iff_ne.2 (by omega)
    go_wp2
    go_roundg g
    case measure=>omega
    case rel=>exact⟨i+1,by omega,rfl⟩
theorem To(s:ByteArray)(i:Nat)(h:i<s.size)(ha:128≤(s[i]'h).toNat):
    1≤(Utf8.decode s i).2∧i+(Utf8.decode s i).2≤s.size∧∀k,k<(Utf8.decode s i).2→128≤(s.get! (i+k)).toNat:=by
 have hn:¬(s[i]'h).toNat<128:=by omega
 have h0:s.get! (i+0)=s[i]'h:=get_at s i h;have g0:128≤(s.get! (i+0)).toNat:=by rw[h0];exact ha
 have c1:∀k,(decide (i+k<s.size)&&(s.get! (i+k)).toNat / 64==2)=true→i+k<s.size∧128≤(s.get! (i+k)).toNat:=by
  intro k hk;simp only[Bool.and_eq_true,decide_eq_true_iff,beq_iff_eq]at hk;exact⟨hk.1,by omega⟩
 have one:1≤1∧i+1≤s.size∧∀k,k<1→128≤(s.get! (i+k)).toNat:=by
  refine⟨Aw _,h,fun k hk=>?_⟩;obtain rfl:k=0:=by omega
  exact g0
 unfold Utf8.decode;simp only[h0,hn,if_false];split
 ·rename_i hc;rw[Bool.and_eq_true]at hc;obtain⟨a1,b1⟩:=c1 1 hc.2;split
  ·refine⟨by simp,a1,fun k hk=>?_⟩;have:k=0∨k=1:=by simp at hk;omega
   rcases this with rfl|rfl
   ·exact g0
   exact b1
  exact one
 split
 ·rename_i hc;rw[Bool.and_eq_true,Bool.and_eq_true]at hc;obtain⟨a1,b1⟩:=c1 1 hc.1.2;obtain⟨a2,b2⟩:=c1 2 hc.2;split
  ·refine⟨by simp,a2,fun k hk=>?_⟩;have:k=0∨k=1∨k=2:=by simp at hk;omega
   rcases this with rfl|rfl|rfl
   ·exact g0
   ·exact b1
   exact b2
  exact one
 split
 ·rename_i hc;rw[Bool.and_eq_true,Bool.and_eq_true,Bool.and_eq_true]at hc;obtain⟨a1,b1⟩:=c1 1 hc.1.1.2;obtain⟨a2,b2⟩:=c1 2 hc.1.2;obtain⟨a3,b3⟩:=c1 3 hc.2;split
  ·refine⟨by simp,a3,fun k hk=>?_⟩;have:k=0∨k=1∨k=2∨k=3:=by simp at hk;omega
   rcases this with rfl|rfl|rfl|rfl
   ·exact g0
   ·exact b1
   ·exact b2
   exact b3
  exact one
 exact one
theorem Zk(s:ByteArray)(j:Nat)(hj:j<s.size):s.data.toList[j]?=some (s.get! j):=by
 have:=get_at s j hj;rw[Nat.add_zero]at this;rw[this];exact Lib.data_getElem? s j hj
theorem Zl{s:ByteArray}{i:Nat}(h:i<s.size)(ha:128≤(s[i]'h).toNat)(hno:Lib.NoAny s.data.toList [0,47] i):Lib.NoAny s.data.toList [0,47] (i+(Utf8.decode s i).2):=by
 obtain⟨_,h2,h3⟩:=To s i h ha;intro j b hj hb;by_cases hlt:j<i
 ·exact hno j b hlt hb
 have:=h3 (j - i) (by omega);rw[show i+(j - i)=j by omega]at this;rw[Zk s j (by omega)]at hb;injection hb with hb;rw[hb]at this;have h0:b≠0:=by rintro rfl;simp at this
 have h47:b≠47:=by
  rintro rfl;have:(47:UInt8).toNat=47:=rfl;omega
 simp[h0,h47]
theorem Zm(r:Int)(w:World)(h0:128≤r)(h1:r≤2147483647):
    Calls prog 269 #[.string ⟨#[0,47]⟩, .int .i32 r] w fun e w'=>e= .returned (.int .i64 (-1))∧Below w.heap.size w w':=by
 by_cases h2:r=65533
 ·subst h2;exact Zj w
 cases hv:Lib.validRune r with
 |true=>exact Zh r w h0 h1 h2 hv
 |false=>exact(Zg r w h0 h1 h2 hv).mono fun e w' h=>⟨h.1,by rw[←h.2];exact Below.refl _ _⟩
def Tp(s:ByteArray)(w:World)(e:Ending)(w':World):Prop:=∃v:Int,e= .returned (.int .i64 v)∧Below w.heap.size w w'∧((0≤v)↔((0:UInt8)∈s.data.toList∨(47:UInt8)∈s.data.toList))
theorem Zn{s:ByteArray}(h:Lib.NoAny s.data.toList [0,47] s.size):¬((0:UInt8)∈s.data.toList∨(47:UInt8)∈s.data.toList):=by
 rintro(h'|h')
 ·obtain⟨j,hj⟩:=List.mem_iff_getElem?.1 h';have:=h j 0 (by rw[Lib.size_eq];exact(Al.1 hj).1) hj;simp at this
 obtain⟨j,hj⟩:=List.mem_iff_getElem?.1 h';have:=h j 47 (by rw[Lib.size_eq];exact(Al.1 hj).1) hj;simp at this
theorem Zo{s:ByteArray}{i:Nat}{x:UInt8}(hx:s.data.toList[i]?=some x)(h:[0,47].contains x=true):((0:UInt8)∈s.data.toList∨(47:UInt8)∈s.data.toList):=by
 have hm:=Ar hx;simp at h;rcases h with rfl|rfl
 ·exact .inl hm
 exact .inr hm
set_option maxRecDepth 1000000 in
set_option maxHeartbeats 4000000 in
theorem Zp(s:ByteArray)(w:World)(h8:s.size≤8):Calls prog 245 #[.string s, .string ⟨#[0,47]⟩] w (Tp s w):=by
 have h8z:decide ((8:Int)<(s.size:Int))=false:=decide_eq_false (by omega)
 go_enter Tryz.func245,Tryz.ntmps245
 go_wp2_with (go_at_call 270;refine(Tryz.strings_shouldUseASCIISet _ _).mono ?_;rintro e w' ⟨rfl,hw⟩;rw[hw,h8z])
 clear hw
 go_loopg [9,10] s.size (fun g _ _ wx=>∃i:Nat,s.size≤i+g∧i≤s.size∧wx.heap[w.heap.size]?=some (.stringIter s i)∧Below w.heap.size w wx∧Hid (Lib.NoAny s.data.toList [0,47] i))
 case atStart=>exact⟨0,by omega,by omega,World.iter_heap w s 0,(Below.refl _ _).alloc (Aw _) _,Lib.hid (Lib.NoAny.zero _ _)⟩
 case round=>
  obtain⟨i,hg,hi,hit,hbel,hno⟩:=hrel;have hks:=hbel.size;by_cases hlt:i<s.size
  ·obtain⟨g,rfl⟩:∃g,gk=g+1:=⟨gk - 1,by omega⟩;by_cases hx:(s[i]'hlt).toNat<128
   ·have hnx:=fun ty=>Lib.run_next_ascii_at (P:=prog) wr w.heap.size s i ty hit hlt hx;have hxl:s.data.toList[i]?=some (s[i]'hlt):=Lib.data_getElem? s i hlt;generalize (s[i]'hlt)=x at *;have Hx:=Lib.hid hxl;have hit':=Lib.iterAt_heap wr w.heap.size s i (i+1) hit;have hbel':=Lib.below_iterAt hbel (Aw _) s (i+1);generalize wr.iterAt w.heap.size s (i+1)=w1 at *;have hcon:=Lib.contains_iff_indexByte [0,47] x;have hback:((x.toNat:Int)).toNat.toUInt8=x:=by simp
    have HI:=Lib.hid hit';clear hxl hit hit';cases hin:[0,47].contains x
    ·rw[hin]at hcon;have hneg:¬((0:Int)≤Lib.indexByte [0,47] x):=of_decide_eq_false hcon.symm;clear hcon
     go_wp2_with (go_at_call 269;refine(Tryz.strings_IndexRune_ascii _ _ _ (by omega) (by omega)).mono ?_;rintro e w' ⟨rfl,hw⟩;rw[hw,hback])
     go_roundg g
     case measure=>omega
     case rel=>exact⟨i+1,by omega,by omega,HI.out,hbel',Lib.hid (hno.out.succ Hx.out hin)⟩
    rw[hin]at hcon;have hpos:(0:Int)≤Lib.indexByte [0,47] x:=of_decide_eq_true hcon.symm;clear hcon
    go_wp2_with (go_at_call 269;refine(Tryz.strings_IndexRune_ascii _ _ _ (by omega) (by omega)).mono ?_;rintro e w' ⟨rfl,hw⟩;rw[hw,hback])
    go_ret
    exact⟨_,rfl,hbel',⟨fun _=>Zo Hx.out hin,fun _=>by omega⟩⟩
   have hx':128≤(s[i]'hlt).toNat:=by omega
   obtain⟨p1,p2,_⟩:=To s i hlt hx';have HN:=Lib.hid (Zl hlt hx' hno.out);have q1:=(decode_high s i hlt hx').1;have q2:=decode_le s i;have hnx:=fun ty=>Lib.run_next_any_at (P:=prog) wr w.heap.size s i ty hit hlt;generalize Utf8.decode s i=d at *;obtain⟨d1,d2⟩:=d;simp only at *;have hit':=Lib.iterAt_heap wr w.heap.size s i (i+d2) hit;have hbel':=Lib.below_iterAt hbel (Aw _) s (i+d2);have hsz:=Lib.iterAt_size wr w.heap.size s (i+d2);generalize wr.iterAt w.heap.size s (i+d2)=w1 at *;have hk1:w.heap.size<w1.heap.size:=(Array.getElem?_eq_some_iff.1 hit').1;have HI:=Lib.hid hit';clear hit hit' hsz
   go_wp2_with fail
   refine(Zm _ _ (by omega) (by omega)).mono ?_;rintro e w2 ⟨rfl,hb2⟩
   go_wp2
   go_roundg g
   case measure=>omega
   case rel=>exact⟨i+d2,by omega,by omega,(hb2.block _ hk1).trans HI.out,hbel'.trans (hb2.mono (by omega)),HN⟩
  obtain rfl:i=s.size:=by omega
  have hnx:=fun ty=>Lib.run_next_end_at (P:=prog) wr w.heap.size s s.size ty hit hlt
  go_wp2
  go_ret
  exact⟨_,rfl,hbel,⟨fun h=>absurd h (by decide),fun h=>absurd h (Zn hno.out)⟩⟩
end Go.Proofs.YtbgnigjfkbmceaaGreatDoor
