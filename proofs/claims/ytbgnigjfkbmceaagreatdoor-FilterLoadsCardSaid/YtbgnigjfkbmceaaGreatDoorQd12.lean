/-
  Part 12 of the proof of FilterLoadsP: what the statement's proof uses of the texts in wip/tpl.
-/
import Derived.OpenShut
import Derived.ChangeArms
import Derived.ChangeOld
import Derived.DataReads
import Derived.DataElems
import Derived.Test.YtbgnigjfkbmceaaGreatDoorShelf
import Derived.Laws.RangeAny
import Derived.Deep.LoopGhost
import Derived.Lib.OthersKept
import Derived.Test.YtbgnigjfkbmceaaGreatDoorQd11
open Go.Proofs.Tryz (prog)
set_option maxRecDepth 10000
set_option maxHeartbeats 4000000
set_option linter.unusedVariables false
set_option linter.unusedSimpArgs false
namespace Go.Proofs.YtbgnigjfkbmceaaGreatDoor
open Go.RowKit
theorem SpcV.b{s:Spc}(h:SpcV s)(hm:s.mounts.length≤1000):SpcB s:=⟨h.files.b,hm⟩
section
theorem Yg(l:List Int)(a:Nat)(ha:a≤10000000):Dy prog 35 l a [] 1100 (fun r=>∃s,r= .agg (Aj s)∧SpcV s∧s.mounts.length≤3):=by
 refine enter Tryz.func35 rfl rfl rfl rfl rfl 1 rfl ?_;refine w_ (Ac (h:=e_ (w_ (m_ (h:=?_)))));refine A6 rfl (Ax 0 (hc:=YK l _ (by omega)) (hR:=?_));rintro r a1 ha1 ⟨f1,rfl,hv1,hp1⟩;refine⟨rfl,_,(by repeat constructor),?_⟩;refine A6 rfl (Gw (y:= .agg (Aj ⟨f1,[]⟩)) (E0 ⟨rfl,rfl⟩) ?_);refine Ac (h:=s_ (h:=e_ (q_ (w_ (m_ (h:=?_))))));refine A6 rfl (Ax 0 (hc:=Gn l _ (4) (by omega) (by omega)) (hR:=?_));rintro r a2 ha2 ⟨k2,rfl,p2,q2,o2⟩;refine⟨rfl,_,(by repeat constructor),?_⟩;refine a_ (h:=e_ (Af (?_)));obtain⟨M,rfl⟩:=Int.eq_ofNat_of_zero_le p2;have hM:M≤3:=by omega
 refine BW (fun n t=>∃(j b:Nat) (s:Spc),j≤M∧n=j∧b+10 * j≤a+1001+10 * M∧SpcV s∧s.mounts.length+j≤M∧t=⟨look [(0, .bp 0 0),(2, .bp 1 0),(3, .bp 2 0),(4, .v (.int .i64 (j:Int)))],⟨[Cm l b,[.v (.slice none 0 0), .v (.slice none 0 0)],Aj s],[]⟩⟩) (M) ((wk 3 0)) (⟨M,_,⟨f1,[]⟩,At _,rfl,by omega,⟨hv1,hp1,fun i m hi=>by simp at hi⟩,by simp,rfl⟩) ?_;rintro n t ⟨j,b,s,hj,rfl,hb,hv,hm,rfl⟩;have hsb:=hv.b (by omega);refine q_ (w_ (m_ (h:=Bb (h:=e_ (?_)))));refine A9 rfl (fun hb1=>?_) (fun hb1=>?_)
 ·have hc1:=bp hb1;refine AE (q_ (Af (?_)));refine CA (fun t=>∃(dev:Int) (x:AA) (b2:Nat),b2≤b+10∧t=⟨look [(0, .bp 0 0),(2, .bp 1 0),(3, .bp 2 0),(4, .v (.int .i64 (n:Int))),(5, .bp 3 0),(6, .v (.int .i64 (Cv s dev x).2))],⟨[Cm l b2,[.v (.slice none 0 0), .v (.slice none 0 0)],Aj s,Aj (Cv s dev x).1],[]⟩⟩) ?_ ?_
  ·skip
   refine CE ([(2,Aj s)]) 14 (h:=?_)
   first|refine AY 0 (h:=?_)|refine BK 0 rfl (fun _ hS=>Dr (row:=Aj s) rfl (kb hS rfl) (B8 rfl) rfl ⟨rfl,rfl⟩) ?_
   refine Ap 1 (h:=Ap 3 (h:=Ay 4 (h:=?_)))
   first|refine AY 5 (h:=?_)|refine BK 5 rfl (fun _ hS=>Dr (row:=Aj s) rfl (kb hS rfl) (B8 rfl) rfl ⟨rfl,rfl⟩) ?_
   refine Gs 2 11 rfl rfl ?_ ?_
   ·refine Ax 0 (hc:=Ch l _ (1) (2) (by omega) (by omega) (by omega) (by omega)) (hR:=?_);rintro r a3 ha3 ⟨k3,rfl,p3,q3⟩;refine⟨rfl,_,(by repeat constructor),?_⟩;refine o_ (h:=?_);refine Gs 6 11 rfl rfl ?_ ?_
    ·refine Ax 0 (hc:=Jy l _ s.files (by omega) hv.files.b hv.files.ne) (hR:=?_);rintro r a4 ha4 ⟨x4,rfl⟩;refine⟨rfl,_,(by repeat constructor),?_⟩;refine o_ (h:=?_);refine Gs 7 11 rfl rfl ?_ ?_
     ·refine AJ (N0 s _ _ hsb) ?_;rintro r rfl;refine o_ (h:=?_);refine Ap 8 (h:=C2 9 (h:=C2 10 (h:=?_)));refine c_ 11 rfl (Dx (by repeat constructor) ?_);refine o_ (h:=?_);refine Bm 12 rfl (Bd rfl rfl rfl rfl rfl rfl (by repeat constructor) (by repeat constructor) ?_);refine o_ (h:=BN 13 (h:=z_ (h:=?_)));refine AK ?_;refine⟨_,⟨_,_,_,?_,rfl⟩,(wk 4 0)⟩;omega
     refine Dx (by repeat constructor) ?_;refine o_ (h:=?_);refine c_ 7 rfl (AJ (N0 s _ _ hsb) ?_);rintro r rfl;refine o_ (h:=Ap 8 (h:=C2 9 (h:=C2 10 (h:=?_))));refine Bm 12 rfl (Bd rfl rfl rfl rfl rfl rfl (by repeat constructor) (by repeat constructor) ?_);refine o_ (h:=BN 13 (h:=z_ (h:=?_)));refine AK ?_;refine⟨_,⟨_,_,_,?_,rfl⟩,(wk 4 0)⟩;omega
    refine Dx (by repeat constructor) ?_;refine o_ (h:=?_);refine c_ 6 rfl (Ax 0 (hc:=Jy l _ s.files (by omega) hv.files.b hv.files.ne) (hR:=?_));rintro r a5 ha5 ⟨x5,rfl⟩;refine⟨rfl,_,(by repeat constructor),?_⟩;refine o_ (h:=?_);refine c_ 7 rfl (AJ (N0 s _ _ hsb) ?_);rintro r rfl;refine o_ (h:=Ap 8 (h:=C2 9 (h:=C2 10 (h:=?_))));refine Bm 12 rfl (Bd rfl rfl rfl rfl rfl rfl (by repeat constructor) (by repeat constructor) ?_);refine o_ (h:=BN 13 (h:=z_ (h:=?_)));refine AK ?_;refine⟨_,⟨_,_,_,?_,rfl⟩,(wk 4 0)⟩;omega
   refine Dx (by repeat constructor) ?_;refine o_ (h:=?_);refine c_ 2 rfl (Ax 0 (hc:=Ch l _ (1) (2) (by omega) (by omega) (by omega) (by omega)) (hR:=?_));rintro r a6 ha6 ⟨k6,rfl,p6,q6⟩;refine⟨rfl,_,(by repeat constructor),?_⟩;refine o_ (h:=?_);refine c_ 6 rfl (Ax 0 (hc:=Jy l _ s.files (by omega) hv.files.b hv.files.ne) (hR:=?_));rintro r a7 ha7 ⟨x7,rfl⟩;refine⟨rfl,_,(by repeat constructor),?_⟩;refine o_ (h:=?_);refine c_ 7 rfl (AJ (N0 s _ _ hsb) ?_);rintro r rfl;refine o_ (h:=Ap 8 (h:=C2 9 (h:=C2 10 (h:=?_))));refine Bm 12 rfl (Bd rfl rfl rfl rfl rfl rfl (by repeat constructor) (by repeat constructor) ?_);refine o_ (h:=BN 13 (h:=z_ (h:=?_)));refine AK ?_;refine⟨_,⟨_,_,_,?_,rfl⟩,(wk 4 0)⟩;omega
  rintro t ⟨dev,x,b2,hb2,rfl⟩;refine w_ (m_ (h:=AN (h:=e_ (?_))));refine A9 rfl (fun hb2=>?_) (fun hb2=>?_)
  ·have hc2:=bp hb2;obtain⟨hv2,he2⟩:=YH hv dev x (by omega);have hm2:(Cv s dev x).1.mounts.length=s.mounts.length+1:=by rw[he2];simp
   refine AW (l_ (h:=s_ (h:=AQ (Al (t_ (AW (m_ (h:=?_))))))));refine A6 rfl (Ho rfl rfl (by omega) ?_);refine a_ (h:=AQ (?_));refine AK ?_
   first|refine⟨n - 1,_,by omega,⟨n - 1,_,(Cv s dev x).1,by omega,rfl,?_,hv2,?_,rfl⟩,(by rw[show((n - 1:Nat):Int)=(n:Int) - 1 by omega];exact Az 3 0 rfl rfl rfl rfl ((by repeat (first|exact Sub.nil|refine B0 rfl rfl ?_|refine B3 ?_|refine B4 rfl ?_|refine B5 rfl ?_))))⟩|refine⟨n - 1,_,by omega,⟨n - 1,_,s,by omega,rfl,?_,hv,?_,rfl⟩,(by rw[show((n - 1:Nat):Int)=(n:Int) - 1 by omega];exact Az 3 0 rfl rfl rfl rfl ((by repeat (first|exact Sub.nil|refine B0 rfl rfl ?_|refine B3 ?_|refine B4 rfl ?_|refine B5 rfl ?_))))⟩
   ·omega
   omega
  have hc2:=bp hb2;refine Aw (Al (t_ (AW (m_ (h:=?_)))));refine A6 rfl (Ho rfl rfl (by omega) ?_);refine a_ (h:=AQ (?_));refine AK ?_
  first|refine⟨n - 1,_,by omega,⟨n - 1,_,(Cv s dev x).1,by omega,rfl,?_,hv2,?_,rfl⟩,(by rw[show((n - 1:Nat):Int)=(n:Int) - 1 by omega];exact Az 3 0 rfl rfl rfl rfl ((by repeat (first|exact Sub.nil|refine B0 rfl rfl ?_|refine B3 ?_|refine B4 rfl ?_|refine B5 rfl ?_))))⟩|refine⟨n - 1,_,by omega,⟨n - 1,_,s,by omega,rfl,?_,hv,?_,rfl⟩,(by rw[show((n - 1:Nat):Int)=(n:Int) - 1 by omega];exact Az 3 0 rfl rfl rfl rfl ((by repeat (first|exact Sub.nil|refine B0 rfl rfl ?_|refine B3 ?_|refine B4 rfl ?_|refine B5 rfl ?_))))⟩
  ·omega
  omega
 have hc1:=bp hb1;refine BL (Ai (Ai (BM (t_ (w_ (l_ (h:=s_ (h:=e_ (A4 (?_))))))))));refine Au none (h5:=(AX _)) (h6:=⟨_,rfl,rfl,b,by omega,rfl,s,rfl,hv,by omega⟩)
end
theorem TF{P:Program}{f:FuncId}{s:Spc}{xs:List AV}{us:List Value}{z:Value}{R:AV}(hx:∀(G:Gh) (w:World) (vs:List Value),AT G w xs vs→vs=us)(hR:∀(G:Gh) (w:World),rep G w R z)
    (h:∀(w:World) (ds ms:Value),SpcIn s w.heap.size w ds ms→Calls P f (.agg #[ds,ms]::us).toArray w fun e w'=>e= .returned z∧Below w.heap.size w w'):AFn P f (.agg (Aj s)::xs) (fun r=>r=R):=by
 intro w St bl vs hr hv;simp only[AT]at hv;obtain⟨z0,zs,rfl,h1,h2⟩:=hv;obtain rfl:=hx _ _ _ h2;simp only[rep,Aj,AT]at h1;obtain⟨ys,rfl,ds,_,rfl,h3,ms,_,rfl,h4,rfl⟩:=h1
 have hs:SpcIn s w.heap.size w ds ms:=by
  refine⟨At _,?_⟩;refine Hi (St:=St) (fun b o hb=>⟨hr.stlt b o hb,rfl⟩) _ _ ?_;simp only[Aj,BS];exact⟨_,_,rfl,h3,_,_,rfl,h4,rfl⟩
 refine(h w ds ms hs).mono ?_;rintro e w' ⟨rfl,hb⟩;obtain⟨k1,k2⟩:=hr.below hb;exact⟨_,_,_,_,⟨rfl,rfl,rfl⟩,k1,k2,hR _ _⟩
theorem Yh{G:Gh}{w:World}{a:AA}{vs:List Value}(h:AT G w [.agg (AD a)] vs):vs=[D1 a]:=by
 simp only[AT,rep,AD]at h;obtain⟨_,_,rfl,⟨_,rfl,_,_,rfl,rfl,_,_,rfl,rfl,rfl⟩,rfl⟩:=h;rfl
structure SpcN(s:Spc):Prop where
 b:SpcB s
 nm:∀x,(By s x).size≤100
 most:BT s.files≤5000
section
variable {s:Spc}(hs:SpcN s)
include hs
theorem PZ(a:AA):AFn prog 267 [.agg (Aj s), .agg (AD a)] (fun r=>r= .tup [.v (.string (BZ s a).1), .v (.bool (BZ s a).2)]):=
 TF (us:=[D1 a]) (z:= .tuple #[.string (BZ s a).1, .bool (BZ s a).2]) (fun _ _ _ h=>Yh h) (fun G w=>by simp only[rep,AT];exact⟨[_,_],rfl,_,_,rfl,rfl,_,_,rfl,rfl,rfl⟩)
  fun w ds ms h=>callsIn_wide.1 (Yf 4 (Lib.hid (At _)) s hs.b hs.nm hs.most a ds ms w h)
end
theorem Yi(s:Spc)(hs:SpcB s)(a b:AA):AFn prog 120 [.agg (Aj s), .agg (AD a), .agg (AD b)] (fun r=>r= .v (.bool (decide (a∈BJ s (BT s.files) b)))):=
 TF (us:=[D1 a,D1 b]) (z:= .bool (decide (a∈BJ s (BT s.files) b))) (fun G w vs h=>by
  simp only[AT,rep,AD]at h;obtain⟨_,_,rfl,⟨_,rfl,_,_,rfl,rfl,_,_,rfl,rfl,rfl⟩,_,_,rfl,⟨_,rfl,_,_,rfl,rfl,_,_,rfl,rfl,rfl⟩,rfl⟩:=h
  rfl) (fun G w=>by simp only[rep])
  fun w ds ms h=>callsIn_wide.1 (YS 4 (Lib.hid (by omega)) s hs a b ds ms w h)
theorem Yj{f:AZ}{a:AA}(h:Cg f a=true):∃d∈f,As f a∈d.nodes:=by
 obtain⟨q,i,d,m,_,h2,h3,_,_,h6⟩:=LN h;exact⟨d,Ar h2,by rw[h6];exact Ar h3⟩
theorem Yk{x:AG}(h:Cn x=true):x.size≤12:=by
 rw[H5]at h;by_cases hc:x.size<1∨12<x.size
 ·rw[if_pos hc]at h;cases h
 omega
theorem Pa{s:Spc}(h:FlsV s.files)(x:AA):(By s x).size≤12:=by
 unfold By
 cases hf:(EH s x).entries.find? fun e:BF=>decide (e.2=x.2)with
 |none=>exact BU _
 |some e=>
   have hm:=List.mem_of_find?_eq_some hf;unfold EH at hm;by_cases hh:Cg s.files (x.1,(As s.files x).parent)=true
   ·obtain⟨d,hd,hn⟩:=Yj hh;exact Yk ((h.vd d hd).ent _ hn e hm).1
   have:As s.files (x.1,(As s.files x).parent)=Nod.zero:=by
    unfold Cg at hh
    cases hq:Bk s.files (x.1,(As s.files x).parent)with
    |none=>show(Bk s.files (x.1,(As s.files x).parent)).getD Nod.zero=Nod.zero;rw[hq];rfl
    |some m=>rw[hq]at hh;exact absurd rfl hh
   rw[this]at hm;cases hm
theorem TG{f:AZ}(h:FlsV f):BT f≤48:=by
 have:∀(l:AZ),(∀d∈l,d.nodes.length≤16)→BT l≤l.length * 16:=by
  intro l
  induction l with
  |nil=>intro _;simp[BT]
  |cons d l ih=>
    intro h;have h1:=ih fun d hd=>h d (List.mem_cons_of_mem _ hd);have h2:=h d (List.mem_cons_self ..);simp only[BT,List.map_cons,List.sum_cons,List.length_cons]at h1 ⊢;omega
 have h1:=this f fun d hd=>(h.vd d hd).len;have h2:=h.few;omega
theorem SpcV.n{s:Spc}(h:SpcV s)(hm:s.mounts.length≤1000):SpcN s:=⟨⟨h.files.b,hm⟩,fun x=>by have:=Pa h.files x;omega,by have:=TG h.files;omega⟩
def Gd(w:World):Nat→Nat→Prop:=fun b _=>b<w.heap.size
def Opens(P:Program)(t:TypeId)(R:List AV→Prop):Prop:=
 ∀(H:Type) (enc:TypeId×Value→H) (w:World) (base:Nat) (spare:Nat→Bool) (held:Bool) (fuel:Nat) (cs:List Value) (x:DataW H×List MemPlace),DataW.trod enc P w base spare held fuel t cs=some x→
  ∃row,R row∧BS (Gd w) w row cs∧∀u∈cs,u.oneCell'=true
section
variable {P:Program}{t:TypeId}
theorem Opens.mono{R R':List AV→Prop}(h:Opens P t R)(hR:∀r,R r→R' r):Opens P t R':=by
 intro H enc w base spare held fuel cs x hx;obtain⟨row,h1,h2⟩:=h H enc w base spare held fuel cs x hx;exact⟨row,hR _ h1,h2⟩
theorem Yl{k:IntKind}(ht:P.underlying t=some (.int k)):Opens P t fun r=>∃n,r=[.v (.int k n)]∧(Lit.int k n).wf=true:=by
 intro H enc w base spare held fuel cs x hx;obtain⟨b,rfl,_,hw⟩:=DataW.trod_int ht hx;exact⟨_,⟨b,rfl,hw⟩,⟨_,_,rfl,by simp only[Ag],by simp only[BS]⟩,by simp[Value.oneCell']⟩
theorem Ym{w:World}{b o:Nat}{v:Value}(h:w.cell? ⟨b,o,none⟩=some v):b<w.heap.size:=by
 rcases Nat.lt_or_ge b w.heap.size with hlt|hge
 ·exact hlt
 simp[World.cell?,Array.getElem?_eq_none hge]at h
theorem Yn{St:Nat→Nat→Prop}{w:World}{xs:List AV}{ys:List Value}(h:BS St w xs ys):ys.length=xs.length:=FF (G:=⟨St,[],[]⟩) (Gi (G:=⟨St,[],[]⟩) _ _ h)
theorem Yo{e:TypeId}{n:Nat}{R:List AV→Prop}(ht:P.underlying t=some (.slice e))(hc:P.cellsOf e=n)(hn:0<n)(h:Opens P e R):Opens P t fun r=>∃rows,r=[.sl n rows none]∧rows.length≤maxLen∧∀x∈rows,R x:=by
 intro H enc w base spare held fuel cs x hx;rcases DataW.trod_slice ht hx with⟨rfl,_⟩|⟨⟨b,off,spot⟩,len,cap,elems,rest,m,rfl,rfl,_,hb,hl,hm,hlen,hel,_,_⟩
 ·exact⟨_,⟨[],rfl,BU _,by simp⟩,⟨_,_,rfl,by simp only[Ag];exact⟨trivial,none,0,rfl,At _,BU _, .inl trivial⟩,by simp only[BS]⟩,by simp[Value.oneCell']⟩
 have each:∀i,i<len→∃row cs',R row∧row.length=n∧BS (Gd w) w row cs'∧(∀u∈cs',u.oneCell'=true)∧cs'.length=n∧∀j,j<n→w.cell? (Addr.add ⟨b,off,spot⟩ (i * n+j))=cs'[j]?:=by
  intro i hi;have h1:=hel i hi;rw[hc,BR (by omega),Option.bind_eq_some_iff]at h1;obtain⟨cs',h2,h3⟩:=h1;obtain⟨row,r1,r2,r3⟩:=h _ _ _ _ _ _ _ _ _ h3;obtain⟨_,c1,c2⟩:=World.cells?_some h2;refine⟨row,cs',r1,by rw[←Yn r2,c1],r2,r3,c1,fun j hj=>?_⟩;have:=c2 j hj
  rwa [Addr.add_add]at this
 have hrows:∃rows:List (List AV),rows.length=len∧(∀i,i<len→∃row cs',rows[i]?=some row∧R row∧row.length=n∧BS (Gd w) w row cs'∧(∀u∈cs',u.oneCell'=true)∧cs'.length=n∧∀j,j<n→w.cell? (Addr.add ⟨b,off,spot⟩ (i * n+j))=cs'[j]?):=by
  clear hel
  have:∀k,k≤len→∃rows:List (List AV),rows.length=k∧(∀i,i<k→∃row cs',rows[i]?=some row∧R row∧row.length=n∧BS (Gd w) w row cs'∧(∀u∈cs',u.oneCell'=true)∧cs'.length=n∧∀j,j<n→w.cell? (Addr.add ⟨b,off,spot⟩ (i * n+j))=cs'[j]?):=by
   intro k
   induction k with
   |zero=>intro _;exact⟨[],rfl,fun i hi=>by omega⟩
   |succ k ih=>
     intro hk;obtain⟨rows,e1,e2⟩:=ih (by omega);obtain⟨row,cs',q⟩:=each k (by omega);refine⟨rows++[row],by simp[e1],fun i hi=>?_⟩;rcases Nat.lt_or_ge i k with hlt|hge
     ·obtain⟨row',cs'',q1,q2⟩:=e2 i hlt;exact⟨row',cs'',by rw[CQ (by omega)];exact q1,q2⟩
     obtain rfl:i=k:=by omega
     exact⟨row,cs',by rw[Cy (by omega),e1];simp,q⟩
  exact this len (At _)
 obtain⟨rows,e1,e2⟩:=hrows;refine⟨_,⟨rows,rfl,by omega,fun x hx=>?_⟩,⟨_,_,rfl,?_,by simp only[BS]⟩,by simp[Value.oneCell']⟩
 ·obtain⟨i,hi⟩:=List.getElem?_of_mem hx;obtain⟨row,_,q1,q2,_⟩:=e2 i (by rw[←e1];exact(Ah.1 hi).1);rw[hi]at q1;injection q1 with q1;subst q1;exact q2
 simp only[Ag];refine⟨trivial,some ⟨b,off,spot⟩,cap,by rw[e1],by omega,hm,?_⟩;rcases Nat.eq_zero_or_pos len with h0|h0
 ·left;exact Cj (by omega)
 right
 have hspot:spot=none:=by
  obtain⟨_,cs',_,_,_,_,_,c3,c4⟩:=e2 0 h0;have:=c4 0 hn;rw[BR (by omega)]at this
  simpa[Addr.add]using World.cell?_spot this
 subst hspot;refine⟨b,off,rfl,?_⟩
 have:∀(rs:List (List AV)) (k:Nat),(∀i r,rs[i]?=some r→rows[k+i]?=some r)→froR (Gd w) w b n rs (off+k * n):=by
  intro rs
  induction rs with
  |nil=>intro k _;simp only[froR]
  |cons r rs ih=>
    intro k hk;simp only[froR];have h1:=hk 0 r rfl;rw[Nat.add_zero]at h1;obtain⟨row,cs',q1,_,q3,q4,q5,q6,q7⟩:=e2 k (by rw[←e1];exact(Ah.1 h1).1);rw[h1]at q1;injection q1 with q1;subst q1;refine⟨⟨q3,JO fun i x hi=>?_⟩,?_⟩
    ·obtain⟨u,u1,u2⟩:=M6 q4 hi;have hin:i<n:=by rw[←q3];exact(Ah.1 hi).1
     have hc:=q7 i hin;rw[u1]at hc;have hc':w.cell? ⟨b,off+k * n+i,none⟩=some u:=by rw[Addr.add_mid]at hc;rwa [Nat.add_assoc]
     exact⟨Ym hc',u,hc',q5 u (Ar u1),u2⟩
    have:=ih (k+1) (fun i r' hi=>by
     have:=hk (i+1) r' (by simpa using hi)
     rwa [show k+1+i=k+(i+1) by omega])
    rwa [show off+(k+1) * n=off+k * n+n by rw[Nat.add_mul];omega]at this
 simpa using this rows 0 (fun i r hi=>by simpa using hi)
theorem TH{α:Type}{enc:α→List AV}{Q:α→Prop}:∀{rows:List (List AV)},(∀x∈rows,∃a,x=enc a∧Q a)→∃l:List α,rows=l.map enc∧∀a∈l,Q a
 |[],_=>⟨[],rfl,by simp⟩
 |r::rs,h=>by
   obtain⟨a,rfl,ha⟩:=h r (by simp);obtain⟨l,rfl,hl⟩:=TH (rows:=rs) fun x hx=>h x (by simp[hx]);exact⟨a::l,rfl,by simpa using⟨ha,hl⟩⟩
theorem Opens.one{R:List AV→Prop}(h:Opens P t R){H:Type}{enc:TypeId×Value→H}{w:World}{base:Nat}{spare:Nat→Bool}{held:Bool}{v:Value}{d:DataW H}{ps:List MemPlace}(hv:v.cells=#[v])(hd:DataW.Trod enc P w base spare held t v d ps):
    ∃row,R row∧BS (Gd w) w row [v]:=by
 obtain⟨fuel,hf⟩:=hd;rw[hv]at hf;obtain⟨row,h1,h2,_⟩:=h _ _ _ _ _ _ _ _ _ hf;exact⟨row,h1,h2⟩
end
theorem Yp:Opens prog 22 (fun r=>∃l:List Int,r=[.sl 1 (l.map FL) none]):=
 (Yo (n:=1) Tryz.underlying22 (by kernel_rfl) (by omega) (Yl Tryz.underlying3)).mono (by
   rintro r ⟨rows,rfl,_,hr⟩;obtain⟨l,rfl,_⟩:=TH (enc:=FL) (Q:=fun _=>True) (fun x hx=>by obtain⟨t,rfl,_⟩:=hr x hx;exact⟨t,rfl,trivial⟩)
   exact⟨l,rfl⟩)
theorem Yq{H:Type}{enc:TypeId×Value→H}{sp:Nat→Bool}{held:Bool}{base:Nat}{w:World}{a:Option Addr}{n c:Nat}{d:DataW H}{p:List MemPlace}(h:DataW.Trod enc prog w base sp held 22 (.slice a n c) d p):
    ∃l:List Int,rep ⟨Gd w,[],[]⟩ w (.sl 1 (l.map FL) none) (.slice a n c):=by
 obtain⟨r0,⟨l,rfl⟩,k0⟩:=Yp.one rfl h;simp only[BS]at k0;obtain⟨_,_,e0,k0,rfl⟩:=k0;injection e0 with e0;subst e0;exact⟨l,Eo (G:=⟨Gd w,[],[]⟩) _ _ k0⟩
theorem Yr{f:FuncId}(hf:∀l:List Int,AFn prog f [.sl 1 (l.map FL) none] (fun x=>x= .v (.bool true))){H:Type}{enc:TypeId×Value→H}{sp:Nat→Bool}{held:Bool}{base:Nat}(a:Option Addr)(n c:Nat)(w:World){d:DataW H}{p:List MemPlace}
    (h:DataW.Trod enc prog w base sp held 22 (.slice a n c) d p):Calls prog f #[.slice a n c] w fun e w'=>e= .returned (.bool true)∧Below w.heap.size w w':=by
 obtain⟨l,k⟩:=Yq h;refine VT (vs:=[.slice a n c]) (hf l) (Gd w) (fun b o h=>h) ?_;simp only[AT];exact⟨_,_,rfl,k,rfl⟩
theorem TJ{s:Spc}{dev:Int}(h:C3 s dev=true)(h0:dev≠0):∃m∈s.mounts,m.1=dev:=by
 unfold C3 Bj at h;simp only[Bool.or_eq_true,decide_eq_true_eq,h0,or_false]at h
 cases hf:s.mounts.find? fun m:D8=>decide (m.1=dev)with
 |none=>rw[hf]at h;cases h
 |some m=>exact⟨m,List.mem_of_find?_eq_some hf,by have:=List.find?_some hf;simpa using this⟩
theorem N3{s:Spc}{m:D8}(h:m∈s.mounts):C3 s m.1=true:=by
 unfold C3 Bj;rw[Bool.or_eq_true];refine .inl ?_;rw[Option.isSome_map]
 cases hf:s.mounts.find? fun m':D8=>decide (m'.1=m.1)with
 |none=>have:=List.find?_eq_none.1 hf m h;simp at this
 |some m=>rfl
theorem Ys{f:AZ}{ms ms':List D8}{dev:Int}(h:C3 ⟨f,ms⟩ dev=true)(hs:∀m∈ms,m∈ms'):C3 ⟨f,ms'⟩ dev=true:=by
 by_cases h0:dev=0
 ·unfold C3;simp[h0]
 obtain⟨m,hm,rfl⟩:=TJ h h0;exact N3 (s:=⟨f,ms'⟩) (hs m hm)
section
theorem TK(s:Spc):∀(k:Nat) (a:AA),(BJ s k a).length≤k
 |0,_=>by simp[BJ]
 |k+1,a=>by
   unfold BJ;split
   ·cases h:De s a with
    |none=>simp
    |some b=>have:=TK s k b;simp;omega
   simp
end
end Go.Proofs.YtbgnigjfkbmceaaGreatDoor
namespace Go.Proofs.YtbgnigjfkbmceaaGreatDoor
section
variable {s:Spc}(hv:SpcV s)
include hv
theorem Pb{q:Nat}{d:Dvc}{p:Nod}{x:Int}(hq:s.files[q]?=some d)(hp:p∈d.nodes)(hx:p.ino=x):Bk s.files ((q:Int),x)=some p:=
 PT (a:=((q:Int),x)) rfl hq (hv.files.vd d (Ar hq)).asc hp hx
theorem LQ{a b:AA}(h:Am s.files a=true)(hs:CY s a=some b):Am s.files b=true:=by
 obtain⟨q,d,m,h1,h2,h3,h4,h5,h6⟩:=Hd (f:=s.files) (a:=a) (by rw[h];simp);have hd:=hv.files.vd d (Ar h2);unfold CY at hs;by_cases h0:a.2≠1
 ·rw[if_pos h0]at hs;injection hs with hs;subst hs;rw[h5,h1];obtain⟨p,hp,hpi,e,he,_⟩:=hd.par m h3 (by rw[h4];exact h0) h6
  have hk:p.kind=2:=by
   by_cases hk:p.kind=2
   ·exact hk
   have:=(hd.leaf p hp hk).2;rw[this]at he;cases he
  exact(JH (Pb hv h2 hp hpi)).2 hk
 rw[if_neg h0]at hs;obtain⟨m',hm',_,e⟩:=LP hs;obtain⟨i,hi⟩:=List.getElem?_of_mem hm';rw[←e];exact(hv.mnt i m' hi).dir
theorem Pc{a b:AA}(h:C3 s a.1=true)(hs:CY s a=some b):C3 s b.1=true:=by
 unfold CY at hs;by_cases h0:a.2≠1
 ·rw[if_pos h0]at hs;injection hs with hs;subst hs;exact h
 rw[if_neg h0]at hs;obtain⟨m',hm',_,e⟩:=LP hs;obtain⟨i,hi⟩:=List.getElem?_of_mem hm';rw[←e];exact Ys (f:=s.files) (hv.mnt i m' hi).there (fun x hx=>List.mem_of_mem_take hx)
theorem Pd:Bj s 0=none:=by
 cases h:Bj s 0 with
 |none=>rfl
 |some on=>
   obtain⟨m',hm',e,_⟩:=LP h;obtain⟨i,hi⟩:=List.getElem?_of_mem hm';have:=(hv.mnt i m' hi).dev1;omega
theorem Yt{a:AA}(h:C3 s a.1=true)(h0:a≠(0,1)):∃b,CY s a=some b:=by
 have _:=hv;unfold CY;by_cases h1:a.2≠1
 ·exact⟨_,if_pos h1⟩
 rw[if_neg h1];have h2:a.1≠0:=fun e=>h0 (Prod.ext e (by simpa using h1));unfold C3 at h;rw[decide_eq_false h2,Bool.or_false]at h
 cases ho:Bj s a.1 with
 |none=>rw[ho]at h;cases h
 |some b=>exact⟨b,rfl⟩
theorem Hf{a:AA}(h:Am s.files a=true):BJ s (BT s.files) a=a::(match CY s a with
    |none=>[]
    |some b=>BJ s (BT s.files) b):=by
 have hd:¬Am s.files a=false:=by rw[h];simp
 have he:=GD hv a
 cases hm:BT s.files with
 |zero=>rw[hm]at he;exact absurd he hd
 |succ m=>
   rw[hm]at he;rw[Fk hd,Jz hv hd]
   cases hs:CY s a with
   |none=>rfl
   |some b=>
     simp only;have h1:=he.resolve_left hd b hs;have h2:=GD hv b;rw[hm]at h2;rw[PV hv m (m+1) b h1 h2]
theorem Yu{a:AA}(h:Am s.files a=true)(hm:C3 s a.1=true):(0,1)∈BJ s (BT s.files) a:=by
 have key:∀(k:Nat) (a:AA),E5 s k a→Am s.files a=true→C3 s a.1=true→(0,1)∈BJ s (BT s.files) a:=by
  intro k
  induction k with
  |zero=>intro a he h _;rw[show Am s.files a=false from he]at h;cases h
  |succ k ih=>
    intro a he h hm;by_cases h0:a=(0,1)
    ·rw[Hf hv h,h0];exact List.mem_cons_self ..
    obtain⟨b,hb⟩:=Yt hv hm h0;rw[Hf hv h,hb];exact List.mem_cons_of_mem _ (ih b (he.resolve_left (by rw[h];simp) b hb) (LQ hv h hb) (Pc hv hm hb))
 exact key _ a (GD hv a) h hm
theorem K1{a:AA}(h:¬(Am s.files a=true∧C3 s a.1=true)):BZ s a=(⟨#[]⟩,false):=by
 have _:=hv;unfold BZ;rw[if_neg fun c=>h ⟨c.1,c.2.1⟩]
theorem N4{a:AA}(h:Am s.files a=true)(hm:C3 s a.1=true):BZ s a=(Fl s ((BJ s (BT s.files) a).takeWhile fun x=>decide (x≠(0,1))),true):=by
 unfold BZ;rw[if_pos ⟨h,hm,Yu hv h hm⟩]
theorem LR(h:Am s.files (0,1)=true):BZ s (0,1)=(⟨#[47]⟩,true):=by
 rw[N4 hv h (by unfold C3;simp),Hf hv h,List.takeWhile_cons];simp[Fl,CZ]
theorem TL{a b:AA}(h:Am s.files a=true)(hm:C3 s a.1=true)(h0:a≠(0,1))(hb:CY s a=some b):BZ s a=(if a.2=1 then(BZ s b).1 else Cl (BZ s b).1 (By s a),true)∧(BZ s b).2=true:=by
 rw[N4 hv h hm,N4 hv (LQ hv h hb) (Pc hv hm hb),Hf hv h,hb,List.takeWhile_cons];simp only[h0,ne_eq,not_false_eq_true,decide_true,if_true];refine⟨?_,trivial⟩;unfold Fl CZ;rw[List.filter_cons];by_cases h1:a.2=1
 ·simp[h1]
 simp[h1]
def D3(s:Spc):Nat→AA→AA
 |0,a=>a
 |k+1,a=>if Am s.files a=true then(if a.2≠1 then(a.1,(As s.files a).parent)else match Bj s a.1 with
   |some on=>D3 s k on
   |none=>a)else(0,0)
omit hv in
theorem Yv(dev:Int):He s dev≤s.mounts.length:=by
 unfold He
 cases h:s.mounts.findIdx? fun m:D8=>decide (m.1=dev)with
 |none=>simp
 |some i=>
   have:=(List.findIdx?_eq_some_iff_getElem.1 h).1;simp only;omega
theorem TM{i j:Nat}{m m':D8}(hi:s.mounts[i]?=some m)(hj:s.mounts[j]?=some m')(h:m.1=m'.1):i=j:=by
 have key:∀{i j:Nat} {m m':D8},s.mounts[i]?=some m→s.mounts[j]?=some m'→m.1=m'.1→¬i<j:=by
  intro i j m m' hi hj h hlt;have hf:=(hv.mnt j m' hj).fresh
  have hm:m∈s.mounts.take j:=by
   refine Ar (i:=i) ?_;rw[List.getElem?_take,if_pos hlt];exact hi
  have:=N3 (s:=⟨s.files,s.mounts.take j⟩) hm;rw[h,hf]at this;cases this
 have h1:=key hi hj h;have h2:=key hj hi h.symm;omega
omit hv in
theorem N5{a:AA}{d:Int}(h:Bw s a=some d):∃i:Nat,s.mounts[i]?=some ((d,a):D8):=by
 unfold Bw at h
 cases hf:s.mounts.find? fun m:D8=>decide (m.2=a)with
 |none=>rw[hf]at h;cases h
 |some m=>
   rw[hf]at h;injection h with h;have h2:=List.find?_some hf;simp only[decide_eq_true_eq]at h2;obtain⟨i,hi⟩:=List.getElem?_of_mem (List.mem_of_find?_eq_some hf);exact⟨i,by rw[hi,←h,←h2]⟩
omit hv in
theorem Yw{a:AA}(h:∀(i:Nat) (m:D8),s.mounts[i]?=some m→m.2≠a):Bw s a=none:=by
 cases hc:Bw s a with
 |none=>rfl
 |some d=>obtain⟨i,hi⟩:=N5 hc;exact absurd rfl (h i _ hi)
theorem TN:∀(n:Nat) (a:AA),(∀(i:Nat) (m:D8),s.mounts[i]?=some m→m.2=a→s.mounts.length≤i+n)→Bw s (CV s n a)=none:=by
 intro n
 induction n with
 |zero=>
   intro a h;refine Yw fun i m hi e=>?_;have h1:=h i m hi e;have h2:=(Ah.1 hi).1;omega
 |succ n ih=>
   intro a h
   cases hc:Bw s a with
   |none=>rw[Me (by rw[hc];rfl)];exact hc
   |some d=>
     obtain⟨i,hi⟩:=N5 hc;rw[CV];refine ih _ fun j m hj e=>?_;have he:Fe s a=(d,1):=by unfold Fe;rw[hc]
     rw[he]at e;have h1:=h i _ hi rfl;have hth:=(hv.mnt j m hj).there;have hd1:=(hv.mnt i _ hi).dev1;rw[e]at hth;obtain⟨m'',hm'',e2⟩:=TJ hth (by simp only at hd1 ⊢;omega);obtain⟨k,hk⟩:=List.getElem?_of_mem hm''
     have hkj:k<j:=by
      have:=(Ah.1 hk).1;simp at this;omega
     rw[List.getElem?_take,if_pos hkj]at hk;have:=TM hv hk hi e2;omega
omit hv in
theorem TO:∀(n:Nat) (a:AA),CV s (n+1) a=Fe s (CV s n a)
 |0,_=>rfl
 |n+1,a=>TO n (Fe s a)
theorem Yx(a:AA):CV s (s.mounts.length+1) a=CV s s.mounts.length a:=by
 rw[TO];refine OX ?_;rw[TN hv _ a (fun i m _ _=>by omega)];rfl
theorem TP{i:Nat}{m:D8}(hi:s.mounts[i]?=some m):Bj s m.1=some m.2:=by
 have h1:C3 s m.1=true:=N3 (Ar hi);have hd:=(hv.mnt i m hi).dev1;unfold C3 at h1;rw[decide_eq_false (by omega),Bool.or_false]at h1
 cases ho:Bj s m.1 with
 |none=>rw[ho]at h1;cases h1
 |some on=>
   obtain⟨m',hm',e1,e2⟩:=LP ho;obtain⟨j,hj⟩:=List.getElem?_of_mem hm';have:=TM hv hj hi e1;subst this;rw[hi]at hj;injection hj with hj;rw[←e2,hj]
theorem Yy{x:AA}{dev:Int}(hc:Bw s x=some dev):∀(k:Nat) (y:AA),E5 s k y→Am s.files y=true→y.1=dev→∃t r,BJ s (BT s.files) y=t++(dev,1)::x::r:=by
 intro k
 induction k with
 |zero=>intro y he h _;rw[show Am s.files y=false from he]at h;cases h
 |succ k ih=>
   intro y he h hy;obtain⟨i,hi⟩:=N5 hc;by_cases h1:y.2=1
   ·have hs:CY s y=some x:=by
       unfold CY;rw[if_neg (by simpa using h1),hy];exact TP hv hi
    obtain⟨t,ht⟩:=N2 hv (LQ hv h hs);refine⟨[],t,?_⟩;rw[Hf hv h,hs];simp only[List.nil_append];rw[ht,←hy,←h1]
   have hs:CY s y=some (y.1,(As s.files y).parent):=if_pos h1;obtain⟨t,r,ht⟩:=ih _ (he.resolve_left (by rw[h];simp) _ hs) (LQ hv h hs) hy;refine⟨y::t,r,?_⟩;rw[Hf hv h,hs];simp only[List.cons_append];rw[ht]
def F7(s:Spc)(L:List AA)(i:Nat):Bool:=match L[i]? with
 |none=>true
 |some x=>match Bw s x with
   |none=>true
   |some dev=>decide (0<i)&&decide (L[i - 1]?=some (dev,1))
theorem TQ{a:AA}{i:Nat}{x:AA}(hi:(BJ s (BT s.files) a)[i]?=some x):F7 s (BJ s (BT s.files) a) i=PY s a x:=by
 unfold F7 PY;simp only[hi]
 cases hc:Bw s x with
 |none=>rfl
 |some dev=>
   simp only;rw[Bool.eq_iff_iff];simp only[Bool.and_eq_true,decide_eq_true_eq];constructor
   ·rintro⟨_,h2⟩;exact⟨_,Ar h2,rfl⟩
   rintro⟨y,hy,hyd⟩;obtain⟨t,r,ht⟩:=Yy hv hc _ y (GD hv y) (YR hv hy) hyd;obtain⟨p,hp⟩:=YQ hv hy;have hL:BJ s (BT s.files) a=(p++t)++(dev,1)::x::r:=by rw[←hp,ht,List.append_assoc]
   have hn:=T6 hv _ a (GD hv a)
   have hx:(BJ s (BT s.files) a)[(p++t).length+1]?=some x:=by
    rw[hL,Cy (by omega)];simp
   have hx0:(BJ s (BT s.files) a)[(p++t).length]?=some (dev,1):=by
    rw[hL,Cy (by omega)];simp
   have e:i=(p++t).length+1:=by
    obtain⟨h1,h2⟩:=Ah.1 hi;obtain⟨h3,h4⟩:=Ah.1 hx;exact(List.getElem_inj hn).1 (h2.trans h4.symm)
   subst e;exact⟨by omega,hx0⟩
theorem Yz(a:AA):Dg s a=((BZ s a).2&&(List.range (BJ s (BT s.files) a).length).all (F7 s (BJ s (BT s.files) a))):=by
 unfold Dg
 congr 1
 rw[Bool.eq_iff_iff,List.all_eq_true,List.all_eq_true];constructor
 ·intro h i hi;have hl:=List.mem_range.1 hi;rw[TQ hv (BR hl)];exact h _ (List.getElem_mem hl)
 intro h x hx;obtain⟨i,hi⟩:=List.getElem?_of_mem hx;rw[←TQ hv hi];exact h i (List.mem_range.2 (Ah.1 hi).1)
end
end Go.Proofs.YtbgnigjfkbmceaaGreatDoor
namespace Go.Proofs.YtbgnigjfkbmceaaGreatDoor
open Go.RowKit
theorem Z0(d m:AG):(Cl d m).size≤d.size+1+m.size:=by
 unfold Cl;split
 ·rw[ByteArray.size_append];omega
 rw[ByteArray.size_append,ByteArray.size_append];show d.size+1+m.size≤_;omega
theorem Z1{s:Spc}(hv:SpcV s)(pre:List AA):(Fl s pre).size≤1+13 * pre.length:=by
 have key:∀(l:List AG) (d:AG),(∀x∈l,x.size≤12)→(l.foldl Cl d).size≤d.size+13 * l.length:=by
  intro l
  induction l with
  |nil=>intro d _;simp
  |cons x l ih=>
    intro d h;have h1:=ih (Cl d x) fun y hy=>h y (List.mem_cons_of_mem _ hy);have h2:=h x (List.mem_cons_self ..);have h3:=Z0 d x;rw[List.foldl_cons,List.length_cons];omega
 have h:=key (CZ s pre).reverse ⟨#[47]⟩ (fun x hx=>by
  rw[List.mem_reverse]at hx;obtain⟨y,_,rfl⟩:=List.mem_map.1 hx
  exact Pa hv.files y)
 have h2:(CZ s pre).length≤pre.length:=by unfold CZ;rw[List.length_map];exact List.length_filter_le _ _
 rw[List.length_reverse]at h;have:(⟨#[47]⟩:AG).size=1:=rfl;unfold Fl;omega
theorem Pe{s:Spc}(hv:SpcV s)(a:AA):(BZ s a).1.size≤1000:=by
 unfold BZ;split
 ·have h3:=TK s (BT s.files) a;have h4:=TG hv.files;refine Nat.le_trans (Z1 hv _) ?_;refine Nat.le_trans (Nat.add_le_add_left (Nat.mul_le_mul_left 13 ((List.takeWhile_sublist _).length_le)) 1) ?_;omega
 exact BU _
theorem TR(d:AG)(h:0<d.size):d.data.toList.getLast?=some 47↔(((d[d.size - 1]'(by omega)).toNat:Int)=47):=by
 have hl:d.data.toList.length=d.size:=by simp
 rw[List.getLast?_eq_getElem?,hl,BR (by omega)];show some (d[d.size - 1]'(by omega))=some 47↔_;rw[Option.some.injEq];constructor
 ·intro e;rw[e];rfl
 intro e;refine UInt8.toNat_inj.1 ?_;show _=47;omega
theorem Z2{d m:AG}(h:¬0<d.size):Cl d m=d++⟨#[47]⟩++m:=by
 refine if_neg fun e=>?_;have hl:d.data.toList.length=d.size:=by simp
 rw[List.getLast?_eq_getElem?,List.getElem?_eq_none (by omega)]at e;cases e
section
theorem TS(d m:AG)(hd:d.size≤1000000)(hm:m.size≤1000000):AFn prog 196 [.v (.string d), .v (.string m)] (fun r=>r= .v (.string (Cl d m))):=by
 refine enter Tryz.func196 rfl rfl rfl rfl rfl 0 rfl ?_;refine w_ (a_ (h:=e_ (q_ (w_ (m_ (h:=n_ (h:=Bb (h:=m_ (h:=?_)))))))));refine AR true rfl rfl (fun hb1=>?_) (fun hb1=>?_)
 ·have hc1:=bp hb1;refine m_ (h:=m_ (h:=n_ (h:=G0 (h:=?_))));refine Av (H4 (n:=d.size - 1) Tryz.underlying9 rfl rfl (by omega) (by omega) ?_);refine AN (h:=AB (h:=e_ (?_)));refine A9 rfl (fun hb2=>?_) (fun hb2=>?_)
  ·have hc2:=bp hb2;refine w_ (m_ (h:=m_ (h:=?_)));refine A6 rfl (Dv rfl rfl (by omega) ?_);refine a_ (h:=e_ (A4 (A7 (?_))));refine A8 ?_;rw[show Cl d m=d++m from if_pos ((TR d (by omega)).2 hc2)];rfl
  have hc2:=bp hb2;refine AE (w_ (m_ (h:=?_)));refine A6 rfl (Dv rfl rfl (by show d.size+1≤_;omega) ?_);refine m_ (h:=?_);refine A6 rfl (Dv rfl rfl (by rw[ByteArray.size_append];show d.size+1+m.size≤_;omega) ?_);refine a_ (h:=e_ (A4 (?_)));refine A8 ?_;rw[show Cl d m=d++⟨#[47]⟩++m from if_neg (fun h=>hc2 ((TR d (by omega)).1 h))];rfl
 have hc1:=bp hb1;refine A3 (h:=A3 (h:=A3 (h:=A3 (h:=A3 (h:=A3 (h:=AF (h:=e_ (Be (h:=AE (w_ (m_ (h:=?_))))))))))));refine A6 rfl (Dv rfl rfl (by show d.size+1≤_;omega) ?_);refine m_ (h:=?_);refine A6 rfl (Dv rfl rfl (by rw[ByteArray.size_append];show d.size+1+m.size≤_;omega) ?_);refine a_ (h:=e_ (A4 (?_)));refine A8 ?_;rw[Z2 (by omega)];rfl
theorem Z3(s:Spc)(a:AA)(hs:SpcB s):AFn prog 248 [.agg (Aq s.files), .agg (AD a)] (fun r=>r= .v (.string (By s a))):=by
 have hen:=Kg hs.files (a.1,(As s.files a).parent);change (EH s a).entries.length≤1000 at hen;refine enter Tryz.func248 rfl rfl rfl rfl rfl 0 rfl ?_;refine w_ (b_ (h:=b_ (h:=a_ (h:=e_ (w_ (l_ (h:=l_ (h:=?_))))))));refine A6 rfl (AJ (Ed s.files a hs.files) ?_);rintro r rfl
 skip
 refine m_ (h:=x_ (h:=x_ (h:=Ac (h:=s_ (h:=a_ (h:=e_ (w_ (l_ (h:=f_ (h:=l_ (h:=f_ (h:=l_ (h:=Ab (h:=?_))))))))))))));refine A6 rfl (AJ (Ed s.files (a.1,(As s.files a).parent) hs.files) ?_);rintro r rfl
 skip
 refine m_ (h:=x_ (h:=x_ (h:=Ac (h:=s_ (h:=a_ (h:=e_ (q_ (w_ (a_ (h:=e_ (Af (?_))))))))))));refine BW (fun m t=>∃j:Nat,j≤(EH s a).entries.length∧m=(EH s a).entries.length - j∧(∀i y,i<j→(EH s a).entries[i]?=some y→decide (y.2=a.2)=false)∧t=⟨look [(3, .bp 1 0),(7, .bp 3 0),(9, .v (.int .i64 (j:Int)))],⟨[Aq s.files,AD a,Ak (As s.files a),Ak (EH s a)],[]⟩⟩) ((EH s a).entries.length) ((wk 4 0)) (⟨0,by omega,rfl,fun i y hi=>by omega,rfl⟩) ?_;rintro m t ⟨j,hj,rfl,ha,rfl⟩;refine q_ (w_ (m_ (h:=f_ (h:=l_ (h:=n_ (h:=B1 (h:=e_ (?_))))))));refine A9 rfl (fun hb1=>?_) (fun hb1=>?_)
 ·have hc1:=bp hb1;obtain⟨hlt,x,hy,hrow, -⟩:=Bv CC hc1;refine AE (q_ (Af (q_ (D7 9 (h:=Ay 0 (h:=AY 1 (h:=Ap 2 (h:=Dc 3 (h:=Ay 4 (h:=AY 5 (h:=Ay 6 (h:=AY 7 (h:=Gv 8 (h:=z_ (h:=t_ (?_))))))))))))))));refine A9 rfl (fun hb2=>?_) (fun hb2=>?_)
  ·have hc2:=bp hb2;refine w_ (f_ (h:=l_ (h:=m_ (h:=i_ (h:=f_ (h:=l_ (h:=a_ (h:=e_ (A4 (AP (A7 (A7 (AP (A7 (?_)))))))))))))));refine A8 ?_;rw[show By s a=x.1 by simp only[By];rw[GT hy (by simpa using hc2) ha];rfl];rfl
  have hc2:=bp hb2;refine Aw (Al (t_ (AW (m_ (h:=BE (h:=a_ (h:=AQ (?_))))))));refine AK ?_;refine⟨_,_,?_,⟨j+1,by omega,rfl,FO hy ha (by simpa using hc2),rfl⟩,(wk 4 0)⟩;omega
 have hc1:=bp hb1;have e3:=CM CC hj hc1;subst e3;refine BL (Ai (Ai (BM (t_ (w_ (a_ (h:=e_ (A4 (?_)))))))));refine A8 ?_;rw[show By s a=⟨#[]⟩ by simp only[By];rw[GU ha];rfl];rfl
end
def Ce(s:AG):List AV:=[.v (.string s)]
theorem TT{P:Program}{ev:Operand→Option AV}{h:AH}{R:AV→AH→Prop}{d:Option Tmp}{ty:TypeId}{pos:String}{af:Array Edge}{gd:Option (Nat×Bool)}{T:TypeId}{x lo hi:Operand}{s:ByteArray}{a k:Nat}{i j:Int}(hu:P.underlying T=some .string)
    (hx:ev x=some (.v (.string s))) (hl:ev lo=some (.v (.int .i64 i))) (hh:ev hi=some (.v (.int .i64 j))) (hi':i=(a:Int)) (hj:j=(k:Int)) (h1:a≤k) (h2:k≤s.size) (hR:R (.v (.string (s.extract a k))) h):AStep P ⟨d, .slice T x (some lo) (some hi) none,ty,pos,af,gd⟩ ev h R:=by
 refine Cc (fun _ G w ec _ he=>?_) hR;have k1:=he x (by simp[Op.operands]) _ hx;have k2:=he lo (by simp[Op.operands]) _ hl;have k3:=he hi (by simp[Op.operands]) _ hh;simp only[rep]at k1 k2 k3;subst hi' hj;refine⟨.string (s.extract a k),?_,by simp only[rep]⟩;simp[execOp,k1,k2,k3,Instr.sliceAt,Instr.slice,Instr.sliceBounds,Instr.sliceBound,asIntOf,run_underlying hu,h1,h2]
def Ca(s:AG):Bool:=decide (s.data.toList.head?=some 47)
def B7(s:AG):Bool:=decide (s.data.toList.getLast?=some 47)
theorem N6{s:AG}(h:0<s.size):Ca s=decide (((s[0]'h).toNat:Int)=47):=by
 unfold Ca;rw[XO s h,Bool.eq_iff_iff];simp
theorem N7{s:AG}(h:0<s.size):B7 s=decide (((s[s.size - 1]'(by omega)).toNat:Int)=47):=by
 unfold B7;rw[XP s h,Bool.eq_iff_iff];simp
theorem N8{s:AG}(h:¬0<s.size):Ca s=false:=by
 have:s.data.toList=[]:=Cj (by rw[←Lib.size_eq];omega);unfold Ca;rw[this];rfl
theorem N9{s:AG}(h:¬0<s.size):B7 s=false:=by
 have:s.data.toList=[]:=Cj (by rw[←Lib.size_eq];omega);unfold B7;rw[this];rfl
theorem TU{s:AG}{k:Nat}(h:k<s.size)(h47:((s[k]'h).toNat:Int)=47):s.data.toList[k]?=some 47:=by
 rw[Lib.data_getElem? s k h]
 congr 1
 refine UInt8.toNat_inj.1 ?_;show _=47;omega
theorem TV{s:AG}{f k:Nat}{ps:List AG}(hI:DZ s.data.toList f k (C1 ps))(h:k=s.size∨s.data.toList[k]?=some 47):DZ s.data.toList (k+1) (k+1) (C1 ps++one_ ((s.data.toList.drop f).take (k - f))):=by
 rcases h with h|h
 ·rw[Lib.size_eq]at h;subst h;exact XK hI
 exact XJ hI h
theorem TW{s:AG}{f k:Nat}{ps:List AG}(hI:DZ s.data.toList f k (C1 ps))(hk:k≤s.size)(h:k=s.size∨s.data.toList[k]?=some 47)(hf:f<k):DZ s.data.toList (k+1) (k+1) (C1 (ps++[s.extract f k])):=XQ (TV hI h) (XM (XN s hf hk))
theorem TX{s:AG}{f k:Nat}{ps:List AG}(hI:DZ s.data.toList f k (C1 ps))(h:k=s.size∨s.data.toList[k]?=some 47)(hf:¬f<k):DZ s.data.toList (k+1) (k+1) (C1 ps):=XR (TV hI h) (by omega)
theorem Z4{s:AG}{f k:Nat}{ps:List AG}(hI:DZ s.data.toList f k (C1 ps))(h:k<s.size)(h47:¬((s[k]'h).toNat:Int)=47):DZ s.data.toList f (k+1) (C1 ps):=XH hI (Lib.data_getElem? s k h) (fun e=>h47 (by rw[e];rfl))
theorem TY(ps:List AG):ps.length≤(Ck (C1 ps)).length:=by
 induction ps with
 |nil=>simp
 |cons p ps ih=>
   have:C1 (p::ps)=p.data.toList::C1 ps:=rfl;rw[this,FS];simp;omega
theorem Pg{s:AG}{ps:List AG}(h:C1 ps=Bn s.data.toList){i:Nat}{x:AG}(hx:ps[i]?=some x):x.size≤s.size:=by
 rw[Lib.size_eq,Lib.size_eq s];refine XW ?_;rw[←h];exact List.mem_map.2 ⟨x,Ar hx,rfl⟩
theorem Z5{ps:List AG}{j:Nat}{x t:AG}(hx:ps[j]?=some x)(h:t.data.toList=Ck ((C1 ps).take j)):(t++(⟨#[47]⟩++x)).data.toList=Ck ((C1 ps).take (j+1)):=by
 have e:(C1 ps)[j]?=some x.data.toList:=by unfold C1;rw[List.getElem?_map,hx];rfl
 rw[List.take_add_one,e,Oy,←h];simp[Ck]
theorem LS{a b:AG}(h:a.data.toList=b.data.toList):a=b:=ByteArray.ext (Array.toList_inj.1 h)
theorem Z6{s:AG}{ps:List AG}(h:C1 ps=Bn s.data.toList){i:Nat}{x:AG}(hx:ps[i]?=some x)(hn:Cn x=false):D2 s.data.toList=false:=by
 rw[←P3];unfold Kz;rw[←h];have:(C1 ps).all DY=false:=List.all_eq_false.2 ⟨x.data.toList,List.mem_map.2 ⟨x,Ar hx,rfl⟩,by rw[←Mq,hn];simp⟩;rw[this,Bool.false_and]
theorem Z7{s t1:AG}{ps:List AG}(h:C1 ps=Bn s.data.toList)(ha:∀(i:Nat) (y:AG),i<ps.length→ps[i]?=some y→Cn y=true)(ht:t1.data.toList=Ck ((C1 ps).take ps.length))(h3:¬s=⟨#[47]⟩)(h0:0<ps.length):D2 s.data.toList=decide (s=t1):=by
 have hl:(C1 ps).length=ps.length:=by simp[C1]
 rw[List.take_of_length_le (by omega)]at ht;rw[←P3];unfold Kz;rw[←h,←ht]
 have h1:(C1 ps).all DY=true:=List.all_eq_true.2 fun y hy=>by
  obtain⟨z,hz,rfl⟩:=List.mem_map.1 hy;obtain⟨i,hi⟩:=List.getElem?_of_mem hz;rw[←Mq];exact ha i z (Ah.1 hi).1 hi
 have h2:decide (s.data.toList=[47])=false:=decide_eq_false fun e=>h3 (LS e);have h4:C1 ps≠[]:=fun e=>by rw[e]at hl;simp at hl;omega
 rw[h1,h2,decide_eq_true h4];simp only[Bool.true_and,Bool.false_or];rw[Bool.eq_iff_iff,decide_eq_true_iff,decide_eq_true_iff];exact⟨fun e=>LS e,fun e=>by rw[e]⟩
theorem Z8{s:AG}{ps:List AG}(h:C1 ps=Bn s.data.toList)(h3:¬s=⟨#[47]⟩)(h0:ps.length=0):D2 s.data.toList=false:=by
 have e:C1 ps=[]:=by rw[Cj h0];rfl
 rw[←P3];unfold Kz;rw[←h,e];have h2:decide (s.data.toList=[47])=false:=decide_eq_false fun e=>h3 (LS e);rw[h2];simp
section
theorem Ph(s:AG)(hs:s.size≤100000):AFn prog 191 [.v (.string s)] (fun r=>∃ps:List AG,C1 ps=Bn s.data.toList∧r= .tup [.sl 1 (ps.map Ce) none, .v (.bool (Ca s)), .v (.bool (B7 s))]):=by
 have hsz:=Lib.size_eq s;refine enter Tryz.func191 rfl rfl rfl rfl rfl 0 rfl ?_;refine w_ (a_ (h:=a_ (h:=a_ (h:=e_ (w_ (a_ (h:=e_ (w_ (a_ (h:=e_ (q_ (w_ (a_ (h:=e_ (Af (?_))))))))))))))));refine KS 5 9 1 rfl (by repeat constructor) ?_;refine BW (fun m t=>∃(f k:Nat) (ps:List AG),k≤s.size+1∧f≤k∧ps.length≤k∧m=s.size+1 - k∧DZ s.data.toList f k (C1 ps)∧t=⟨look [(0, .v (.string s)),(5, .sl 1 (ps.map Ce) (some 0)),(6, .v (.int .i64 (f:Int))),(7, .v (.int .i64 (k:Int)))],⟨[],[(9,1,ps.map Ce)]⟩⟩) (s.size+1) ((wk 0 1)) (⟨0,0,[],by omega,by omega,by simp,rfl,XL _,rfl⟩) ?_;rintro m t ⟨f,k,ps,hk,hfk,hpl,rfl,hI,rfl⟩;refine q_ (w_ (m_ (h:=m_ (h:=n_ (h:=EC (h:=e_ (?_)))))));refine A9 rfl (fun hb1=>?_) (fun hb1=>?_)
 ·have hc1:=bp hb1;refine AE (q_ (Af (w_ (m_ (h:=m_ (h:=n_ (h:=AN (h:=m_ (h:=?_)))))))));refine AR false rfl rfl (fun hb2=>?_) (fun hb2=>?_)
  ·have hc2:=bp hb2;refine A3 (h:=A3 (h:=A3 (h:=A3 (h:=AB (h:=e_ (B2 (h:=q_ (w_ (m_ (h:=m_ (h:=Bb (h:=e_ (?_)))))))))))));refine A9 rfl (fun hb3=>?_) (fun hb3=>?_)
   ·have hc3:=bp hb3;have hnx:=TW hI (by omega) (.inl (by omega)) (by omega);refine AW (m_ (h:=m_ (h:=m_ (h:=m_ (h:=?_)))));refine A6 rfl (TT (a:=f) (k:=k) Tryz.underlying9 rfl rfl rfl rfl rfl (by omega) (by omega) ?_);refine Bo (h:=?_)
    first|refine A6 rfl (E7 rfl rfl rfl (by simp;omega) (by repeat constructor) ?_)|refine A6 rfl (E8 rfl rfl (by simp;omega) (by repeat constructor) ?_)
    refine a_ (h:=e_ (AW (m_ (h:=BE (h:=a_ (h:=AQ (Al (t_ (AW (m_ (h:=BE (h:=a_ (h:=AQ (?_))))))))))))));refine AK ?_;refine⟨_,_,?_,⟨_,k+1,_,by omega,by omega,(by(try simp only[List.length_append,List.length_cons,List.length_nil]);omega),rfl,hnx,rfl⟩,(by(try simp only[List.map_append,List.map_cons,List.map_nil]);exact Az 0 1 rfl rfl rfl rfl ((by repeat (first|exact Sub.nil|refine B0 rfl rfl ?_|refine B3 ?_|refine B4 rfl ?_|refine B5 rfl ?_))))⟩;omega
   have hc3:=bp hb3;have hnx:=TX hI (.inl (by omega)) (by omega);refine AE (AW (m_ (h:=BE (h:=a_ (h:=AQ (Al (t_ (AW (m_ (h:=BE (h:=a_ (h:=AQ (?_)))))))))))));refine AK ?_;refine⟨_,_,?_,⟨_,k+1,_,by omega,by omega,(by(try simp only[List.length_append,List.length_cons,List.length_nil]);omega),rfl,hnx,rfl⟩,(by(try simp only[List.map_append,List.map_cons,List.map_nil]);exact Az 0 1 rfl rfl rfl rfl ((by repeat (first|exact Sub.nil|refine B0 rfl rfl ?_|refine B3 ?_|refine B4 rfl ?_|refine B5 rfl ?_))))⟩;omega
  have hc2:=bp hb2;refine m_ (h:=m_ (h:=?_));refine Av (H4 (n:=k) Tryz.underlying9 rfl rfl rfl (by omega) ?_);refine AN (h:=AF (h:=e_ (?_)));refine A9 rfl (fun hb4=>?_) (fun hb4=>?_)
  ·have hc4:=bp hb4;refine q_ (w_ (m_ (h:=m_ (h:=Bb (h:=e_ (?_))))));refine A9 rfl (fun hb5=>?_) (fun hb5=>?_)
   ·have hc5:=bp hb5;have hnx:=TW hI (by omega) (.inr (TU (by omega) hc4)) (by omega);refine AW (m_ (h:=m_ (h:=m_ (h:=m_ (h:=?_)))));refine A6 rfl (TT (a:=f) (k:=k) Tryz.underlying9 rfl rfl rfl rfl rfl (by omega) (by omega) ?_);refine Bo (h:=?_)
    first|refine A6 rfl (E7 rfl rfl rfl (by simp;omega) (by repeat constructor) ?_)|refine A6 rfl (E8 rfl rfl (by simp;omega) (by repeat constructor) ?_)
    refine a_ (h:=e_ (AW (m_ (h:=BE (h:=a_ (h:=AQ (Al (t_ (AW (m_ (h:=BE (h:=a_ (h:=AQ (?_))))))))))))));refine AK ?_;refine⟨_,_,?_,⟨_,k+1,_,by omega,by omega,(by(try simp only[List.length_append,List.length_cons,List.length_nil]);omega),rfl,hnx,rfl⟩,(by(try simp only[List.map_append,List.map_cons,List.map_nil]);exact Az 0 1 rfl rfl rfl rfl ((by repeat (first|exact Sub.nil|refine B0 rfl rfl ?_|refine B3 ?_|refine B4 rfl ?_|refine B5 rfl ?_))))⟩;omega
   have hc5:=bp hb5;have hnx:=TX hI (.inr (TU (by omega) hc4)) (by omega);refine AE (AW (m_ (h:=BE (h:=a_ (h:=AQ (Al (t_ (AW (m_ (h:=BE (h:=a_ (h:=AQ (?_)))))))))))));refine AK ?_;refine⟨_,_,?_,⟨_,k+1,_,by omega,by omega,(by(try simp only[List.length_append,List.length_cons,List.length_nil]);omega),rfl,hnx,rfl⟩,(by(try simp only[List.map_append,List.map_cons,List.map_nil]);exact Az 0 1 rfl rfl rfl rfl ((by repeat (first|exact Sub.nil|refine B0 rfl rfl ?_|refine B3 ?_|refine B4 rfl ?_|refine B5 rfl ?_))))⟩;omega
  have hc4:=bp hb4;have hnx:=Z4 hI (by omega) hc4;refine Aw (Al (t_ (AW (m_ (h:=BE (h:=a_ (h:=AQ (?_))))))));refine AK ?_;refine⟨_,_,?_,⟨_,k+1,_,by omega,by omega,(by(try simp only[List.length_append,List.length_cons,List.length_nil]);omega),rfl,hnx,rfl⟩,(by(try simp only[List.map_append,List.map_cons,List.map_nil]);exact Az 0 1 rfl rfl rfl rfl ((by repeat (first|exact Sub.nil|refine B0 rfl rfl ?_|refine B3 ?_|refine B4 rfl ?_|refine B5 rfl ?_))))⟩;omega
 have hc1:=bp hb1;refine BL (Ai (Ai (BM (t_ (q_ (D7 23 (h:=Ap 0 (h:=Ap 1 (h:=J1 2 (h:=ON 3 (h:=Ap 4 (h:=?_))))))))))));refine Hl (j:=4) rfl (fun hb6=>?_) (fun hb6=>?_)
 ·have hc6:=bp hb6;refine Ap 5 (h:=?_);refine EP (i:=6) rfl (H4 (n:=0) Tryz.underlying9 rfl rfl rfl (by omega) ⟨rfl,rfl⟩) ?_;refine Gv 7 (h:=Gt 8 (h:=Ap 9 (h:=J1 10 (h:=ON 11 (h:=Ap 12 (h:=?_))))));refine Hl (j:=12) rfl (fun hb7=>?_) (fun hb7=>?_)
  ·have hc7:=bp hb7;refine Ap 13 (h:=Ap 14 (h:=J1 15 (h:=OL 16 (h:=?_))));refine EP (i:=17) rfl (H4 (n:=s.size - 1) Tryz.underlying9 rfl rfl (by omega) (by omega) ⟨rfl,rfl⟩) ?_;refine Gv 18 (h:=Gt 19 (h:=BN 20 (h:=BN 21 (h:=BN 22 (h:=z_ (h:=t_ (A4 (?_))))))));refine A8 ?_;refine⟨ps,Mp hI (by omega),?_⟩
   first|(rw[N6 (by omega),N7 (by omega)];rfl)|(rw[N8 (by omega),N9 (by omega)];rfl)|(exfalso;omega)
  have hc7:=bp hb7;refine Ba 13 (h:=Ba 14 (h:=Ba 15 (h:=Ba 16 (h:=Ba 17 (h:=Ba 18 (h:=Gu 19 (h:=BN 20 (h:=BN 21 (h:=BN 22 (h:=z_ (h:=t_ (A4 (?_)))))))))))));refine A8 ?_;refine⟨ps,Mp hI (by omega),?_⟩
  first|(rw[N6 (by omega),N7 (by omega)];rfl)|(rw[N8 (by omega),N9 (by omega)];rfl)|(exfalso;omega)
 have hc6:=bp hb6;refine Ba 5 (h:=Ba 6 (h:=Ba 7 (h:=Gu 8 (h:=Ap 9 (h:=J1 10 (h:=ON 11 (h:=Ap 12 (h:=?_))))))));refine Hl (j:=12) rfl (fun hb8=>?_) (fun hb8=>?_)
 ·have hc8:=bp hb8;refine Ap 13 (h:=Ap 14 (h:=J1 15 (h:=OL 16 (h:=?_))));refine EP (i:=17) rfl (H4 (n:=s.size - 1) Tryz.underlying9 rfl rfl (by omega) (by omega) ⟨rfl,rfl⟩) ?_;refine Gv 18 (h:=Gt 19 (h:=BN 20 (h:=BN 21 (h:=BN 22 (h:=z_ (h:=t_ (A4 (?_))))))));refine A8 ?_;refine⟨ps,Mp hI (by omega),?_⟩
  first|(rw[N6 (by omega),N7 (by omega)];rfl)|(rw[N8 (by omega),N9 (by omega)];rfl)|(exfalso;omega)
 have hc8:=bp hb8;refine Ba 13 (h:=Ba 14 (h:=Ba 15 (h:=Ba 16 (h:=Ba 17 (h:=Ba 18 (h:=Gu 19 (h:=BN 20 (h:=BN 21 (h:=BN 22 (h:=z_ (h:=t_ (A4 (?_)))))))))))));refine A8 ?_;refine⟨ps,Mp hI (by omega),?_⟩
 first|(rw[N6 (by omega),N7 (by omega)];rfl)|(rw[N8 (by omega),N9 (by omega)];rfl)|(exfalso;omega)
theorem NA(s:AG)(hs:s.size≤50000):AFn prog 156 [.v (.string s)] (fun r=>r= .v (.bool (D2 s.data.toList))):=by
 have hsz:=Lib.size_eq s;refine enter Tryz.func156 rfl rfl rfl rfl rfl 0 rfl ?_;refine w_ (a_ (h:=e_ (w_ (m_ (h:=?_)))));refine A6 rfl (AJ (Ph s (by omega)) ?_);rintro r ⟨ps,hps,rfl⟩;have hpl:(ps.map Ce).length=ps.length:=by simp
 have hfl:=P5 s.data.toList;rw[←hps]at hfl;have hpm:=TY ps;refine m_ (h:=x_ (h:=x_ (h:=x_ (h:=a_ (h:=a_ (h:=a_ (h:=e_ (w_ (a_ (h:=e_ (q_ (w_ (a_ (h:=e_ (Af (?_))))))))))))))));refine BW (fun m t=>∃(j:Nat) (t1:AG),j≤ps.length∧m=ps.length - j∧(∀i y,i<j→ps[i]?=some y→Cn y=true)∧t1.data.toList=Ck ((C1 ps).take j)∧t=⟨look [(0, .v (.string s)),(3, .sl 1 (ps.map Ce) none),(6, .v (.string t1)),(7, .v (.int .i64 (j:Int)))],⟨[],[]⟩⟩) (ps.length) ((wk 0 0)) (⟨0,⟨#[]⟩,by omega,rfl,fun i y hi=>by omega,rfl,rfl⟩) ?_;rintro m t ⟨j,t1,hj,rfl,ha,ht1,rfl⟩;refine q_ (w_ (m_ (h:=m_ (h:=n_ (h:=B1 (h:=e_ (?_)))))));refine A9 rfl (fun hb1=>?_) (fun hb1=>?_)
 ·have hc1:=bp hb1;obtain⟨hlt,x,hy,hrow, -⟩:=Bv Ce hc1;have ht2:t1.size≤s.size+1:=by rw[Lib.size_eq,ht1];exact Nat.le_trans (XV _ _) (by omega)
  refine AE (q_ (Af (q_ (w_ (m_ (h:=m_ (h:=?_)))))));refine A6 rfl (DV (n:=j) rfl rfl rfl hrow ?_);refine l_ (h:=?_);refine A6 rfl (AJ (OQ x (by have:=Pg hps hy;omega)) ?_);rintro r rfl;refine BB (h:=e_ (?_));refine A9 rfl (fun hb2=>?_) (fun hb2=>?_)
  ·have hc2:=bp hb2;refine w_ (a_ (h:=e_ (A4 (A7 (AP (A7 (A7 (AP (A7 (?_))))))))));refine A8 ?_;exact vb (Z6 hps hy hc2).symm
  have hc2:=bp hb2;refine AE (AW (m_ (h:=m_ (h:=m_ (h:=?_)))));refine A6 rfl (DV (n:=j) rfl rfl rfl hrow ?_);refine l_ (h:=?_);refine A6 rfl (Dv rfl rfl (by have:=Pg hps hy;show 1+x.size≤_;omega) ?_);refine A6 rfl (Dv rfl rfl (by have:=Pg hps hy;rw[ByteArray.size_append];show t1.size+(1+x.size)≤_;omega) ?_);refine a_ (h:=AQ (Al (t_ (AW (m_ (h:=BE (h:=a_ (h:=AQ (?_)))))))));refine AK ?_;refine⟨_,_,?_,⟨j+1,t1++(⟨#[47]⟩++x),by omega,rfl,FO hy ha hc2,Z5 hy ht1,rfl⟩,(wk 0 0)⟩;omega
 have hc1:=bp hb1;refine BL (Ai (Ai (BM (t_ (w_ (m_ (h:=AN (h:=m_ (h:=?_)))))))));refine AR false rfl rfl (fun hb3=>?_) (fun hb3=>?_)
 ·have hc3:=bp hb3;refine A3 (h:=A3 (h:=A3 (h:=A3 (h:=AU (h:=AU (h:=AU (h:=A3 (h:=AB (h:=a_ (h:=e_ (A4 (?_))))))))))));refine A8 ?_;exact vb (by rw[hc3];rfl)
 have hc3:=bp hb3;refine m_ (h:=n_ (h:=Bb (h:=m_ (h:=?_))));refine AR true rfl rfl (fun hb4=>?_) (fun hb4=>?_)
 ·have hc4:=bp hb4;refine m_ (h:=m_ (h:=AN (h:=AB (h:=AF (h:=a_ (h:=e_ (A4 (?_))))))));refine A8 ?_;have e:=CM Ce hj hc1;subst e;exact vb (Z7 hps ha ht1 hc3 (by omega)).symm
 have hc4:=bp hb4;refine A3 (h:=A3 (h:=A3 (h:=AF (h:=AF (h:=a_ (h:=e_ (A4 (?_))))))));refine A8 ?_;have e:=CM Ce hj hc1;subst e;exact vb (Z8 hps hc3 (by omega)).symm
end
theorem TZ{f:AZ}{a:AA}(h:Am f a=true):(As f a).ino=a.2:=by
 obtain⟨q,d,m,_,_,_,h4,h5,_⟩:=Hd (f:=f) (a:=a) (by rw[h];simp);rw[h5,h4]
theorem Pi{s:Spc}{d:Int}(h:(Bj s d).isSome=true):Bj s d=some ((Bj s d).getD (0,0)):=by
 cases ho:Bj s d with
 |none=>rw[ho]at h;cases h
 |some o=>rfl
theorem Z9{s:Spc}{d:Int}(h:(Bj s d).isSome=false):Bj s d=none:=by
 cases ho:Bj s d with
 |none=>rfl
 |some o=>rw[ho]at h;cases h
theorem NC{s:Spc}{a:AA}(k:Nat)(h:Am s.files a=false):D3 s (k+1) a=(0,0):=by unfold D3;rw[h];rfl
theorem Pj{s:Spc}{a:AA}(k:Nat)(h:Am s.files a=true)(h1:¬a.2=1):D3 s (k+1) a=(a.1,(As s.files a).parent):=by unfold D3;rw[if_pos h,if_pos h1]
theorem Pk{s:Spc}{a:AA}(k:Nat)(h:Am s.files a=true)(h1:a.2=1)(ho:(Bj s a.1).isSome=true):D3 s (k+1) a=D3 s k ((Bj s a.1).getD (0,0)):=by
 conv=>lhs;unfold D3
 rw[if_pos h,if_neg (by simpa using h1),Pi ho];rfl
theorem Pl{s:Spc}{a:AA}(k:Nat)(h:Am s.files a=true)(h1:a.2=1)(ho:(Bj s a.1).isSome=false):D3 s (k+1) a=a:=by
 conv=>lhs;unfold D3
 rw[if_pos h,if_neg (by simpa using h1),Z9 ho]
section
theorem Ta{s:Spc}(hs:SpcB s)(hv:SpcV s)(a:AA)
    (hrec:Am s.files a=true→∀b,CY s a=some b→AFn prog 195 [.agg (Aj s), .agg (AD b)] (fun r=>r= .tup [.v (.string (BZ s b).1), .v (.bool (BZ s b).2)])):
    AFn prog 195 [.agg (Aj s), .agg (AD a)] (fun r=>r= .tup [.v (.string (BZ s a).1), .v (.bool (BZ s a).2)]):=by
 have hnm:=Pa hv.files a;have hwz:=Pe hv;refine enter Tryz.func195 rfl rfl rfl rfl rfl 0 rfl ?_;refine w_ (b_ (h:=b_ (h:=a_ (h:=a_ (h:=e_ (q_ (w_ (f_ (h:=l_ (h:=l_ (h:=?_)))))))))));refine A6 rfl (AJ (GS s.files a hs.files) ?_);rintro r rfl;refine BB (h:=m_ (h:=?_));refine AR false rfl rfl (fun hb1=>?_) (fun hb1=>?_)
 ·have hc1:=bp hb1;refine A3 (h:=A3 (h:=A3 (h:=A3 (h:=A3 (h:=AB (h:=e_ (B2 (h:=w_ (a_ (h:=a_ (h:=e_ (A4 (A7 (?_))))))))))))));refine A8 ?_
  first|(rw[K1 hv (by simp_all)];rfl)|(rw[hw1];first|rfl|(rw[←hw2];rfl))|(rw[h00,LR hv (by rw[←h00];exact hc1)];rfl)
 have hc1:=bp hb1;refine l_ (h:=f_ (h:=l_ (h:=?_)));refine Av (AJ (OU s a.1 hs) ?_);rintro r rfl;refine BB (h:=AF (h:=e_ (?_)));refine A9 rfl (fun hb2=>?_) (fun hb2=>?_)
 ·have hc2:=bp hb2;refine w_ (a_ (h:=a_ (h:=e_ (A4 (A7 (?_))))));refine A8 ?_
  first|(rw[K1 hv (by simp_all)];rfl)|(rw[hw1];first|rfl|(rw[←hw2];rfl))|(rw[h00,LR hv (by rw[←h00];exact hc1)];rfl)
 have hc2:=bp hb2;refine AE (q_ (w_ (f_ (h:=l_ (h:=AN (h:=e_ (?_)))))));refine A9 rfl (fun hb3=>?_) (fun hb3=>?_)
 ·have hc3:=bp hb3;refine q_ (w_ (l_ (h:=f_ (h:=l_ (h:=?_)))));refine A6 rfl (AJ (OT s a.1 hs) ?_);rintro r rfl;refine m_ (h:=x_ (h:=x_ (h:=Ac (h:=s_ (h:=a_ (h:=e_ (w_ (m_ (h:=e_ (?_))))))))));refine A9 rfl (fun hb4=>?_) (fun hb4=>?_)
  ·have hc4:=bp hb4;have hst:CY s a=some ((Bj s a.1).getD (0,0)):=by unfold CY;rw[if_neg (by simpa using hc3)];exact Pi hc4
   obtain⟨hw1,hw2⟩:=TL hv hc1 hc2 (fun e=>by rw[e,Pd hv]at hc4;cases hc4) hst;rw[if_pos hc3]at hw1;refine w_ (l_ (h:=l_ (h:=?_)));refine A6 rfl (AJ (hrec hc1 _ hst) ?_);rintro r rfl
   skip
   refine x_ (h:=x_ (h:=a_ (h:=a_ (h:=e_ (A4 (A7 (A7 (?_))))))));refine A8 ?_
   first|(rw[K1 hv (by simp_all)];rfl)|(rw[hw1];first|rfl|(rw[←hw2];rfl))|(rw[h00,LR hv (by rw[←h00];exact hc1)];rfl)
  have hc4:=bp hb4
  have h00:a=(0,1):=by
   refine Prod.ext ?_ hc3;have:=hc2;unfold C3 at this;rw[hc4,Bool.false_or]at this;exact of_decide_eq_true this
  refine AE (w_ (a_ (h:=a_ (h:=e_ (A4 (A7 (?_)))))));refine A8 ?_
  first|(rw[K1 hv (by simp_all)];rfl)|(rw[hw1];first|rfl|(rw[←hw2];rfl))|(rw[h00,LR hv (by rw[←h00];exact hc1)];rfl)
 have hc3:=bp hb3;have hst:CY s a=some (a.1,(As s.files a).parent):=if_pos hc3;obtain⟨hw1,hw2⟩:=TL hv hc1 hc2 (fun e=>hc3 (by rw[e])) hst;rw[if_neg hc3]at hw1;refine AE (w_ (f_ (h:=l_ (h:=l_ (h:=?_)))));refine A6 rfl (AJ (Ed s.files a hs.files) ?_);rintro r rfl;refine m_ (h:=x_ (h:=x_ (h:=Ac (h:=s_ (h:=a_ (h:=e_ (w_ (l_ (h:=f_ (h:=l_ (h:=f_ (h:=l_ (h:=Ab (h:=?_))))))))))))));refine A6 rfl (AJ (hrec hc1 _ hst) ?_);rintro r rfl
 skip
 refine m_ (h:=x_ (h:=x_ (h:=a_ (h:=a_ (h:=e_ (w_ (m_ (h:=f_ (h:=l_ (h:=l_ (h:=?_)))))))))));refine A6 rfl (AJ (Z3 s a hs) ?_);rintro r rfl;refine A6 rfl (AJ (TS (BZ s (a.1,(As s.files a).parent)).1 (By s a) (by have:=hwz (a.1,(As s.files a).parent);omega) (by omega)) ?_);rintro r rfl;refine m_ (h:=a_ (h:=a_ (h:=e_ (A4 (?_)))));refine A8 ?_
 first|(rw[K1 hv (by simp_all)];rfl)|(rw[hw1];first|rfl|(rw[←hw2];rfl))|(rw[h00,LR hv (by rw[←h00];exact hc1)];rfl)
theorem ZA{s:Spc}(hs:SpcB s)(hv:SpcV s)(a:AA):AFn prog 195 [.agg (Aj s), .agg (AD a)] (fun r=>r= .tup [.v (.string (BZ s a).1), .v (.bool (BZ s a).2)]):=by
 have key:∀(k:Nat) (a:AA),E5 s k a→AFn prog 195 [.agg (Aj s), .agg (AD a)] (fun r=>r= .tup [.v (.string (BZ s a).1), .v (.bool (BZ s a).2)]):=by
  intro k
  induction k with
  |zero=>intro a h;exact Ta hs hv a fun hd=>by rw[show Am s.files a=false from h]at hd;cases hd
  |succ k ih=>intro a h;exact Ta hs hv a fun hd b hb=>ih b (h.resolve_left (by rw[hd];simp) b hb)
 exact key _ a (GD hv a)
theorem ZB{s:Spc}(hs:SpcB s)(a:AA)(p:Nat)(hrec:(Bj s a.1).isSome=true→AFn prog 194 [.agg (Aj s), .agg (AD ((Bj s a.1).getD (0,0)))] (fun r=>r= .agg (AD (D3 s p ((Bj s a.1).getD (0,0)))))):
    AFn prog 194 [.agg (Aj s), .agg (AD a)] (fun r=>r= .agg (AD (D3 s (p+1) a))):=by
 have hde:=FQ s.files a;refine enter Tryz.func194 rfl rfl rfl rfl rfl 0 rfl ?_;refine w_ (b_ (h:=b_ (h:=Ac (h:=e_ (w_ (f_ (h:=l_ (h:=l_ (h:=?_)))))))));refine A6 rfl (AJ (Ed s.files a hs.files) ?_);rintro r rfl;refine m_ (h:=x_ (h:=x_ (h:=Ac (h:=s_ (h:=a_ (h:=e_ (q_ (w_ (m_ (h:=BB (h:=m_ (h:=?_))))))))))));refine AR false rfl rfl (fun hb1=>?_) (fun hb1=>?_)
 ·have hc1:=bp hb1;refine A3 (h:=A3 (h:=A3 (h:=AB (h:=e_ (B2 (h:=w_ (Ab (h:=s_ (h:=e_ (A4 (A7 (?_))))))))))));refine A8 ?_;rw[NC p (by rw[hde,hc1];rfl)];rfl
 have hc1:=bp hb1;refine f_ (h:=l_ (h:=Ao (h:=AF (h:=e_ (?_)))));refine A9 rfl (fun hb2=>?_) (fun hb2=>?_)
 ·have hc2:=bp hb2;refine w_ (Ab (h:=s_ (h:=e_ (A4 (A7 (?_))))));refine A8 ?_;rw[NC p (by rw[hde,decide_eq_false hc2,Bool.and_false])];rfl
 have hc2:=bp hb2;refine AE (q_ (w_ (f_ (h:=l_ (h:=Ao (h:=e_ (?_)))))));refine A9 rfl (fun hb3=>?_) (fun hb3=>?_)
 ·have hc3:=bp hb3;refine w_ (f_ (h:=l_ (h:=f_ (h:=l_ (h:=Ab (h:=s_ (h:=e_ (A4 (A7 (?_))))))))));refine A8 ?_;rw[Pj p (by rw[hde,hc1,decide_eq_true hc2];rfl) hc3];rfl
 have hc3:=bp hb3;refine AE (q_ (w_ (l_ (h:=f_ (h:=l_ (h:=?_))))));refine A6 rfl (AJ (OT s a.1 hs) ?_);rintro r rfl;refine m_ (h:=x_ (h:=x_ (h:=Ac (h:=s_ (h:=a_ (h:=e_ (w_ (m_ (h:=e_ (?_))))))))));refine A9 rfl (fun hb4=>?_) (fun hb4=>?_)
 ·have hc4:=bp hb4;refine w_ (l_ (h:=l_ (h:=?_)));refine A6 rfl (AJ (hrec hc4) ?_);rintro r rfl;refine s_ (h:=e_ (A4 (A7 (?_))));refine A8 ?_;rw[Pk p (by rw[hde,hc1,decide_eq_true hc2];rfl) hc3 hc4];rfl
 have hc4:=bp hb4;refine AE (w_ (l_ (h:=s_ (h:=e_ (A4 (?_))))));refine A8 ?_;rw[Pl p (by rw[hde,hc1,decide_eq_true hc2];rfl) hc3 hc4];rfl
theorem ZC{s:Spc}(hs:SpcB s)(hv:SpcV s):∀(p:Nat) (a:AA),He s a.1<p→AFn prog 194 [.agg (Aj s), .agg (AD a)] (fun r=>r= .agg (AD (D3 s p a))):=by
 intro p
 induction p with
 |zero=>intro a h;omega
 |succ p ih=>intro a hp;exact ZB hs a p fun ho=>ih _ (by have:=T5 hv (Pi ho);omega)
theorem ZD{s:Spc}(hs:SpcB s)(hv:SpcV s)(a:AA):AFn prog 265 [.agg (Aj s), .agg (AD a)] (fun r=>r= .agg (AD (D3 s (s.mounts.length+1) a))):=by
 have hfew:=hs.few;have hml:(s.mounts.map Co).length=s.mounts.length:=by simp
 refine enter Tryz.func265 rfl rfl rfl rfl rfl 0 rfl ?_;refine w_ (b_ (h:=b_ (h:=Ac (h:=e_ (q_ (w_ (f_ (h:=l_ (h:=n_ (h:=BE (h:=m_ (h:=e_ (Af (?_))))))))))))));refine BW (fun m t=>∃(j:Nat) (b:AA),j≤s.mounts.length+1∧m=s.mounts.length+1 - j∧D3 s (s.mounts.length+1 - j) b=D3 s (s.mounts.length+1) a∧t=⟨look [(2, .bp 0 0),(3, .bp 1 0),(4, .bp 2 0),(11, .v (.int .i64 (((s.mounts.map Co).length:Int)+1))),(12, .v (.int .i64 (j:Int)))],⟨[Aj s,AD b,[.v (.int .i64 0), .v (.int .i64 0)]],[]⟩⟩) (s.mounts.length+1) ((wk 3 0)) (⟨0,a,by omega,rfl,rfl,rfl⟩) ?_;rintro m t ⟨j,b,hj,rfl,hit,rfl⟩;have hde:=FQ s.files b;refine w_ (B1 (h:=e_ (q_ (?_))));refine A9 rfl (fun hb1=>?_) (fun hb1=>?_)
 ·have hc1:=bp hb1;obtain⟨k,hk⟩:∃k,s.mounts.length+1 - j=k+1:=⟨s.mounts.length - j,by omega⟩;rw[hk]at hit;refine AE (q_ (Af (w_ (f_ (h:=l_ (h:=l_ (h:=?_)))))));refine A6 rfl (AJ (G5 s.files b hs.files) ?_);rintro r rfl;refine m_ (h:=x_ (h:=x_ (h:=Ac (h:=s_ (h:=a_ (h:=e_ (q_ (w_ (m_ (h:=BB (h:=m_ (h:=?_))))))))))));refine AR false rfl rfl (fun hb2=>?_) (fun hb2=>?_)
  ·have hc2:=bp hb2;refine A3 (h:=A3 (h:=A3 (h:=AB (h:=e_ (B2 (h:=w_ (Ab (h:=s_ (h:=e_ (A4 (A7 (AP (A7 (A7 (AP (A7 (?_)))))))))))))))));refine A8 ?_;rw[←hit,NC k (by rw[hde,hc2];rfl)];rfl
  have hc2:=bp hb2;refine f_ (h:=l_ (h:=Ao (h:=AF (h:=e_ (?_)))));refine A9 rfl (fun hb3=>?_) (fun hb3=>?_)
  ·have hc3:=bp hb3;refine w_ (Ab (h:=s_ (h:=e_ (A4 (A7 (AP (A7 (A7 (AP (A7 (?_)))))))))));refine A8 ?_;rw[←hit,NC k (by rw[hde,decide_eq_false hc3,Bool.and_false])];rfl
  have hc3:=bp hb3;refine AE (q_ (w_ (f_ (h:=l_ (h:=Ao (h:=e_ (?_)))))));refine A9 rfl (fun hb4=>?_) (fun hb4=>?_)
  ·have hc4:=bp hb4;have hdd:Am s.files b=true:=by rw[hde,hc2,decide_eq_true hc3];rfl
   have hb1:¬b.2=1:=by rw[←TZ hdd];exact hc4
   refine w_ (f_ (h:=l_ (h:=f_ (h:=l_ (h:=Ab (h:=s_ (h:=e_ (A4 (A7 (AP (A7 (A7 (AP (A7 (?_)))))))))))))));refine A8 ?_;rw[←hit,Pj k hdd hb1];rfl
  have hc4:=bp hb4;have hdd:Am s.files b=true:=by rw[hde,hc2,decide_eq_true hc3];rfl
  have hb1:b.2=1:=by rw[←TZ hdd];exact hc4
  refine AE (w_ (l_ (h:=f_ (h:=l_ (h:=?_)))));refine A6 rfl (AJ (OV s b.1 hs) ?_);rintro r rfl;refine m_ (h:=x_ (h:=x_ (h:=Ac (h:=s_ (h:=a_ (h:=e_ (q_ (w_ (m_ (h:=BB (h:=m_ (h:=?_))))))))))));refine AR false rfl rfl (fun hb5=>?_) (fun hb5=>?_)
  ·have hc5:=bp hb5;refine A3 (h:=A3 (h:=A3 (h:=AB (h:=e_ (B2 (h:=w_ (l_ (h:=s_ (h:=e_ (A4 (A7 (AP (A7 (A7 (AP (A7 (?_)))))))))))))))));refine A8 ?_;rw[←hit,Pl k hdd hb1 hc5];rfl
  have hc5:=bp hb5;refine f_ (h:=l_ (h:=AN (h:=AF (h:=e_ (?_)))));refine A9 rfl (fun hb6=>?_) (fun hb6=>?_)
  ·have hc6:=bp hb6;refine w_ (l_ (h:=s_ (h:=e_ (A4 (A7 (AP (A7 (A7 (AP (A7 (?_)))))))))));refine A8 ?_;exfalso;rw[hc6,Pd hv]at hc5;cases hc5
  have hc6:=bp hb6;refine AE (AW (l_ (h:=s_ (h:=AQ (Al (t_ (AW (BE (h:=m_ (h:=AQ (?_)))))))))));refine AK ?_;refine⟨_,_,?_,⟨j+1,((Bj s b.1).getD (0,0)),by omega,rfl,(by rw[←hit,Pk k hdd hb1 hc5,show s.mounts.length+1 - (j+1)=k by omega]),rfl⟩,(wk 3 0)⟩;omega
 have hc1:=bp hb1;refine BL (Ai (Ai (BM (t_ (w_ (l_ (h:=s_ (h:=e_ (A4 (?_))))))))));refine A8 ?_;have ej:s.mounts.length+1 - j=0:=by omega
 rw[ej]at hit;rw[←hit];rfl
end
end Go.Proofs.YtbgnigjfkbmceaaGreatDoor
namespace Go.Proofs.YtbgnigjfkbmceaaGreatDoor
section
variable {s:Spc}(hv:SpcV s)
include hv
omit hv in
theorem K4{a:AA}(h:(BZ s a).2=true):Am s.files a=true∧C3 s a.1=true:=by
 unfold BZ at h;split at h
 ·rename_i c;exact⟨c.1,c.2.1⟩
 cases h
theorem Pm{d:Int}(h0:0≤d)(h1:d<(s.files.length:Int)):Am s.files (d,1)=true:=by
 obtain⟨q,rfl⟩:=Int.eq_ofNat_of_zero_le h0;have hq:s.files[q]?=some s.files[q]:=BR (by omega);obtain⟨r,rest,hr,h2,h3,_⟩:=(hv.files.vd _ (Ar hq)).root;exact(JH (Pb hv hq (by rw[hr];exact List.mem_cons_self ..) h2)).2 h3
end
end Go.Proofs.YtbgnigjfkbmceaaGreatDoor
namespace Go.Proofs.YtbgnigjfkbmceaaGreatDoor
structure Fnd where
 dir:AA
 name:AG
 file:AA
 ex:Bool
 slash:Bool
 path:AG
def DE:Fnd:=⟨(0,0),⟨#[]⟩,(0,0),false,false,⟨#[]⟩⟩
def Dh(x:Fnd):List AV:=[.v (.int .i64 x.dir.1), .v (.int .i64 x.dir.2), .v (.string x.name), .v (.int .i64 x.file.1), .v (.int .i64 x.file.2), .v (.bool x.ex), .v (.bool x.slash), .v (.string x.path)]
def CP(s:AG):List AG:=(Bn s.data.toList).map fun l=>⟨l.toArray⟩
theorem Tc(s:AG):C1 (CP s)=Bn s.data.toList:=by
 unfold C1 CP;rw[List.map_map];have:((fun x:AG=>x.data.toList) ∘ fun l:Bs=>(⟨l.toArray⟩:AG))=id:=by funext l;simp
 rw[this,List.map_id]
theorem Td:∀{a b:List AG},C1 a=C1 b→a=b
 |[],[],_=>rfl
 |[],_::_,h=>by simp[C1]at h
 |_::_,[],h=>by simp[C1]at h
 |x::a,y::b,h=>by
   simp only[C1,List.map_cons,List.cons.injEq]at h;rw[LS h.1,Td (a:=a) (b:=b) h.2]
theorem Pn{s:AG}{ps:List AG}(h:C1 ps=Bn s.data.toList):ps=CP s:=Td (h.trans (Tc s).symm)
theorem K5(s:AG):(CP s).length≤s.size+1:=by
 have h1:=TY (CP s);have h2:=P5 s.data.toList;rw[←Tc]at h2;rw[Lib.size_eq];omega
def Cq(s:Spc):AA:=CV s s.mounts.length (0,1)
structure Lk where
 ps:List AG
 dir:AA
 name:AG
 file:AA
 ex:Bool
 links:Nat
abbrev ND:AG:=⟨#[46]⟩
abbrev LT:AG:=⟨#[46,46]⟩
def Bp(s:Spc)(fl:Bool)(p:AG)(ps:List AG)(a:AA)(lk:Nat):Int ⊕ Lk:=
 if Am s.files a=false then .inl 20
 else if 12<p.size then .inl 36
 else if p=ND then .inr ⟨ps,a,⟨#[]⟩,a,true,lk⟩
 else if p=LT then .inr ⟨ps,CV s s.mounts.length (D3 s (s.mounts.length+1) a),⟨#[]⟩,CV s s.mounts.length (D3 s (s.mounts.length+1) a),true,lk⟩
 else if(AO s.files a p).2≠0 then(if ps≠[]∨Cn p=false then .inl 2 else .inr ⟨[],a,p,(0,0),false,lk⟩)
 else if(As s.files (AO s.files a p).1).kind=3∧(ps≠[]∨fl=true)then
  (if lk=8 then .inl 40 else
    .inr ⟨CP (As s.files (AO s.files a p).1).target++ps,if Ca (As s.files (AO s.files a p).1).target=true then Cq s else a,⟨#[]⟩,if Ca (As s.files (AO s.files a p).1).target=true then Cq s else a,true,lk+1⟩)
 else .inr ⟨ps,a,p,CV s s.mounts.length (AO s.files a p).1,true,lk⟩
def LU:Lk:=⟨[],(0,0),⟨#[]⟩,(0,0),false,0⟩
def DT(s:Spc)(fl:Bool):Nat→Lk→Int×Lk
 |0,σ=>(0,σ)
 |k+1,σ=>match σ.ps with
   |[]=>(0,σ)
   |p::ps=>match Bp s fl p ps σ.file σ.links with
     | .inl e=>(e,LU)
     | .inr τ=>DT s fl k τ
def Di(σ:Lk):Nat:=(8 - σ.links) * 200+σ.ps.length
section
variable {s:Spc}(hv:FlsV s.files)
include hv
theorem Po{fl:Bool}{p:AG}{ps:List AG}{a:AA}{lk:Nat}{τ:Lk}(h8:lk≤8)(h:Bp s fl p ps a lk= .inr τ):τ.links≤8∧Di τ<(8 - lk) * 200+(ps.length+1):=by
 unfold Bp at h;split at h
 ·cases h
 split at h
 ·cases h
 split at h
 ·injection h with h;subst h;exact⟨h8,by unfold Di;simp only;omega⟩
 split at h
 ·injection h with h;subst h;exact⟨h8,by unfold Di;simp only;omega⟩
 split at h
 ·split at h
  ·cases h
  injection h with h;subst h;exact⟨h8,by unfold Di;simp only[List.length_nil];omega⟩
 split at h
 ·split at h
  ·cases h
  rename_i h9;injection h with h;subst h;have ht:=LL hv (AO s.files a p).1;have hl:=K5 (As s.files (AO s.files a p).1).target;refine⟨by simp only;omega,?_⟩;unfold Di;simp only[List.length_append]
  have:(8 - lk) * 200=(8 - (lk+1)) * 200+200:=by
   rw[show 8 - lk=(8 - (lk+1))+1 by omega,Nat.add_mul]
  omega
 injection h with h;subst h;exact⟨h8,by unfold Di;simp only;omega⟩
theorem ZE(fl:Bool):∀(k k':Nat) (σ:Lk),σ.links≤8→Di σ≤k→Di σ≤k'→DT s fl k σ=DT s fl k' σ:=by
 intro k
 induction k with
 |zero=>
   intro k' σ h8 h h'
   have he:σ.ps=[]:=by
    unfold Di at h;exact Cj (by omega)
   cases k' with
   |zero=>rfl
   |succ k'=>unfold DT;rw[he]
 |succ k ih=>
   intro k' σ h8 h h'
   cases hps:σ.ps with
   |nil=>cases k'<;>(unfold DT;rw[hps])
   |cons p ps=>
     have hm:Di σ=(8 - σ.links) * 200+(ps.length+1):=by unfold Di;rw[hps];rfl
     cases k' with
     |zero=>rw[hm]at h';omega
     |succ k'=>
       unfold DT;rw[hps];simp only
       cases hs:Bp s fl p ps σ.file σ.links with
       |inl e=>rfl
       |inr τ=>
         simp only;obtain⟨h1,h2⟩:=Po hv h8 hs;exact ih k' τ h1 (by omega) (by omega)
end
def DF(s:Spc)(fl:Bool)(σ:Lk):Int×Lk:=DT s fl (Di σ) σ
theorem Pp{s:Spc}{fl:Bool}{σ:Lk}(h:σ.ps=[]):DF s fl σ=(0,σ):=by
 unfold DF
 cases Di σ with
 |zero=>rfl
 |succ k=>unfold DT;rw[h]
theorem Te{s:Spc}(hv:FlsV s.files){fl:Bool}{σ:Lk}{p:AG}{ps:List AG}(h8:σ.links≤8)(h:σ.ps=p::ps):DF s fl σ=match Bp s fl p ps σ.file σ.links with
    | .inl e=>(e,LU)
    | .inr τ=>DF s fl τ:=by
 have hm:Di σ=((8 - σ.links) * 200+ps.length)+1:=by unfold Di;rw[h];rfl
 unfold DF;rw[hm]
 conv=>lhs;unfold DT
 rw[h];simp only
 cases hs:Bp s fl p ps σ.file σ.links with
 |inl e=>rfl
 |inr τ=>
   simp only;obtain⟨h1,h2⟩:=Po hv h8 hs;exact ZE hv fl _ _ τ h1 (by omega) (At _)
def F8(s:Spc)(sl:Bool)(τ:Lk):Fnd:=⟨τ.dir,τ.name,τ.file,τ.ex,sl,if(BZ s τ.dir).2=true then(if τ.name=⟨#[]⟩then(BZ s τ.dir).1 else Cl (BZ s τ.dir).1 τ.name)else⟨#[]⟩⟩
def Ej(ps:List AG)(a:AA):Lk:=⟨ps,a,⟨#[]⟩,a,true,0⟩
def Bt(s:Spc)(start:AA)(p:AG)(fl:Bool):Fnd×Int:=
 if p=⟨#[]⟩then(DE,2)else if 128<p.size then(DE,36)
 else if Am s.files (if Ca p=true then Cq s else start)=false then(DE,2)
 else if(DF s (fl||B7 p) (Ej (CP p) (if Ca p=true then Cq s else start))).1≠0 then(DE,(DF s (fl||B7 p) (Ej (CP p) (if Ca p=true then Cq s else start))).1)
 else if B7 p=true∧(DF s (fl||B7 p) (Ej (CP p) (if Ca p=true then Cq s else start))).2.ex=true∧Am s.files (DF s (fl||B7 p) (Ej (CP p) (if Ca p=true then Cq s else start))).2.file=false then(DE,20)
 else(F8 s (B7 p) (DF s (fl||B7 p) (Ej (CP p) (if Ca p=true then Cq s else start))).2,0)
end Go.Proofs.YtbgnigjfkbmceaaGreatDoor
namespace Go.Proofs.YtbgnigjfkbmceaaGreatDoor
open Go.RowKit
structure Dsc where
 fd:Int
 file:AA
 flags:Int
structure Prc where
 pid:Int
 ppid:Int
 uid:Int
 euid:Int
 gid:Int
 egid:Int
 auid:Int
 ses:Int
 cwd:AA
 comm:AG
 exe:AG
 opens:List Dsc
 audited:Bool
structure Tab where
 next:Int
 nextS:Int
 ps:List Prc
structure Syst where
 spc:Spc
 tab:Tab
def ZF:Tab:=⟨0,0,[]⟩
def Pq(cwd:AA):Tab:=⟨2,1,[⟨1,0,0,0,0,0,4294967295,4294967295,cwd,⟨#[105,110,105,116]⟩,⟨#[47,105,110,105,116]⟩,[],true⟩]⟩
def Fm(n:Int):Syst×Int:=if(Dq n).2≠0 then(⟨⟨[],[]⟩,ZF⟩,(Dq n).2)else(⟨⟨(Dq n).1,[]⟩,Pq (0,1)⟩,0)
def ZG(d:Dsc):List AV:=[.v (.int .i64 d.fd), .v (.int .i64 d.file.1), .v (.int .i64 d.file.2), .v (.int .i64 d.flags)]
def Pr(p:Prc):List AV:=[.v (.int .i64 p.pid), .v (.int .i64 p.ppid), .v (.int .i64 p.uid), .v (.int .i64 p.euid), .v (.int .i64 p.gid), .v (.int .i64 p.egid), .v (.int .i64 p.auid), .v (.int .i64 p.ses), .v (.int .i64 p.cwd.1), .v (.int .i64 p.cwd.2), .v (.string p.comm), .v (.string p.exe), .sl 4 (p.opens.map ZG) none, .v (.bool p.audited)]
def ZH(t:Tab):List AV:=[.v (.int .i64 t.next), .v (.int .i64 t.nextS), .sl 14 (t.ps.map Pr) none]
def Tf(s:Syst):List AV:=[.sl 2 (s.spc.files.map Bi) none, .sl 3 (s.spc.mounts.map Co) none, .v (.int .i64 s.tab.next), .v (.int .i64 s.tab.nextS), .sl 14 (s.tab.ps.map Pr) none]
def LV(y:Itm):List AV:=[.v (.string y.given), .v (.string y.path), .v (.int .i64 y.dir.1), .v (.int .i64 y.dir.2), .v (.string y.name), .v (.int .i64 y.file.1), .v (.int .i64 y.file.2), .v (.int .i64 y.role), .v (.int .i64 y.kind), .v (.int .i64 y.mode), .v (.int .i64 y.uid), .v (.int .i64 y.gid), .v (.int .i64 y.perm)]
structure TabB(t:Tab):Prop where
 few:t.ps.length≤16
 opens:∀p∈t.ps,p.opens.length≤8
 next:t.next≤1073741824
 nextS:t.nextS≤1073741824
structure RowF(sz:Nat){α:Type}(F:α→List AV):Prop where
 len:∀x,(F x).length=sz
 flat:∀x,∀y∈F x,(∃v,y= .v v)∨∃s r,y= .sl s r none
 pos:0<sz
def LB(sz:Nat){α:Type}(F:α→List AV)(l:List α)(cap:Nat):List AV:=C7 sz cap (l.map F)
section
variable {α:Type}{sz:Nat}{F:α→List AV}(hF:RowF sz F)
include hF
theorem ZJ(l:List α):∀r∈l.map F,r.length=sz:=by
 intro r hr;obtain⟨x,_,rfl⟩:=List.mem_map.1 hr;exact hF.len x
theorem ZK{g:AV→AV}(hv:∀x,g (.v x)= .v x)(hs:∀sz rows,g (.sl sz rows none)= .sl sz rows none)(x:α):(F x).map g=F x:=by
 conv=>rhs;rw[←List.map_id (F x)]
 apply List.map_congr_left;intro y hy;rcases hF.flat x y hy with⟨v,rfl⟩|⟨s,r,rfl⟩
 ·exact hv v
 exact hs s r
theorem ZL{g:AV→AV}(hany:g .any= .any)(hv:∀x,g (.v x)= .v x)(hs:∀sz rows,g (.sl sz rows none)= .sl sz rows none)(l:List α)(cap:Nat):(LB sz F l cap).map g=LB sz F l cap:=by
 unfold LB;rw[Kv g hany,List.map_map]
 congr 1
 apply List.map_congr_left;intro x _;exact ZK hF hv hs x
theorem ZM(g:Nat→Option (List AV))(l:List α)(cap:Nat):FN g (LB sz F l cap)=LB sz F l cap:=by
 rw[Ku];exact ZL hF rfl (fun _=>rfl) (fun _ _=>rfl) l cap
theorem ZN{n m:Nat}(x:α):BD n m (F x)=true:=by
 refine Om.2 fun y hy=>?_;rcases hF.flat x y hy with⟨v,rfl⟩|⟨s,r,rfl⟩<;>rfl
theorem ZO{n m:Nat}{l:List α}{cap:Nat}:BD n m (LB sz F l cap)=true:=by
 refine On fun r hr=>?_;obtain⟨x,_,rfl⟩:=List.mem_map.1 hr;exact ZN hF x
theorem ZP{n:Nat}{bx:List (List AV)}{k j:Nat}{l:List α}{cap:Nat}(hn:n≤j)(hj:bx[j]?=some (LB sz F l cap)):Cz n bx (k+1) j=some (LB sz F l cap):=by
 have:Nat.blt j n=false:=by rw[←Bool.not_eq_true,Nat.blt_eq];omega
 simp only[Cz,this,hj,Option.map_some,ZM hF]
theorem ZQ{n:Nat}{bx:List (List AV)}{k j:Nat}{l:List α}{cap cap0:Nat}(hn:Nat.ble n j=true)(hj:bx[j]?=some (LB sz F l cap))(hc:l.length≤cap):Dz n (Cz n bx (k+1)) (.bs j 0 sz l.length cap0)= .sl sz (l.map F) none:=
 Sw (B8 hn) (ZP hF (B8 hn) hj) (ZJ hF l) (by simp) (by simpa using hc)
end
theorem Cw{f:Nat→Option AV}{bx:List (List AV)}{tk:List (Nat×Nat×List (List AV))}{l:List (Nat×AV)}{N:Dim}(n m:Nat){bx':List (List AV)}{tk':List (Nat×Nat×List (List AV))}(hbp:BH n m bx'=true)(hn:Nat.ble N.ni n=true:=by rfl)(hb:bx.take n=bx':=by rfl)(ht:tk.take m=tk':=by rfl)(hl:Sub n m f l:=by repeat (first|exact Sub.nil|refine Sub.cons _ _ _ rfl rfl ?_|refine Sub.any _ _ ?_|refine Sub.sl _ _ _ _ _ rfl ?_|refine Sub.slnil _ _ _ rfl ?_|(apply Sub.of;(focus exact rfl);(focus exact LeA.of_eq (vb (by simp[*])));(focus exact rfl)))):EZ N ⟨f,⟨bx,tk⟩⟩ ⟨look l,⟨bx',tk'⟩⟩:=Az n m hn hb ht hbp hl
theorem FX(s:ByteArray):s.toList=s.data.toList:=Lib.toList_data s
theorem Tg{a b:ByteArray}(h:a.data.toList=b.data.toList):a=b:=by
 cases a;cases b;simp at h;simp[h]
theorem ZR{a b:ByteArray}:a.data.toList=b.data.toList↔a=b:=⟨Tg,fun h=>by rw[h]⟩
theorem ZS(a b:ByteArray):(a.toList==b.toList)=decide (a=b):=by
 rw[FX,FX,Bool.eq_iff_iff,beq_iff_eq,decide_eq_true_iff];exact ZR
theorem Th(s:ByteArray):s.toList.isEmpty=decide (s.size=0):=by
 rw[FX,Lib.size_eq,Bool.eq_iff_iff,List.isEmpty_iff,decide_eq_true_iff,List.length_eq_zero_iff]
set_option maxRecDepth 100000 in
set_option maxHeartbeats 400000 in
theorem Ps(s:ByteArray)(w:World):
    Calls prog 289 #[.string s, .string ⟨#[47]⟩] w fun e w'=>e= .returned (.int .i64 (Lib.indexByte s.data.toList 47))∧w=w':=by
 by_cases h:s=⟨#[47]⟩
 ·subst h
  go_enter Tryz.func289,Tryz.ntmps289
  go_wp2
  go_ret
  exact⟨rfl,rfl⟩
 have h1:([47]==s.toList)=false:=by
  have:=ZS ⟨#[47]⟩ s;rw[decide_eq_false (fun e=>h e.symm),FX ⟨#[47]⟩]at this;exact this
 go_enter Tryz.func289,Tryz.ntmps289
 go_wp2_with (go_at_call 292;refine(Tryz.stringslite_IndexByte _ _ _).mono ?_;rintro e w' ⟨rfl,rfl⟩)
 go_ret
 exact⟨rfl,rfl⟩
theorem ZT(s:ByteArray)(w:World):
    Calls prog 276 #[.string s, .string ⟨#[47]⟩] w fun e w'=>e= .returned (.int .i64 (Lib.indexByte s.data.toList 47))∧w=w':=by
 go_enter Tryz.func276,Tryz.ntmps276
 go_wp2_with (go_at_call 289;refine(Ps _ _).mono ?_;rintro e w' ⟨rfl,rfl⟩)
 go_ret
 exact⟨rfl,rfl⟩
theorem Pt{l:Bs}(h:(47:UInt8)∈l):∃i:Nat,Lib.indexByte l 47=i∧i<l.length∧l=l.take i++47::l.drop (i+1)∧(47:UInt8)∉l.take i:=by
 have hge:=Lib.indexByte_ge l 47;by_cases hm:Lib.indexByte l 47= -1
 ·have:=Lib.indexByte_none hm;obtain⟨k,hk⟩:=List.mem_iff_getElem?.1 h;exact absurd hk (this k)
 obtain⟨i,hi⟩:=Int.eq_ofNat_of_zero_le (show 0≤Lib.indexByte l 47 by omega);obtain⟨h1,h2⟩:=Lib.indexByte_some hi;have hlt:i<l.length:=(Ah.1 h1).1;refine⟨i,hi,hlt,?_,?_⟩
 ·have h3:l[i]=47:=(Ah.1 h1).2;rw[←h3,List.getElem_cons_drop,List.take_append_drop]
 intro hmem;obtain⟨k,hk⟩:=List.mem_iff_getElem?.1 hmem;rw[List.getElem?_take]at hk;split at hk
 ·exact h2 k (by assumption) hk
 cases hk
theorem Ti{l:Bs}(h:(47:UInt8)∉l):Lib.indexByte l 47= -1:=by
 have hge:=Lib.indexByte_ge l 47;by_cases hm:Lib.indexByte l 47= -1
 ·exact hm
 obtain⟨i,hi⟩:=Int.eq_ofNat_of_zero_le (show 0≤Lib.indexByte l 47 by omega);obtain⟨h1,_⟩:=Lib.indexByte_some hi;exact absurd (Ar h1) h
theorem ZU(r:Int)(h0:128≤r)(h1:Lib.validRune r=true):
    (∃a b:UInt8,Utf8.encode r=⟨#[a,b]⟩∧128≤b.toNat)∨(∃a b c:UInt8,Utf8.encode r=⟨#[a,b,c]⟩)∨(∃a b c d:UInt8,Utf8.encode r=⟨#[a,b,c,d]⟩):=by
 have hv:Utf8.valid r=true:=by
  have:=of_decide_eq_true h1;unfold Utf8.valid;simp only[Bool.or_eq_true,Bool.and_eq_true,decide_eq_true_iff];omega
 unfold Utf8.encode;simp only[hv,if_true];have hn:¬r.toNat<128:=by omega
 rw[if_neg hn];by_cases h2:r.toNat<2048
 ·rw[if_pos h2];refine .inl ⟨_,_,rfl,?_⟩;simp only[UInt8.toNat_ofNat'];omega
 rw[if_neg h2];by_cases h3:r.toNat<65536
 ·rw[if_pos h3];exact .inr (.inl ⟨_,_,_,rfl⟩)
 rw[if_neg h3];exact .inr (.inr ⟨_,_,_,_,rfl⟩)
set_option maxRecDepth 1000000 in
set_option maxHeartbeats 2000000 in
theorem ZV(r:Int)(w:World)(h0:128≤r)(h1:r≤2147483647)(h2:r≠65533)(hv:Lib.validRune r=false):
    Calls prog 269 #[.string ⟨#[0,47]⟩, .int .i32 r] w fun e w'=>e= .returned (.int .i64 (-1))∧w=w':=by
 have h2':(r==65533)=false:=by simpa using h2
 go_enter Tryz.func269,Tryz.ntmps269
 go_wp2_with (go_at_call 285;refine(Tryz.utf8_ValidRune _ _).mono ?_;rintro e w' ⟨rfl,rfl⟩;rw[hv])
 go_ret
 exact⟨rfl,rfl⟩
set_option maxRecDepth 1000000 in
set_option maxHeartbeats 2000000 in
theorem ZW(r:Int)(w:World)(h0:128≤r)(h1:r≤2147483647)(h2:r≠65533)(hv:Lib.validRune r=true):
    Calls prog 269 #[.string ⟨#[0,47]⟩, .int .i32 r] w fun e w'=>e= .returned (.int .i64 (-1))∧Below w.heap.size w w':=by
 have h2':(r==65533)=false:=by simpa using h2
 have hlt:decide (r<128)=false:=by simpa using h0
 rcases ZU r h0 hv with⟨a,b,he,hb⟩|⟨a,b,c,he⟩|⟨a,b,c,d,he⟩
 ·have hne:((((⟨#[0,47]⟩:ByteArray)[1]'(by decide)).toNat:Int) != (((⟨#[a,b]⟩:ByteArray)[1]'(by show 1<2;decide)).toNat:Int))=true:=by
     show((47:Int) != (b.toNat:Int))=true;rw[bne_iff_ne];omega
  go_enter Tryz.func269,Tryz.ntmps269
  go_wp2_with (go_at_call 285;refine(Tryz.utf8_ValidRune _ _).mono ?_;rintro e w' ⟨rfl,rfl⟩;rw[hv])
  go_step3
  go_wp2
  refine wp_loop_rounds 1 ?_;rw[rounds_succ]
  go_wp2
  go_step3
  go_wp2
  go_quiet (fail)
  have hb:=Mf (Below.refl w'.heap.size w') nq;generalize w'.drewN nq=wq at *
  go_wp2
  go_quiet ((go_at_call 284;exact Calls.quiet_of_same (Tryz.strings_IndexByte _ _ _)))
  go_wp2
  rw[Exit.noGoto_ret]
  go_wp2
  rw[Exit.noGoto_ret]
  go_wp2
  go_ret
  exact⟨rfl,Mf hb _⟩
 ·go_enter Tryz.func269,Tryz.ntmps269
  go_wp2_with (go_at_call 285;refine(Tryz.utf8_ValidRune _ _).mono ?_;rintro e w' ⟨rfl,rfl⟩;rw[hv])
  go_step3
  go_wp2
  refine wp_loop_rounds 1 ?_;rw[rounds_succ]
  go_wp2
  rw[Exit.noGoto_ret]
  go_wp2
  go_ret
  exact⟨rfl,Below.refl _ _⟩
 go_enter Tryz.func269,Tryz.ntmps269
 go_wp2_with (go_at_call 285;refine(Tryz.utf8_ValidRune _ _).mono ?_;rintro e w' ⟨rfl,rfl⟩;rw[hv])
 go_step3
 go_wp2
 refine wp_loop_rounds 1 ?_;rw[rounds_succ]
 go_wp2
 rw[Exit.noGoto_ret]
 go_wp2
 go_ret
 exact⟨rfl,Below.refl _ _⟩
theorem ZX(i:Nat)(hi:i<2):((⟨#[0,47]⟩:ByteArray)[i]'hi).toNat<128:=by
 match i,hi with
 |0,_=>show(0:UInt8).toNat<128;decide
 |1,_=>show(47:UInt8).toNat<128;decide
set_option maxRecDepth 1000000 in
set_option maxHeartbeats 2000000 in
theorem ZY(w:World):
    Calls prog 269 #[.string ⟨#[0,47]⟩, .int .i32 65533] w fun e w'=>e= .returned (.int .i64 (-1))∧Below w.heap.size w w':=by
 go_enter Tryz.func269,Tryz.ntmps269
 go_wp2
 go_loopg [5,6] 2 (fun g _ _ wx=>∃i:Nat,i+g=2∧wx=w.iter ⟨#[0,47]⟩ i)
 case atStart=>exact⟨0,by omega,rfl⟩
 case round=>
  obtain⟨i,hig,rfl⟩:=hrel
  cases gk with
  |zero=>
    obtain rfl:i=2:=by omega
    have hnx:=run_next_end (P:=prog) w ⟨#[0,47]⟩ 2
    go_wp2
    go_ret
    exact⟨rfl,(Below.refl _ _).alloc (At _) _⟩
  |succ g=>
    have hi:i<2:=by omega
    have hx:=ZX i hi;have hnx:=fun ty=>run_next_ascii (P:=prog) w ⟨#[0,47]⟩ i ty hi hx;generalize ((⟨#[0,47]⟩:ByteArray)[i]'hi)=x at *;have hne:((x.toNat:Int)==65533)=false:=beq_eq_false_iff_ne.2 (by omega)
    go_wp2
    go_roundg g
    case measure=>omega
    case rel=>exact⟨i+1,by omega,rfl⟩
theorem Tj(s:ByteArray)(i:Nat)(h:i<s.size)(ha:128≤(s[i]'h).toNat):
    1≤(Utf8.decode s i).2∧i+(Utf8.decode s i).2≤s.size∧∀k,k<(Utf8.decode s i).2→128≤(s.get! (i+k)).toNat:=by
 have hn:¬(s[i]'h).toNat<128:=by omega
 have h0:s.get! (i+0)=s[i]'h:=get_at s i h;have g0:128≤(s.get! (i+0)).toNat:=by rw[h0];exact ha
 have c1:∀k,(decide (i+k<s.size)&&(s.get! (i+k)).toNat / 64==2)=true→i+k<s.size∧128≤(s.get! (i+k)).toNat:=by
  intro k hk;simp only[Bool.and_eq_true,decide_eq_true_iff,beq_iff_eq]at hk;exact⟨hk.1,by omega⟩
 have one:1≤1∧i+1≤s.size∧∀k,k<1→128≤(s.get! (i+k)).toNat:=by
  refine⟨At _,h,fun k hk=>?_⟩;obtain rfl:k=0:=by omega
  exact g0
 unfold Utf8.decode;simp only[h0,hn,if_false];split
 ·rename_i hc;rw[Bool.and_eq_true]at hc;obtain⟨a1,b1⟩:=c1 1 hc.2;split
  ·refine⟨by simp,a1,fun k hk=>?_⟩;have:k=0∨k=1:=by simp at hk;omega
   rcases this with rfl|rfl
   ·exact g0
   exact b1
  exact one
 split
 ·rename_i hc;rw[Bool.and_eq_true,Bool.and_eq_true]at hc;obtain⟨a1,b1⟩:=c1 1 hc.1.2;obtain⟨a2,b2⟩:=c1 2 hc.2;split
  ·refine⟨by simp,a2,fun k hk=>?_⟩;have:k=0∨k=1∨k=2:=by simp at hk;omega
   rcases this with rfl|rfl|rfl
   ·exact g0
   ·exact b1
   exact b2
  exact one
 split
 ·rename_i hc;rw[Bool.and_eq_true,Bool.and_eq_true,Bool.and_eq_true]at hc;obtain⟨a1,b1⟩:=c1 1 hc.1.1.2;obtain⟨a2,b2⟩:=c1 2 hc.1.2;obtain⟨a3,b3⟩:=c1 3 hc.2;split
  ·refine⟨by simp,a3,fun k hk=>?_⟩;have:k=0∨k=1∨k=2∨k=3:=by simp at hk;omega
   rcases this with rfl|rfl|rfl|rfl
   ·exact g0
   ·exact b1
   ·exact b2
   exact b3
  exact one
 exact one
theorem ZZ(s:ByteArray)(j:Nat)(hj:j<s.size):s.data.toList[j]?=some (s.get! j):=by
 have:=get_at s j hj;rw[Nat.add_zero]at this;rw[this];exact Lib.data_getElem? s j hj
theorem Za{s:ByteArray}{i:Nat}(h:i<s.size)(ha:128≤(s[i]'h).toNat)(hno:Lib.NoAny s.data.toList [0,47] i):Lib.NoAny s.data.toList [0,47] (i+(Utf8.decode s i).2):=by
 obtain⟨_,h2,h3⟩:=Tj s i h ha;intro j b hj hb;by_cases hlt:j<i
 ·exact hno j b hlt hb
 have:=h3 (j - i) (by omega);rw[show i+(j - i)=j by omega]at this;rw[ZZ s j (by omega)]at hb;injection hb with hb;rw[hb]at this;have h0:b≠0:=by rintro rfl;simp at this
 have h47:b≠47:=by
  rintro rfl;have:(47:UInt8).toNat=47:=rfl;omega
 simp[h0,h47]
theorem Zb(r:Int)(w:World)(h0:128≤r)(h1:r≤2147483647):
    Calls prog 269 #[.string ⟨#[0,47]⟩, .int .i32 r] w fun e w'=>e= .returned (.int .i64 (-1))∧Below w.heap.size w w':=by
 by_cases h2:r=65533
 ·subst h2;exact ZY w
 cases hv:Lib.validRune r with
 |true=>exact ZW r w h0 h1 h2 hv
 |false=>exact(ZV r w h0 h1 h2 hv).mono fun e w' h=>⟨h.1,by rw[←h.2];exact Below.refl _ _⟩
def Tk(s:ByteArray)(w:World)(e:Ending)(w':World):Prop:=∃v:Int,e= .returned (.int .i64 v)∧Below w.heap.size w w'∧((0≤v)↔((0:UInt8)∈s.data.toList∨(47:UInt8)∈s.data.toList))
theorem Zc{s:ByteArray}(h:Lib.NoAny s.data.toList [0,47] s.size):¬((0:UInt8)∈s.data.toList∨(47:UInt8)∈s.data.toList):=by
 rintro(h'|h')
 ·obtain⟨j,hj⟩:=List.mem_iff_getElem?.1 h';have:=h j 0 (by rw[Lib.size_eq];exact(Ah.1 hj).1) hj;simp at this
 obtain⟨j,hj⟩:=List.mem_iff_getElem?.1 h';have:=h j 47 (by rw[Lib.size_eq];exact(Ah.1 hj).1) hj;simp at this
theorem Zd{s:ByteArray}{i:Nat}{x:UInt8}(hx:s.data.toList[i]?=some x)(h:[0,47].contains x=true):((0:UInt8)∈s.data.toList∨(47:UInt8)∈s.data.toList):=by
 have hm:=Ar hx;simp at h;rcases h with rfl|rfl
 ·exact .inl hm
 exact .inr hm
set_option maxRecDepth 1000000 in
set_option maxHeartbeats 4000000 in
theorem Ze(s:ByteArray)(w:World)(h8:s.size≤8):Calls prog 245 #[.string s, .string ⟨#[0,47]⟩] w (Tk s w):=by
 have h8z:decide ((8:Int)<(s.size:Int))=false:=decide_eq_false (by omega)
 go_enter Tryz.func245,Tryz.ntmps245
 go_wp2_with (go_at_call 270;refine(Tryz.strings_shouldUseASCIISet _ _).mono ?_;rintro e w' ⟨rfl,hw⟩;rw[hw,h8z])
 clear hw
 go_loopg [9,10] s.size (fun g _ _ wx=>∃i:Nat,s.size≤i+g∧i≤s.size∧wx.heap[w.heap.size]?=some (.stringIter s i)∧Below w.heap.size w wx∧Hid (Lib.NoAny s.data.toList [0,47] i))
 case atStart=>exact⟨0,by omega,by omega,World.iter_heap w s 0,(Below.refl _ _).alloc (At _) _,Lib.hid (Lib.NoAny.zero _ _)⟩
 case round=>
  obtain⟨i,hg,hi,hit,hbel,hno⟩:=hrel;have hks:=hbel.size;by_cases hlt:i<s.size
  ·obtain⟨g,rfl⟩:∃g,gk=g+1:=⟨gk - 1,by omega⟩;by_cases hx:(s[i]'hlt).toNat<128
   ·have hnx:=fun ty=>Lib.run_next_ascii_at (P:=prog) wr w.heap.size s i ty hit hlt hx;have hxl:s.data.toList[i]?=some (s[i]'hlt):=Lib.data_getElem? s i hlt;generalize (s[i]'hlt)=x at *;have Hx:=Lib.hid hxl;have hit':=Lib.iterAt_heap wr w.heap.size s i (i+1) hit;have hbel':=Lib.below_iterAt hbel (At _) s (i+1);generalize wr.iterAt w.heap.size s (i+1)=w1 at *;have hcon:=Lib.contains_iff_indexByte [0,47] x;have hback:((x.toNat:Int)).toNat.toUInt8=x:=by simp
    have HI:=Lib.hid hit';clear hxl hit hit';cases hin:[0,47].contains x
    ·rw[hin]at hcon;have hneg:¬((0:Int)≤Lib.indexByte [0,47] x):=of_decide_eq_false hcon.symm;clear hcon
     go_wp2_with (go_at_call 269;refine(Tryz.strings_IndexRune_ascii _ _ _ (by omega) (by omega)).mono ?_;rintro e w' ⟨rfl,hw⟩;rw[hw,hback])
     go_roundg g
     case measure=>omega
     case rel=>exact⟨i+1,by omega,by omega,HI.out,hbel',Lib.hid (hno.out.succ Hx.out hin)⟩
    rw[hin]at hcon;have hpos:(0:Int)≤Lib.indexByte [0,47] x:=of_decide_eq_true hcon.symm;clear hcon
    go_wp2_with (go_at_call 269;refine(Tryz.strings_IndexRune_ascii _ _ _ (by omega) (by omega)).mono ?_;rintro e w' ⟨rfl,hw⟩;rw[hw,hback])
    go_ret
    exact⟨_,rfl,hbel',⟨fun _=>Zd Hx.out hin,fun _=>by omega⟩⟩
   have hx':128≤(s[i]'hlt).toNat:=by omega
   obtain⟨p1,p2,_⟩:=Tj s i hlt hx';have HN:=Lib.hid (Za hlt hx' hno.out);have q1:=(decode_high s i hlt hx').1;have q2:=decode_le s i;have hnx:=fun ty=>Lib.run_next_any_at (P:=prog) wr w.heap.size s i ty hit hlt;generalize Utf8.decode s i=d at *;obtain⟨d1,d2⟩:=d;simp only at *;have hit':=Lib.iterAt_heap wr w.heap.size s i (i+d2) hit;have hbel':=Lib.below_iterAt hbel (At _) s (i+d2);have hsz:=Lib.iterAt_size wr w.heap.size s (i+d2);generalize wr.iterAt w.heap.size s (i+d2)=w1 at *;have hk1:w.heap.size<w1.heap.size:=(Array.getElem?_eq_some_iff.1 hit').1;have HI:=Lib.hid hit';clear hit hit' hsz
   go_wp2_with fail
   refine(Zb _ _ (by omega) (by omega)).mono ?_;rintro e w2 ⟨rfl,hb2⟩
   go_wp2
   go_roundg g
   case measure=>omega
   case rel=>exact⟨i+d2,by omega,by omega,(hb2.block _ hk1).trans HI.out,hbel'.trans (hb2.mono (by omega)),HN⟩
  obtain rfl:i=s.size:=by omega
  have hnx:=fun ty=>Lib.run_next_end_at (P:=prog) wr w.heap.size s s.size ty hit hlt
  go_wp2
  go_ret
  exact⟨_,rfl,hbel,⟨fun h=>absurd h (by decide),fun h=>absurd h (Zc hno.out)⟩⟩
end Go.Proofs.YtbgnigjfkbmceaaGreatDoor
