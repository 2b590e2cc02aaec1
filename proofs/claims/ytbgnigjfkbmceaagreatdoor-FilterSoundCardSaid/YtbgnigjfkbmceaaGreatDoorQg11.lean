/-
  Part 11 of the proof of FilterSoundP: what the statement's proof uses of the texts in wip/tpl.
-/
import Derived.OpenShut
import Derived.ChangeArms
import Derived.ChangeOld
import Derived.DataReads
import Derived.DataElems
import Derived.Lib.AppendZerosOnto
import Derived.Test.YtbgnigjfkbmceaaGreatDoorShelf
import Derived.Laws.RangeAny
import Derived.Deep.LoopGhost
import Derived.Lib.OthersKept
import Derived.Lib.IndexLaws
import Derived.Test.YtbgnigjfkbmceaaGreatDoorQg10
open Go.Proofs.Tryz (prog)
set_option maxRecDepth 10000
set_option maxHeartbeats 4000000
set_option linter.unusedVariables false
set_option linter.unusedSimpArgs false
namespace Go.Proofs.YtbgnigjfkbmceaaGreatDoor
open Go.RowKit
def JT(w:World):Nat→Nat→Prop:=fun b _=>b<w.heap.size
def Opens(P:Program)(t:TypeId)(R:List AV→Prop):Prop:=
 ∀(H:Type) (enc:TypeId×Value→H) (w:World) (base:Nat) (spare:Nat→Bool) (held:Bool) (fuel:Nat) (cs:List Value) (x:DataW H×List MemPlace),DataW.trod enc P w base spare held fuel t cs=some x→
  ∃row,R row∧BC (JT w) w row cs∧∀u∈cs,u.oneCell'=true
section
variable {P:Program}{t:TypeId}
theorem Opens.mono{R R':List AV→Prop}(h:Opens P t R)(hR:∀r,R r→R' r):Opens P t R':=by
 intro H enc w base spare held fuel cs x hx;obtain⟨row,h1,h2⟩:=h H enc w base spare held fuel cs x hx;exact⟨row,hR _ h1,h2⟩
theorem aG{k:IntKind}(ht:P.underlying t=some (.int k)):Opens P t fun r=>∃n,r=[.v (.int k n)]∧(Lit.int k n).wf=true:=by
 intro H enc w base spare held fuel cs x hx;obtain⟨b,rfl,_,hw⟩:=DataW.trod_int ht hx;exact⟨_,⟨b,rfl,hw⟩,⟨_,_,rfl,by simp only[AR],by simp only[BC]⟩,by simp[Value.oneCell']⟩
theorem aH{w:World}{b o:Nat}{v:Value}(h:w.cell? ⟨b,o,none⟩=some v):b<w.heap.size:=by
 rcases Nat.lt_or_ge b w.heap.size with hlt|hge
 ·exact hlt
 simp[World.cell?,Array.getElem?_eq_none hge]at h
theorem aJ{St:Nat→Nat→Prop}{w:World}{xs:List AV}{ys:List Value}(h:BC St w xs ys):ys.length=xs.length:=Gg (G:=⟨St,[],[]⟩) (JY (G:=⟨St,[],[]⟩) _ _ h)
theorem aK{e:TypeId}{n:Nat}{R:List AV→Prop}(ht:P.underlying t=some (.slice e))(hc:P.cellsOf e=n)(hn:0<n)(h:Opens P e R):Opens P t fun r=>∃rows,r=[.sl n rows none]∧rows.length≤maxLen∧∀x∈rows,R x:=by
 intro H enc w base spare held fuel cs x hx;rcases DataW.trod_slice ht hx with⟨rfl,_⟩|⟨⟨b,off,spot⟩,len,cap,elems,rest,m,rfl,rfl,_,hb,hl,hm,hlen,hel,_,_⟩
 ·exact⟨_,⟨[],rfl,BO _,by simp⟩,⟨_,_,rfl,by simp only[AR];exact⟨trivial,none,0,rfl,Al _,BO _, .inl trivial⟩,by simp only[BC]⟩,by simp[Value.oneCell']⟩
 have each:∀i,i<len→∃row cs',R row∧row.length=n∧BC (JT w) w row cs'∧(∀u∈cs',u.oneCell'=true)∧cs'.length=n∧∀j,j<n→w.cell? (Addr.add ⟨b,off,spot⟩ (i * n+j))=cs'[j]?:=by
  intro i hi;have h1:=hel i hi;rw[hc,BA (by omega),Option.bind_eq_some_iff]at h1;obtain⟨cs',h2,h3⟩:=h1;obtain⟨row,r1,r2,r3⟩:=h _ _ _ _ _ _ _ _ _ h3;obtain⟨_,c1,c2⟩:=World.cells?_some h2;refine⟨row,cs',r1,by rw[←aJ r2,c1],r2,r3,c1,fun j hj=>?_⟩;have:=c2 j hj
  rwa [Addr.add_add]at this
 have hrows:∃rows:List (List AV),rows.length=len∧(∀i,i<len→∃row cs',rows[i]?=some row∧R row∧row.length=n∧BC (JT w) w row cs'∧(∀u∈cs',u.oneCell'=true)∧cs'.length=n∧∀j,j<n→w.cell? (Addr.add ⟨b,off,spot⟩ (i * n+j))=cs'[j]?):=by
  clear hel
  have:∀k,k≤len→∃rows:List (List AV),rows.length=k∧(∀i,i<k→∃row cs',rows[i]?=some row∧R row∧row.length=n∧BC (JT w) w row cs'∧(∀u∈cs',u.oneCell'=true)∧cs'.length=n∧∀j,j<n→w.cell? (Addr.add ⟨b,off,spot⟩ (i * n+j))=cs'[j]?):=by
   intro k
   induction k with
   |zero=>intro _;exact⟨[],rfl,fun i hi=>by omega⟩
   |succ k ih=>
     intro hk;obtain⟨rows,e1,e2⟩:=ih (by omega);obtain⟨row,cs',q⟩:=each k (by omega);refine⟨rows++[row],by simp[e1],fun i hi=>?_⟩;rcases Nat.lt_or_ge i k with hlt|hge
     ·obtain⟨row',cs'',q1,q2⟩:=e2 i hlt;exact⟨row',cs'',by rw[CO (by omega)];exact q1,q2⟩
     obtain rfl:i=k:=by omega
     exact⟨row,cs',by rw[DQ (by omega),e1];simp,q⟩
  exact this len (Al _)
 obtain⟨rows,e1,e2⟩:=hrows;refine⟨_,⟨rows,rfl,by omega,fun x hx=>?_⟩,⟨_,_,rfl,?_,by simp only[BC]⟩,by simp[Value.oneCell']⟩
 ·obtain⟨i,hi⟩:=List.getElem?_of_mem hx;obtain⟨row,_,q1,q2,_⟩:=e2 i (by rw[←e1];exact(AP.1 hi).1);rw[hi]at q1;injection q1 with q1;subst q1;exact q2
 simp only[AR];refine⟨trivial,some ⟨b,off,spot⟩,cap,by rw[e1],by omega,hm,?_⟩;rcases Nat.eq_zero_or_pos len with h0|h0
 ·left;exact Dr (by omega)
 right
 have hspot:spot=none:=by
  obtain⟨_,cs',_,_,_,_,_,c3,c4⟩:=e2 0 h0;have:=c4 0 hn;rw[BA (by omega)]at this
  simpa[Addr.add]using World.cell?_spot this
 subst hspot;refine⟨b,off,rfl,?_⟩
 have:∀(rs:List (List AV)) (k:Nat),(∀i r,rs[i]?=some r→rows[k+i]?=some r)→froR (JT w) w b n rs (off+k * n):=by
  intro rs
  induction rs with
  |nil=>intro k _;simp only[froR]
  |cons r rs ih=>
    intro k hk;simp only[froR];have h1:=hk 0 r rfl;rw[Nat.add_zero]at h1;obtain⟨row,cs',q1,_,q3,q4,q5,q6,q7⟩:=e2 k (by rw[←e1];exact(AP.1 h1).1);rw[h1]at q1;injection q1 with q1;subst q1;refine⟨⟨q3,Lz fun i x hi=>?_⟩,?_⟩
    ·obtain⟨u,u1,u2⟩:=NX q4 hi;have hin:i<n:=by rw[←q3];exact(AP.1 hi).1
     have hc:=q7 i hin;rw[u1]at hc;have hc':w.cell? ⟨b,off+k * n+i,none⟩=some u:=by rw[Addr.add_mid]at hc;rwa [Nat.add_assoc]
     exact⟨aH hc',u,hc',q5 u (AT u1),u2⟩
    have:=ih (k+1) (fun i r' hi=>by
     have:=hk (i+1) r' (by simpa using hi)
     rwa [show k+1+i=k+(i+1) by omega])
    rwa [show off+(k+1) * n=off+k * n+n by rw[Nat.add_mul];omega]at this
 simpa using this rows 0 (fun i r hi=>by simpa using hi)
theorem Uc{α:Type}{enc:α→List AV}{Q:α→Prop}:∀{rows:List (List AV)},(∀x∈rows,∃a,x=enc a∧Q a)→∃l:List α,rows=l.map enc∧∀a∈l,Q a
 |[],_=>⟨[],rfl,by simp⟩
 |r::rs,h=>by
   obtain⟨a,rfl,ha⟩:=h r (by simp);obtain⟨l,rfl,hl⟩:=Uc (rows:=rs) fun x hx=>h x (by simp[hx]);exact⟨a::l,rfl,by simpa using⟨ha,hl⟩⟩
theorem Opens.one{R:List AV→Prop}(h:Opens P t R){H:Type}{enc:TypeId×Value→H}{w:World}{base:Nat}{spare:Nat→Bool}{held:Bool}{v:Value}{d:DataW H}{ps:List MemPlace}(hv:v.cells=#[v])(hd:DataW.Trod enc P w base spare held t v d ps):
    ∃row,R row∧BC (JT w) w row [v]:=by
 obtain⟨fuel,hf⟩:=hd;rw[hv]at hf;obtain⟨row,h1,h2,_⟩:=h _ _ _ _ _ _ _ _ _ hf;exact⟨row,h1,h2⟩
end
theorem aL:Opens prog 22 (fun r=>∃l:List Int,r=[.sl 1 (l.map Gq) none]):=
 (aK (n:=1) Tryz.underlying22 (by kernel_rfl) (by omega) (aG Tryz.underlying3)).mono (by
   rintro r ⟨rows,rfl,_,hr⟩;obtain⟨l,rfl,_⟩:=Uc (enc:=Gq) (Q:=fun _=>True) (fun x hx=>by obtain⟨t,rfl,_⟩:=hr x hx;exact⟨t,rfl,trivial⟩)
   exact⟨l,rfl⟩)
theorem aM{H:Type}{enc:TypeId×Value→H}{sp:Nat→Bool}{held:Bool}{base:Nat}{w:World}{a:Option Addr}{n c:Nat}{d:DataW H}{p:List MemPlace}(h:DataW.Trod enc prog w base sp held 22 (.slice a n c) d p):
    ∃l:List Int,rep ⟨JT w,[],[]⟩ w (.sl 1 (l.map Gq) none) (.slice a n c):=by
 obtain⟨r0,⟨l,rfl⟩,k0⟩:=aL.one rfl h;simp only[BC]at k0;obtain⟨_,_,e0,k0,rfl⟩:=k0;injection e0 with e0;subst e0;exact⟨l,H6 (G:=⟨JT w,[],[]⟩) _ _ k0⟩
theorem aN{f:FuncId}(hf:∀l:List Int,AFn prog f [.sl 1 (l.map Gq) none] (fun x=>x= .v (.bool true))){H:Type}{enc:TypeId×Value→H}{sp:Nat→Bool}{held:Bool}{base:Nat}(a:Option Addr)(n c:Nat)(w:World){d:DataW H}{p:List MemPlace}
    (h:DataW.Trod enc prog w base sp held 22 (.slice a n c) d p):Calls prog f #[.slice a n c] w fun e w'=>e= .returned (.bool true)∧Below w.heap.size w w':=by
 obtain⟨l,k⟩:=aM h;refine X9 (vs:=[.slice a n c]) (hf l) (JT w) (fun b o h=>h) ?_;simp only[AE];exact⟨_,_,rfl,k,rfl⟩
theorem Ud{s:Spc}{dev:Int}(h:C9 s dev=true)(h0:dev≠0):∃m∈s.mounts,m.1=dev:=by
 unfold C9 Bb at h;simp only[Bool.or_eq_true,decide_eq_true_eq,h0,or_false]at h
 cases hf:s.mounts.find? fun m:DU=>decide (m.1=dev)with
 |none=>rw[hf]at h;cases h
 |some m=>exact⟨m,List.mem_of_find?_eq_some hf,by have:=List.find?_some hf;simpa using this⟩
theorem Of{s:Spc}{m:DU}(h:m∈s.mounts):C9 s m.1=true:=by
 unfold C9 Bb;rw[Bool.or_eq_true];refine .inl ?_;rw[Option.isSome_map]
 cases hf:s.mounts.find? fun m':DU=>decide (m'.1=m.1)with
 |none=>have:=List.find?_eq_none.1 hf m h;simp at this
 |some m=>rfl
theorem aO{f:AM}{ms ms':List DU}{dev:Int}(h:C9 ⟨f,ms⟩ dev=true)(hs:∀m∈ms,m∈ms'):C9 ⟨f,ms'⟩ dev=true:=by
 by_cases h0:dev=0
 ·unfold C9;simp[h0]
 obtain⟨m,hm,rfl⟩:=Ud h h0;exact Of (s:=⟨f,ms'⟩) (hs m hm)
section
theorem Ue(s:Spc):∀(k:Nat) (a:A7),(B8 s k a).length≤k
 |0,_=>by simp[B8]
 |k+1,a=>by
   unfold B8;split
   ·cases h:Ee s a with
    |none=>simp
    |some b=>have:=Ue s k b;simp;omega
   simp
end
end Go.Proofs.YtbgnigjfkbmceaaGreatDoor
namespace Go.Proofs.YtbgnigjfkbmceaaGreatDoor
section
variable {s:Spc}(hv:SpcV s)
include hv
theorem R6{q:Nat}{d:Dvc}{p:Nod}{x:Int}(hq:s.files[q]?=some d)(hp:p∈d.nodes)(hx:p.ino=x):Ba s.files ((q:Int),x)=some p:=
 Qx (a:=((q:Int),x)) rfl hq (hv.files.vd d (AT hq)).asc hp hx
theorem Mm{a b:A7}(h:AZ s.files a=true)(hs:Ca s a=some b):AZ s.files b=true:=by
 obtain⟨q,d,m,h1,h2,h3,h4,h5,h6⟩:=Kn (f:=s.files) (a:=a) (by rw[h];simp);have hd:=hv.files.vd d (AT h2);unfold Ca at hs;by_cases h0:a.2≠1
 ·rw[if_pos h0]at hs;injection hs with hs;subst hs;rw[h5,h1];obtain⟨p,hp,hpi,e,he,_⟩:=hd.par m h3 (by rw[h4];exact h0) h6
  have hk:p.kind=2:=by
   by_cases hk:p.kind=2
   ·exact hk
   have:=(hd.leaf p hp hk).2;rw[this]at he;cases he
  exact(Kl (R6 hv h2 hp hpi)).2 hk
 rw[if_neg h0]at hs;obtain⟨m',hm',_,e⟩:=Ml hs;obtain⟨i,hi⟩:=List.getElem?_of_mem hm';rw[←e];exact(hv.mnt i m' hi).dir
theorem R7{a b:A7}(h:C9 s a.1=true)(hs:Ca s a=some b):C9 s b.1=true:=by
 unfold Ca at hs;by_cases h0:a.2≠1
 ·rw[if_pos h0]at hs;injection hs with hs;subst hs;exact h
 rw[if_neg h0]at hs;obtain⟨m',hm',_,e⟩:=Ml hs;obtain⟨i,hi⟩:=List.getElem?_of_mem hm';rw[←e];exact aO (f:=s.files) (hv.mnt i m' hi).there (fun x hx=>List.mem_of_mem_take hx)
theorem Uf:Bb s 0=none:=by
 cases h:Bb s 0 with
 |none=>rfl
 |some on=>
   obtain⟨m',hm',e,_⟩:=Ml h;obtain⟨i,hi⟩:=List.getElem?_of_mem hm';have:=(hv.mnt i m' hi).dev1;omega
theorem aQ{a:A7}(h:C9 s a.1=true)(h0:a≠(0,1)):∃b,Ca s a=some b:=by
 have _:=hv;unfold Ca;by_cases h1:a.2≠1
 ·exact⟨_,if_pos h1⟩
 rw[if_neg h1];have h2:a.1≠0:=fun e=>h0 (Prod.ext e (by simpa using h1));unfold C9 at h;rw[decide_eq_false h2,Bool.or_false]at h
 cases ho:Bb s a.1 with
 |none=>rw[ho]at h;cases h
 |some b=>exact⟨b,rfl⟩
theorem K5{a:A7}(h:AZ s.files a=true):B8 s (BG s.files) a=a::(match Ca s a with
    |none=>[]
    |some b=>B8 s (BG s.files) b):=by
 have hd:¬AZ s.files a=false:=by rw[h];simp
 have he:=J7 hv a
 cases hm:BG s.files with
 |zero=>rw[hm]at he;exact absurd he hd
 |succ m=>
   rw[hm]at he;rw[Hd hd,Li hv hd]
   cases hs:Ca s a with
   |none=>rfl
   |some b=>
     simp only;have h1:=he.resolve_left hd b hs;have h2:=J7 hv b;rw[hm]at h2;rw[Qz hv m (m+1) b h1 h2]
theorem aR{a:A7}(h:AZ s.files a=true)(hm:C9 s a.1=true):(0,1)∈B8 s (BG s.files) a:=by
 have key:∀(k:Nat) (a:A7),FF s k a→AZ s.files a=true→C9 s a.1=true→(0,1)∈B8 s (BG s.files) a:=by
  intro k
  induction k with
  |zero=>intro a he h _;rw[show AZ s.files a=false from he]at h;cases h
  |succ k ih=>
    intro a he h hm;by_cases h0:a=(0,1)
    ·rw[K5 hv h,h0];exact List.mem_cons_self ..
    obtain⟨b,hb⟩:=aQ hv hm h0;rw[K5 hv h,hb];exact List.mem_cons_of_mem _ (ih b (he.resolve_left (by rw[h];simp) b hb) (Mm hv h hb) (R7 hv hm hb))
 exact key _ a (J7 hv a) h hm
theorem Mn{a:A7}(h:¬(AZ s.files a=true∧C9 s a.1=true)):Cj s a=(⟨#[]⟩,false):=by
 have _:=hv;unfold Cj;rw[if_neg fun c=>h ⟨c.1,c.2.1⟩]
theorem Og{a:A7}(h:AZ s.files a=true)(hm:C9 s a.1=true):Cj s a=(Lm s ((B8 s (BG s.files) a).takeWhile fun x=>decide (x≠(0,1))),true):=by
 unfold Cj;rw[if_pos ⟨h,hm,aR hv h hm⟩]
theorem aS(h:AZ s.files (0,1)=true):Cj s (0,1)=(⟨#[47]⟩,true):=by
 rw[Og hv h (by unfold C9;simp),K5 hv h,List.takeWhile_cons];simp[Lm,Ll]
theorem Ug{a b:A7}(h:AZ s.files a=true)(hm:C9 s a.1=true)(h0:a≠(0,1))(hb:Ca s a=some b):Cj s a=(if a.2=1 then(Cj s b).1 else H0 (Cj s b).1 (He s a),true)∧(Cj s b).2=true:=by
 rw[Og hv h hm,Og hv (Mm hv h hb) (R7 hv hm hb),K5 hv h,hb,List.takeWhile_cons];simp only[h0,ne_eq,not_false_eq_true,decide_true,if_true];refine⟨?_,trivial⟩;unfold Lm Ll;rw[List.filter_cons];by_cases h1:a.2=1
 ·simp[h1]
 simp[h1]
def Eg(s:Spc):Nat→A7→A7
 |0,a=>a
 |k+1,a=>if AZ s.files a=true then(if a.2≠1 then(a.1,(Ai s.files a).parent)else match Bb s a.1 with
   |some on=>Eg s k on
   |none=>a)else(0,0)
omit hv in
theorem aT(dev:Int):K4 s dev≤s.mounts.length:=by
 unfold K4
 cases h:s.mounts.findIdx? fun m:DU=>decide (m.1=dev)with
 |none=>simp
 |some i=>
   have:=(List.findIdx?_eq_some_iff_getElem.1 h).1;simp only;omega
theorem Uh{i j:Nat}{m m':DU}(hi:s.mounts[i]?=some m)(hj:s.mounts[j]?=some m')(h:m.1=m'.1):i=j:=by
 have key:∀{i j:Nat} {m m':DU},s.mounts[i]?=some m→s.mounts[j]?=some m'→m.1=m'.1→¬i<j:=by
  intro i j m m' hi hj h hlt;have hf:=(hv.mnt j m' hj).fresh
  have hm:m∈s.mounts.take j:=by
   refine AT (i:=i) ?_;rw[List.getElem?_take,if_pos hlt];exact hi
  have:=Of (s:=⟨s.files,s.mounts.take j⟩) hm;rw[h,hf]at this;cases this
 have h1:=key hi hj h;have h2:=key hj hi h.symm;omega
omit hv in
theorem Oh{a:A7}{d:Int}(h:CJ s a=some d):∃i:Nat,s.mounts[i]?=some ((d,a):DU):=by
 unfold CJ at h
 cases hf:s.mounts.find? fun m:DU=>decide (m.2=a)with
 |none=>rw[hf]at h;cases h
 |some m=>
   rw[hf]at h;injection h with h;have h2:=List.find?_some hf;simp only[decide_eq_true_eq]at h2;obtain⟨i,hi⟩:=List.getElem?_of_mem (List.mem_of_find?_eq_some hf);exact⟨i,by rw[hi,←h,←h2]⟩
omit hv in
theorem aU{a:A7}(h:∀(i:Nat) (m:DU),s.mounts[i]?=some m→m.2≠a):CJ s a=none:=by
 cases hc:CJ s a with
 |none=>rfl
 |some d=>obtain⟨i,hi⟩:=Oh hc;exact absurd rfl (h i _ hi)
theorem Ui:∀(n:Nat) (a:A7),(∀(i:Nat) (m:DU),s.mounts[i]?=some m→m.2=a→s.mounts.length≤i+n)→CJ s (DG s n a)=none:=by
 intro n
 induction n with
 |zero=>
   intro a h;refine aU fun i m hi e=>?_;have h1:=h i m hi e;have h2:=(AP.1 hi).1;omega
 |succ n ih=>
   intro a h
   cases hc:CJ s a with
   |none=>rw[Q6 (by rw[hc];rfl)];exact hc
   |some d=>
     obtain⟨i,hi⟩:=Oh hc;rw[DG];refine ih _ fun j m hj e=>?_;have he:HQ s a=(d,1):=by unfold HQ;rw[hc]
     rw[he]at e;have h1:=h i _ hi rfl;have hth:=(hv.mnt j m hj).there;have hd1:=(hv.mnt i _ hi).dev1;rw[e]at hth;obtain⟨m'',hm'',e2⟩:=Ud hth (by simp only at hd1 ⊢;omega);obtain⟨k,hk⟩:=List.getElem?_of_mem hm''
     have hkj:k<j:=by
      have:=(AP.1 hk).1;simp at this;omega
     rw[List.getElem?_take,if_pos hkj]at hk;have:=Uh hv hk hi e2;omega
omit hv in
theorem Uj:∀(n:Nat) (a:A7),DG s (n+1) a=HQ s (DG s n a)
 |0,_=>rfl
 |n+1,a=>Uj n (HQ s a)
theorem aV(a:A7):DG s (s.mounts.length+1) a=DG s s.mounts.length a:=by
 rw[Uj];refine Q5 ?_;rw[Ui hv _ a (fun i m _ _=>by omega)];rfl
theorem Uk{i:Nat}{m:DU}(hi:s.mounts[i]?=some m):Bb s m.1=some m.2:=by
 have h1:C9 s m.1=true:=Of (AT hi);have hd:=(hv.mnt i m hi).dev1;unfold C9 at h1;rw[decide_eq_false (by omega),Bool.or_false]at h1
 cases ho:Bb s m.1 with
 |none=>rw[ho]at h1;cases h1
 |some on=>
   obtain⟨m',hm',e1,e2⟩:=Ml ho;obtain⟨j,hj⟩:=List.getElem?_of_mem hm';have:=Uh hv hj hi e1;subst this;rw[hi]at hj;injection hj with hj;rw[←e2,hj]
theorem aW{x:A7}{dev:Int}(hc:CJ s x=some dev):∀(k:Nat) (y:A7),FF s k y→AZ s.files y=true→y.1=dev→∃t r,B8 s (BG s.files) y=t++(dev,1)::x::r:=by
 intro k
 induction k with
 |zero=>intro y he h _;rw[show AZ s.files y=false from he]at h;cases h
 |succ k ih=>
   intro y he h hy;obtain⟨i,hi⟩:=Oh hc;by_cases h1:y.2=1
   ·have hs:Ca s y=some x:=by
       unfold Ca;rw[if_neg (by simpa using h1),hy];exact Uk hv hi
    obtain⟨t,ht⟩:=Oe hv (Mm hv h hs);refine⟨[],t,?_⟩;rw[K5 hv h,hs];simp only[List.nil_append];rw[ht,←hy,←h1]
   have hs:Ca s y=some (y.1,(Ai s.files y).parent):=if_pos h1;obtain⟨t,r,ht⟩:=ih _ (he.resolve_left (by rw[h];simp) _ hs) (Mm hv h hs) hy;refine⟨y::t,r,?_⟩;rw[K5 hv h,hs];simp only[List.cons_append];rw[ht]
def GY(s:Spc)(L:List A7)(i:Nat):Bool:=match L[i]? with
 |none=>true
 |some x=>match CJ s x with
   |none=>true
   |some dev=>decide (0<i)&&decide (L[i - 1]?=some (dev,1))
theorem Ul{a:A7}{i:Nat}{x:A7}(hi:(B8 s (BG s.files) a)[i]?=some x):GY s (B8 s (BG s.files) a) i=R3 s a x:=by
 unfold GY R3;simp only[hi]
 cases hc:CJ s x with
 |none=>rfl
 |some dev=>
   simp only;rw[Bool.eq_iff_iff];simp only[Bool.and_eq_true,decide_eq_true_eq];constructor
   ·rintro⟨_,h2⟩;exact⟨_,AT h2,rfl⟩
   rintro⟨y,hy,hyd⟩;obtain⟨t,r,ht⟩:=aW hv hc _ y (J7 hv y) (Zy hv hy) hyd;obtain⟨p,hp⟩:=Zx hv hy;have hL:B8 s (BG s.files) a=(p++t)++(dev,1)::x::r:=by rw[←hp,ht,List.append_assoc]
   have hn:=UY hv _ a (J7 hv a)
   have hx:(B8 s (BG s.files) a)[(p++t).length+1]?=some x:=by
    rw[hL,DQ (by omega)];simp
   have hx0:(B8 s (BG s.files) a)[(p++t).length]?=some (dev,1):=by
    rw[hL,DQ (by omega)];simp
   have e:i=(p++t).length+1:=by
    obtain⟨h1,h2⟩:=AP.1 hi;obtain⟨h3,h4⟩:=AP.1 hx;exact(List.getElem_inj hn).1 (h2.trans h4.symm)
   subst e;exact⟨by omega,hx0⟩
theorem aX(a:A7):EO s a=((Cj s a).2&&(List.range (B8 s (BG s.files) a).length).all (GY s (B8 s (BG s.files) a))):=by
 unfold EO
 congr 1
 rw[Bool.eq_iff_iff,List.all_eq_true,List.all_eq_true];constructor
 ·intro h i hi;have hl:=List.mem_range.1 hi;rw[Ul hv (BA hl)];exact h _ (List.getElem_mem hl)
 intro h x hx;obtain⟨i,hi⟩:=List.getElem?_of_mem hx;rw[←Ul hv hi];exact h i (List.mem_range.2 (AP.1 hi).1)
end
end Go.Proofs.YtbgnigjfkbmceaaGreatDoor
namespace Go.Proofs.YtbgnigjfkbmceaaGreatDoor
open Go.RowKit
theorem aY(d m:AB):(H0 d m).size≤d.size+1+m.size:=by
 unfold H0;split
 ·rw[ByteArray.size_append];omega
 rw[ByteArray.size_append,ByteArray.size_append];show d.size+1+m.size≤_;omega
theorem aZ{s:Spc}(hv:SpcV s)(pre:List A7):(Lm s pre).size≤1+13 * pre.length:=by
 have key:∀(l:List AB) (d:AB),(∀x∈l,x.size≤12)→(l.foldl H0 d).size≤d.size+13 * l.length:=by
  intro l
  induction l with
  |nil=>intro d _;simp
  |cons x l ih=>
    intro d h;have h1:=ih (H0 d x) fun y hy=>h y (List.mem_cons_of_mem _ hy);have h2:=h x (List.mem_cons_self ..);have h3:=aY d x;rw[List.foldl_cons,List.length_cons];omega
 have h:=key (Ll s pre).reverse ⟨#[47]⟩ (fun x hx=>by
  rw[List.mem_reverse]at hx;obtain⟨y,_,rfl⟩:=List.mem_map.1 hx
  exact R5 hv.files y)
 have h2:(Ll s pre).length≤pre.length:=by unfold Ll;rw[List.length_map];exact List.length_filter_le _ _
 rw[List.length_reverse]at h;have:(⟨#[47]⟩:AB).size=1:=rfl;unfold Lm;omega
theorem Um{s:Spc}(hv:SpcV s)(a:A7):(Cj s a).1.size≤1000:=by
 unfold Cj;split
 ·have h3:=Ue s (BG s.files) a;have h4:=Ub hv.files;refine Nat.le_trans (aZ hv _) ?_;refine Nat.le_trans (Nat.add_le_add_left (Nat.mul_le_mul_left 13 ((List.takeWhile_sublist _).length_le)) 1) ?_;omega
 exact BO _
theorem Un(d:AB)(h:0<d.size):d.data.toList.getLast?=some 47↔(((d[d.size - 1]'(by omega)).toNat:Int)=47):=by
 have hl:d.data.toList.length=d.size:=by simp
 rw[List.getLast?_eq_getElem?,hl,BA (by omega)];show some (d[d.size - 1]'(by omega))=some 47↔_;rw[Option.some.injEq];constructor
 ·intro e;rw[e];rfl
 intro e;refine UInt8.toNat_inj.1 ?_;show _=47;omega
theorem b6{d m:AB}(h:¬0<d.size):H0 d m=d++⟨#[47]⟩++m:=by
 refine if_neg fun e=>?_;have hl:d.data.toList.length=d.size:=by simp
 rw[List.getLast?_eq_getElem?,List.getElem?_eq_none (by omega)]at e;cases e
section
theorem Uo(d m:AB)(hd:d.size≤1000000)(hm:m.size≤1000000):AFn prog 196 [.v (.string d), .v (.string m)] (fun r=>r= .v (.string (H0 d m))):=by
 refine enter Tryz.func196 rfl rfl rfl rfl rfl 0 rfl ?_;refine w_ (Bi (h:=n_ (h:=Fk (h:=m_ (h:=?_)))));refine AF true rfl rfl (fun hb1 hc1=>?_) (fun hb1 hc1=>?_)
 ·refine DF (h:=n_ (h:=Hr (h:=?_)));refine Af (Js (n:=d.size - 1) Tryz.underlying9 rfl rfl (by omega) (by omega) ?_);refine ET (h:=Cl (h:=?_));refine A6 rfl (fun hb2 hc2=>?_) (fun hb2 hc2=>?_)
  ·refine EJ (h:=?_);refine A3 rfl (F0 rfl rfl (by omega) ?_);refine At (h:=BS (?_));refine A4 ?_;rw[show H0 d m=d++m from if_pos ((Un d (by omega)).2 hc2)];rfl
  refine AK (Aa (h:=?_));refine A3 rfl (F0 rfl rfl (by show d.size+1≤_;omega) ?_);refine m_ (h:=?_);refine A3 rfl (F0 rfl rfl (by rw[ByteArray.size_append];show d.size+1+m.size≤_;omega) ?_);refine At (h:=?_);refine A4 ?_;rw[show H0 d m=d++⟨#[47]⟩++m from if_neg (fun h=>hc2 ((Un d (by omega)).1 h))];rfl
 refine BF (h:=B1 (h:=D7 (h:=AK (Aa (h:=?_)))));refine A3 rfl (F0 rfl rfl (by show d.size+1≤_;omega) ?_);refine m_ (h:=?_);refine A3 rfl (F0 rfl rfl (by rw[ByteArray.size_append];show d.size+1+m.size≤_;omega) ?_);refine At (h:=?_);refine A4 ?_;rw[b6 (by omega)];rfl
theorem b7(s:Spc)(a:A7)(hs:SpcB s):AFn prog 248 [.agg (AW s.files), .agg (A8 a)] (fun r=>r= .v (.string (He s a))):=by
 have hen:=O7 hs.files (a.1,(Ai s.files a).parent);change (JS s a).entries.length≤1000 at hen;refine enter Tryz.func248 rfl rfl rfl rfl rfl 0 rfl ?_;refine Dg (h:=Bl (h:=?_));refine A3 rfl (AA (G7 s.files a hs.files) ?_);rintro r rfl
 skip
 refine Dt (h:=B5 (h:=Be (h:=AN (h:=AN (h:=Ck (h:=?_))))));refine A3 rfl (AA (G7 s.files (a.1,(Ai s.files a).parent) hs.files) ?_);rintro r rfl
 skip
 refine Dt (h:=B5 (h:=D8 (h:=?_)));refine BX (fun m t=>∃j:Nat,j≤(JS s a).entries.length∧m=(JS s a).entries.length - j∧(∀i y,i<j→(JS s a).entries[i]?=some y→decide (y.2=a.2)=false)∧t=⟨look [(3, .bp 1 0),(7, .bp 3 0),(9, .v (.int .i64 (j:Int)))],⟨[AW s.files,A8 a,AU (Ai s.files a),AU (JS s a)],[]⟩⟩) ((JS s a).entries.length) ((wk 4 0)) (⟨0,by omega,rfl,fun i y hi=>by omega,rfl⟩) ?_;rintro m t ⟨j,hj,rfl,ha,rfl⟩;refine BD (h:=Ct (h:=BZ (h:=?_)));refine A6 rfl (fun hb1 hc1=>?_) (fun hb1 hc1=>?_)
 ·obtain⟨hlt,x,hy,hrow, -⟩:=Bw CT hc1;refine AK (q_ (BL (q_ (E4 9 (h:=Ar 0 (h:=AD 1 (h:=Ac 2 (h:=FK 3 (h:=Ar 4 (h:=AD 5 (h:=Ar 6 (h:=AD 7 (h:=Fj 8 (h:=z_ (h:=t_ (?_))))))))))))))));refine A6 rfl (fun hb2 hc2=>?_) (fun hb2 hc2=>?_)
  ·refine G3 (h:=i_ (h:=AN (h:=BK (h:=Bj (h:=?_)))));refine A4 ?_;rw[show He s a=x.1 by simp only[He];rw[KX hy (by simpa using hc2) ha];rfl];rfl
  refine Di (h:=?_);refine⟨_,_,?_,⟨j+1,by omega,rfl,Hu hy ha (by simpa using hc2),rfl⟩,(wk 4 0)⟩;omega
 have e3:=CS CT hj hc1;subst e3;refine FS (h:=?_);refine A4 ?_;rw[show He s a=⟨#[]⟩ by simp only[He];rw[KY ha];rfl];rfl
end
def FZ(s:AB):List AV:=[.v (.string s)]
theorem Up{P:Program}{ev:Operand→Option AV}{h:AH}{R:AV→AH→Prop}{d:Option Tmp}{ty:TypeId}{pos:String}{af:Array Edge}{gd:Option (Nat×Bool)}{T:TypeId}{x lo hi:Operand}{s:ByteArray}{a k:Nat}{i j:Int}(hu:P.underlying T=some .string)
    (hx:ev x=some (.v (.string s))) (hl:ev lo=some (.v (.int .i64 i))) (hh:ev hi=some (.v (.int .i64 j))) (hi':i=(a:Int)) (hj:j=(k:Int)) (h1:a≤k) (h2:k≤s.size) (hR:R (.v (.string (s.extract a k))) h):AStep P ⟨d, .slice T x (some lo) (some hi) none,ty,pos,af,gd⟩ ev h R:=by
 refine Cc (fun _ G w ec _ he=>?_) hR;have k1:=he x (by simp[Op.operands]) _ hx;have k2:=he lo (by simp[Op.operands]) _ hl;have k3:=he hi (by simp[Op.operands]) _ hh;simp only[rep]at k1 k2 k3;subst hi' hj;refine⟨.string (s.extract a k),?_,by simp only[rep]⟩;simp[execOp,k1,k2,k3,Instr.sliceAt,Instr.slice,Instr.sliceBounds,Instr.sliceBound,asIntOf,run_underlying hu,h1,h2]
def Eh(s:AB):Bool:=decide (s.data.toList.head?=some 47)
def BB(s:AB):Bool:=decide (s.data.toList.getLast?=some 47)
theorem Oi{s:AB}(h:0<s.size):Eh s=decide (((s[0]'h).toNat:Int)=47):=by
 unfold Eh;rw[Yr s h,Bool.eq_iff_iff];simp
theorem Oj{s:AB}(h:0<s.size):BB s=decide (((s[s.size - 1]'(by omega)).toNat:Int)=47):=by
 unfold BB;rw[Ys s h,Bool.eq_iff_iff];simp
theorem R8{s:AB}(h:¬0<s.size):Eh s=false:=by
 have:s.data.toList=[]:=Dr (by rw[←Lib.size_eq];omega);unfold Eh;rw[this];rfl
theorem R9{s:AB}(h:¬0<s.size):BB s=false:=by
 have:s.data.toList=[]:=Dr (by rw[←Lib.size_eq];omega);unfold BB;rw[this];rfl
theorem Uq{s:AB}{k:Nat}(h:k<s.size)(h47:((s[k]'h).toNat:Int)=47):s.data.toList[k]?=some 47:=by
 rw[Lib.data_getElem? s k h]
 congr 1
 refine UInt8.toNat_inj.1 ?_;show _=47;omega
theorem Ur{s:AB}{f k:Nat}{ps:List AB}(hI:ED s.data.toList f k (Bo ps))(h:k=s.size∨s.data.toList[k]?=some 47):ED s.data.toList (k+1) (k+1) (Bo ps++one_ ((s.data.toList.drop f).take (k - f))):=by
 rcases h with h|h
 ·rw[Lib.size_eq]at h;subst h;exact Yn hI
 exact Ym hI h
theorem Us{s:AB}{f k:Nat}{ps:List AB}(hI:ED s.data.toList f k (Bo ps))(hk:k≤s.size)(h:k=s.size∨s.data.toList[k]?=some 47)(hf:f<k):ED s.data.toList (k+1) (k+1) (Bo (ps++[s.extract f k])):=Yt (Ur hI h) (Yp (Yq s hf hk))
theorem Ut{s:AB}{f k:Nat}{ps:List AB}(hI:ED s.data.toList f k (Bo ps))(h:k=s.size∨s.data.toList[k]?=some 47)(hf:¬f<k):ED s.data.toList (k+1) (k+1) (Bo ps):=Yu (Ur hI h) (by omega)
theorem b8{s:AB}{f k:Nat}{ps:List AB}(hI:ED s.data.toList f k (Bo ps))(h:k<s.size)(h47:¬((s[k]'h).toNat:Int)=47):ED s.data.toList f (k+1) (Bo ps):=Yl hI (Lib.data_getElem? s k h) (fun e=>h47 (by rw[e];rfl))
theorem Uu(ps:List AB):ps.length≤(D2 (Bo ps)).length:=by
 induction ps with
 |nil=>simp
 |cons p ps ih=>
   have:Bo (p::ps)=p.data.toList::Bo ps:=rfl;rw[this,J1];simp;omega
theorem RA{s:AB}{ps:List AB}(h:Bo ps=CZ s.data.toList){i:Nat}{x:AB}(hx:ps[i]?=some x):x.size≤s.size:=by
 rw[Lib.size_eq,Lib.size_eq s];refine Yz ?_;rw[←h];exact List.mem_map.2 ⟨x,AT hx,rfl⟩
theorem b9{ps:List AB}{j:Nat}{x t:AB}(hx:ps[j]?=some x)(h:t.data.toList=D2 ((Bo ps).take j)):(t++(⟨#[47]⟩++x)).data.toList=D2 ((Bo ps).take (j+1)):=by
 have e:(Bo ps)[j]?=some x.data.toList:=by unfold Bo;rw[List.getElem?_map,hx];rfl
 rw[List.take_add_one,e,QW,←h];simp[D2]
theorem Ok{a b:AB}(h:a.data.toList=b.data.toList):a=b:=ByteArray.ext (Array.toList_inj.1 h)
theorem bA{s:AB}{ps:List AB}(h:Bo ps=CZ s.data.toList){i:Nat}{x:AB}(hx:ps[i]?=some x)(hn:Dl x=false):Dy s.data.toList=false:=by
 rw[←QY];unfold MU;rw[←h];have:(Bo ps).all EC=false:=List.all_eq_false.2 ⟨x.data.toList,List.mem_map.2 ⟨x,AT hx,rfl⟩,by rw[←Qa,hn];simp⟩;rw[this,Bool.false_and]
theorem bB{s t1:AB}{ps:List AB}(h:Bo ps=CZ s.data.toList)(ha:∀(i:Nat) (y:AB),i<ps.length→ps[i]?=some y→Dl y=true)(ht:t1.data.toList=D2 ((Bo ps).take ps.length))(h3:¬s=⟨#[47]⟩)(h0:0<ps.length):Dy s.data.toList=decide (s=t1):=by
 have hl:(Bo ps).length=ps.length:=by simp[Bo]
 rw[List.take_of_length_le (by omega)]at ht;rw[←QY];unfold MU;rw[←h,←ht]
 have h1:(Bo ps).all EC=true:=List.all_eq_true.2 fun y hy=>by
  obtain⟨z,hz,rfl⟩:=List.mem_map.1 hy;obtain⟨i,hi⟩:=List.getElem?_of_mem hz;rw[←Qa];exact ha i z (AP.1 hi).1 hi
 have h2:decide (s.data.toList=[47])=false:=decide_eq_false fun e=>h3 (Ok e);have h4:Bo ps≠[]:=fun e=>by rw[e]at hl;simp at hl;omega
 rw[h1,h2,decide_eq_true h4];simp only[Bool.true_and,Bool.false_or];rw[Bool.eq_iff_iff,decide_eq_true_iff,decide_eq_true_iff];exact⟨fun e=>Ok e,fun e=>by rw[e]⟩
theorem bC{s:AB}{ps:List AB}(h:Bo ps=CZ s.data.toList)(h3:¬s=⟨#[47]⟩)(h0:ps.length=0):Dy s.data.toList=false:=by
 have e:Bo ps=[]:=by rw[Dr h0];rfl
 rw[←QY];unfold MU;rw[←h,e];have h2:decide (s.data.toList=[47])=false:=decide_eq_false fun e=>h3 (Ok e);rw[h2];simp
section
theorem RB(s:AB)(hs:s.size≤100000):AFn prog 191 [.v (.string s)] (fun r=>∃ps:List AB,Bo ps=CZ s.data.toList∧r= .tup [.sl 1 (ps.map FZ) none, .v (.bool (Eh s)), .v (.bool (BB s))]):=by
 have hsz:=Lib.size_eq s;refine enter Tryz.func191 rfl rfl rfl rfl rfl 0 rfl ?_;refine w_ (a_ (h:=a_ (h:=B5 (h:=Df (h:=Df (h:=D8 (h:=?_)))))));refine NY 5 9 1 rfl (by repeat constructor) ?_;refine BX (fun m t=>∃(f k:Nat) (ps:List AB),k≤s.size+1∧f≤k∧ps.length≤k∧m=s.size+1 - k∧ED s.data.toList f k (Bo ps)∧t=⟨look [(0, .v (.string s)),(5, .sl 1 (ps.map FZ) (some 0)),(6, .v (.int .i64 (f:Int))),(7, .v (.int .i64 (k:Int)))],⟨[],[(9,1,ps.map FZ)]⟩⟩) (s.size+1) ((wk 0 1)) (⟨0,0,[],by omega,by omega,by simp,rfl,Yo _,rfl⟩) ?_;rintro m t ⟨f,k,ps,hk,hfk,hpl,rfl,hI,rfl⟩;refine Dv (h:=n_ (h:=FL (h:=e_ (?_))));refine A6 rfl (fun hb1 hc1=>?_) (fun hb1 hc1=>?_)
 ·refine Bk (h:=EJ (h:=n_ (h:=DT (h:=?_))));refine AF false rfl rfl (fun hb2 hc2=>?_) (fun hb2 hc2=>?_)
  ·refine BF (h:=Cl (h:=Cz (h:=Dv (h:=Dk (h:=?_)))));refine A6 rfl (fun hb3 hc3=>?_) (fun hb3 hc3=>?_)
   ·have hnx:=Us hI (by omega) (.inl (by omega)) (by omega);refine BV (h:=DF (h:=m_ (h:=?_)));refine A3 rfl (Up (a:=f) (k:=k) Tryz.underlying9 rfl rfl rfl rfl rfl (by omega) (by omega) ?_);refine Cd (h:=?_);refine A3 rfl (FJ rfl rfl rfl (by simp;omega) (by repeat constructor) ?_);refine B5 (h:=LD (h:=EH (h:=?_)));refine⟨_,_,?_,⟨_,k+1,_,by omega,by omega,(by(try simp only[List.length_append,List.length_cons,List.length_nil]);omega),rfl,hnx,rfl⟩,(by(try simp only[List.map_append,List.map_cons,List.map_nil]);exact Aj 0 1 rfl rfl rfl rfl ((by repeat (first|exact Sub.nil|refine Ak rfl rfl ?_|refine Ao ?_|refine Ap rfl ?_|refine Aq rfl ?_))))⟩;omega
   have hnx:=Ut hI (.inl (by omega)) (by omega);refine AK (LD (h:=EH (h:=?_)));refine⟨_,_,?_,⟨_,k+1,_,by omega,by omega,(by(try simp only[List.length_append,List.length_cons,List.length_nil]);omega),rfl,hnx,rfl⟩,(by(try simp only[List.map_append,List.map_cons,List.map_nil]);exact Aj 0 1 rfl rfl rfl rfl ((by repeat (first|exact Sub.nil|refine Ak rfl rfl ?_|refine Ao ?_|refine Ap rfl ?_|refine Aq rfl ?_))))⟩;omega
  refine DF (h:=?_);refine Af (Js (n:=k) Tryz.underlying9 rfl rfl rfl (by omega) ?_);refine ET (h:=C1 (h:=?_));refine A6 rfl (fun hb4 hc4=>?_) (fun hb4 hc4=>?_)
  ·refine Dv (h:=Dk (h:=?_));refine A6 rfl (fun hb5 hc5=>?_) (fun hb5 hc5=>?_)
   ·have hnx:=Us hI (by omega) (.inr (Uq (by omega) hc4)) (by omega);refine BV (h:=DF (h:=m_ (h:=?_)));refine A3 rfl (Up (a:=f) (k:=k) Tryz.underlying9 rfl rfl rfl rfl rfl (by omega) (by omega) ?_);refine Cd (h:=?_);refine A3 rfl (FJ rfl rfl rfl (by simp;omega) (by repeat constructor) ?_);refine B5 (h:=LD (h:=EH (h:=?_)));refine⟨_,_,?_,⟨_,k+1,_,by omega,by omega,(by(try simp only[List.length_append,List.length_cons,List.length_nil]);omega),rfl,hnx,rfl⟩,(by(try simp only[List.map_append,List.map_cons,List.map_nil]);exact Aj 0 1 rfl rfl rfl rfl ((by repeat (first|exact Sub.nil|refine Ak rfl rfl ?_|refine Ao ?_|refine Ap rfl ?_|refine Aq rfl ?_))))⟩;omega
   have hnx:=Ut hI (.inr (Uq (by omega) hc4)) (by omega);refine AK (LD (h:=EH (h:=?_)));refine⟨_,_,?_,⟨_,k+1,_,by omega,by omega,(by(try simp only[List.length_append,List.length_cons,List.length_nil]);omega),rfl,hnx,rfl⟩,(by(try simp only[List.map_append,List.map_cons,List.map_nil]);exact Aj 0 1 rfl rfl rfl rfl ((by repeat (first|exact Sub.nil|refine Ak rfl rfl ?_|refine Ao ?_|refine Ap rfl ?_|refine Aq rfl ?_))))⟩;omega
  have hnx:=b8 hI (by omega) hc4;refine Di (h:=?_);refine⟨_,_,?_,⟨_,k+1,_,by omega,by omega,(by(try simp only[List.length_append,List.length_cons,List.length_nil]);omega),rfl,hnx,rfl⟩,(by(try simp only[List.map_append,List.map_cons,List.map_nil]);exact Aj 0 1 rfl rfl rfl rfl ((by repeat (first|exact Sub.nil|refine Ak rfl rfl ?_|refine Ao ?_|refine Ap rfl ?_|refine Aq rfl ?_))))⟩;omega
 refine Ks (JF (JF (Jb (t_ (q_ (E4 23 (h:=Ac 0 (h:=Ac 1 (h:=KR 2 (h:=Pt 3 (h:=Ac 4 (h:=?_))))))))))));refine Fs (j:=4) rfl (fun hb6=>?_) (fun hb6=>?_)
 ·have hc6:=bp hb6;refine Ac 5 (h:=?_);refine Ft (i:=6) rfl (Js (n:=0) Tryz.underlying9 rfl rfl rfl (by omega) ⟨rfl,rfl⟩) ?_;refine Fj 7 (h:=Fi 8 (h:=Ac 9 (h:=KR 10 (h:=Pt 11 (h:=Ac 12 (h:=?_))))));refine Fs (j:=12) rfl (fun hb7=>?_) (fun hb7=>?_)
  ·have hc7:=bp hb7;refine Ac 13 (h:=Ac 14 (h:=KR 15 (h:=Ps 16 (h:=?_))));refine Ft (i:=17) rfl (Js (n:=s.size - 1) Tryz.underlying9 rfl rfl (by omega) (by omega) ⟨rfl,rfl⟩) ?_;refine Fj 18 (h:=Fi 19 (h:=BM 20 (h:=BM 21 (h:=BM 22 (h:=z_ (h:=t_ (Ax (?_))))))));refine A4 ?_;refine⟨ps,OO hI (by omega),?_⟩
   (rw[Oi (by omega),Oj (by omega)];rfl)
  have hc7:=bp hb7;refine BH 13 (h:=BH 14 (h:=BH 15 (h:=BH 16 (h:=BH 17 (h:=BH 18 (h:=JJ 19 (h:=BM 20 (h:=BM 21 (h:=BM 22 (h:=z_ (h:=t_ (Ax (?_)))))))))))));refine A4 ?_;refine⟨ps,OO hI (by omega),?_⟩
  first|(rw[Oi (by omega),Oj (by omega)];rfl)|(rw[R8 (by omega),R9 (by omega)];rfl)|(exfalso;omega)
 have hc6:=bp hb6;refine BH 5 (h:=BH 6 (h:=BH 7 (h:=JJ 8 (h:=Ac 9 (h:=KR 10 (h:=Pt 11 (h:=Ac 12 (h:=?_))))))));refine Fs (j:=12) rfl (fun hb8=>?_) (fun hb8=>?_)
 ·have hc8:=bp hb8;refine Ac 13 (h:=Ac 14 (h:=KR 15 (h:=Ps 16 (h:=?_))));refine Ft (i:=17) rfl (Js (n:=s.size - 1) Tryz.underlying9 rfl rfl (by omega) (by omega) ⟨rfl,rfl⟩) ?_;refine Fj 18 (h:=Fi 19 (h:=BM 20 (h:=BM 21 (h:=BM 22 (h:=z_ (h:=t_ (Ax (?_))))))));refine A4 ?_;refine⟨ps,OO hI (by omega),?_⟩
  first|(rw[Oi (by omega),Oj (by omega)];rfl)|(rw[R8 (by omega),R9 (by omega)];rfl)|(exfalso;omega)
 have hc8:=bp hb8;refine BH 13 (h:=BH 14 (h:=BH 15 (h:=BH 16 (h:=BH 17 (h:=BH 18 (h:=JJ 19 (h:=BM 20 (h:=BM 21 (h:=BM 22 (h:=z_ (h:=t_ (Ax (?_)))))))))))));refine A4 ?_;refine⟨ps,OO hI (by omega),?_⟩
 first|(rw[Oi (by omega),Oj (by omega)];rfl)|(rw[R8 (by omega),R9 (by omega)];rfl)
theorem Ol(s:AB)(hs:s.size≤50000):AFn prog 156 [.v (.string s)] (fun r=>r= .v (.bool (Dy s.data.toList))):=by
 have hsz:=Lib.size_eq s;refine enter Tryz.func156 rfl rfl rfl rfl rfl 0 rfl ?_;refine w_ (BJ (h:=?_));refine A3 rfl (AA (RB s (by omega)) ?_);rintro r ⟨ps,hps,rfl⟩;have hpl:(ps.map FZ).length=ps.length:=by simp
 have hfl:=Qb s.data.toList;rw[←hps]at hfl;have hpm:=Uu ps;refine Fx (h:=x_ (h:=a_ (h:=a_ (h:=B5 (h:=Df (h:=D8 (h:=?_)))))));refine BX (fun m t=>∃(j:Nat) (t1:AB),j≤ps.length∧m=ps.length - j∧(∀i y,i<j→ps[i]?=some y→Dl y=true)∧t1.data.toList=D2 ((Bo ps).take j)∧t=⟨look [(0, .v (.string s)),(3, .sl 1 (ps.map FZ) none),(6, .v (.string t1)),(7, .v (.int .i64 (j:Int)))],⟨[],[]⟩⟩) (ps.length) ((wk 0 0)) (⟨0,⟨#[]⟩,by omega,rfl,fun i y hi=>by omega,rfl,rfl⟩) ?_;rintro m t ⟨j,t1,hj,rfl,ha,ht1,rfl⟩;refine Dv (h:=n_ (h:=BZ (h:=?_)));refine A6 rfl (fun hb1 hc1=>?_) (fun hb1 hc1=>?_)
 ·obtain⟨hlt,x,hy,hrow, -⟩:=Bw FZ hc1;have ht2:t1.size≤s.size+1:=by rw[Lib.size_eq,ht1];exact Nat.le_trans (Yy _ _) (by omega)
  refine Bk (h:=Dv (h:=?_));refine A3 rfl (EF (n:=j) rfl rfl rfl hrow ?_);refine l_ (h:=?_);refine A3 rfl (AA (O8 x (by have:=RA hps hy;omega)) ?_);rintro r rfl;refine Dj (h:=?_);refine A6 rfl (fun hb2 hc2=>?_) (fun hb2 hc2=>?_)
  ·refine Bd (h:=F6 (h:=Bj (h:=?_)));refine A4 ?_;exact vb (bA hps hy hc2).symm
  refine AK (BV (h:=DF (h:=?_)));refine A3 rfl (EF (n:=j) rfl rfl rfl hrow ?_);refine l_ (h:=?_);refine A3 rfl (F0 rfl rfl (by have:=RA hps hy;show 1+x.size≤_;omega) ?_);refine A3 rfl (F0 rfl rfl (by have:=RA hps hy;rw[ByteArray.size_append];show t1.size+(1+x.size)≤_;omega) ?_);refine EG (h:=EH (h:=?_));refine⟨_,_,?_,⟨j+1,t1++(⟨#[47]⟩++x),by omega,rfl,Hu hy ha hc2,b9 hy ht1,rfl⟩,(wk 0 0)⟩;omega
 refine Cg (h:=Aa (h:=DT (h:=?_)));refine AF false rfl rfl (fun hb3 hc3=>?_) (fun hb3 hc3=>?_)
 ·refine Eo (h:=Cp (h:=FN (h:=?_)));refine A4 ?_;exact vb (by rw[hc3];rfl)
 refine m_ (h:=n_ (h:=Fk (h:=m_ (h:=?_))));refine AF true rfl rfl (fun hb4 hc4=>?_) (fun hb4 hc4=>?_)
 ·refine m_ (h:=CX (h:=Bc (h:=EY (h:=?_))));refine A4 ?_;have e:=CS FZ hj hc1;subst e;exact vb (bB hps ha ht1 hc3 (by omega)).symm
 refine Cu (h:=EY (h:=?_));refine A4 ?_;have e:=CS FZ hj hc1;subst e;exact vb (bC hps hc3 (by omega)).symm
end
theorem RC{s:Spc}{d:Int}(h:(Bb s d).isSome=true):Bb s d=some ((Bb s d).getD (0,0)):=by
 cases ho:Bb s d with
 |none=>rw[ho]at h;cases h
 |some o=>rfl
theorem bD{s:Spc}{d:Int}(h:(Bb s d).isSome=false):Bb s d=none:=by
 cases ho:Bb s d with
 |none=>rfl
 |some o=>rw[ho]at h;cases h
theorem Uv{s:Spc}{a:A7}(k:Nat)(h:AZ s.files a=false):Eg s (k+1) a=(0,0):=by unfold Eg;rw[h];rfl
theorem Uw{s:Spc}{a:A7}(k:Nat)(h:AZ s.files a=true)(h1:¬a.2=1):Eg s (k+1) a=(a.1,(Ai s.files a).parent):=by unfold Eg;rw[if_pos h,if_pos h1]
theorem Ux{s:Spc}{a:A7}(k:Nat)(h:AZ s.files a=true)(h1:a.2=1)(ho:(Bb s a.1).isSome=true):Eg s (k+1) a=Eg s k ((Bb s a.1).getD (0,0)):=by
 conv=>lhs;unfold Eg
 rw[if_pos h,if_neg (by simpa using h1),RC ho];rfl
theorem Uy{s:Spc}{a:A7}(k:Nat)(h:AZ s.files a=true)(h1:a.2=1)(ho:(Bb s a.1).isSome=false):Eg s (k+1) a=a:=by
 conv=>lhs;unfold Eg
 rw[if_pos h,if_neg (by simpa using h1),bD ho]
section
theorem Uz{s:Spc}(hs:SpcB s)(hv:SpcV s)(a:A7)
    (hrec:AZ s.files a=true→∀b,Ca s a=some b→AFn prog 195 [.agg (AQ s), .agg (A8 b)] (fun r=>r= .tup [.v (.string (Cj s b).1), .v (.bool (Cj s b).2)])):
    AFn prog 195 [.agg (AQ s), .agg (A8 a)] (fun r=>r= .tup [.v (.string (Cj s a).1), .v (.bool (Cj s a).2)]):=by
 have hnm:=R5 hv.files a;have hwz:=Um hv;refine enter Tryz.func195 rfl rfl rfl rfl rfl 0 rfl ?_;refine EV (h:=a_ (h:=G2 (h:=l_ (h:=?_))));refine A3 rfl (AA (Hv s.files a hs.files) ?_);rintro r rfl;refine Dw (h:=?_);refine AF false rfl rfl (fun hb1 hc1=>?_) (fun hb1 hc1=>?_)
 ·refine EU (h:=Cl (h:=Cz (h:=w_ (Du (h:=?_)))));refine A4 ?_
  (rw[Mn hv (by simp_all)];rfl)
 refine l_ (h:=AN (h:=?_));refine Af (AA (OA s a.1 hs) ?_);rintro r rfl;refine Dd (h:=C1 (h:=?_));refine A6 rfl (fun hb2 hc2=>?_) (fun hb2 hc2=>?_)
 ·refine w_ (Du (h:=?_));refine A4 ?_
  (rw[Mn hv (by simp_all)];rfl)
 refine D0 (h:=C2 (h:=?_));refine A6 rfl (fun hb3 hc3=>?_) (fun hb3 hc3=>?_)
 ·refine q_ (Be (h:=AN (h:=?_)));refine A3 rfl (AA (Q3 s a.1 hs) ?_);rintro r rfl;refine Dt (h:=BJ (h:=e_ (?_)));refine A6 rfl (fun hb4 hc4=>?_) (fun hb4 hc4=>?_)
  ·have hst:Ca s a=some ((Bb s a.1).getD (0,0)):=by unfold Ca;rw[if_neg (by simpa using hc3)];exact RC hc4
   obtain⟨hw1,hw2⟩:=Ug hv hc1 hc2 (fun e=>by rw[e,Uf hv]at hc4;cases hc4) hst;rw[if_pos hc3]at hw1;refine Bl (h:=?_);refine A3 rfl (AA (hrec hc1 _ hst) ?_);rintro r rfl
   skip
   refine Pu (h:=Du (h:=BS (?_)));refine A4 ?_
   first|(rw[Mn hv (by simp_all)];rfl)|(rw[hw1];first|rfl|(rw[←hw2];rfl))
  have h00:a=(0,1):=by
   refine Prod.ext ?_ hc3;have:=hc2;unfold C9 at this;rw[hc4,Bool.false_or]at this;exact of_decide_eq_true this
  refine AK (w_ (Du (h:=?_)));refine A4 ?_
  first|(rw[Mn hv (by simp_all)];rfl)|(rw[hw1];first|rfl|(rw[←hw2];rfl))|(rw[h00,aS hv (by rw[←h00];exact hc1)];rfl)
 have hst:Ca s a=some (a.1,(Ai s.files a).parent):=if_pos hc3;obtain⟨hw1,hw2⟩:=Ug hv hc1 hc2 (fun e=>hc3 (by rw[e])) hst;rw[if_neg hc3]at hw1;refine AK (Ah (h:=l_ (h:=?_)));refine A3 rfl (AA (G7 s.files a hs.files) ?_);rintro r rfl;refine Dt (h:=B5 (h:=Be (h:=AN (h:=AN (h:=Ck (h:=?_))))));refine A3 rfl (AA (hrec hc1 _ hst) ?_);rintro r rfl
 skip
 refine Fx (h:=a_ (h:=BJ (h:=AN (h:=l_ (h:=?_)))));refine A3 rfl (AA (b7 s a hs) ?_);rintro r rfl;refine A3 rfl (AA (Uo (Cj s (a.1,(Ai s.files a).parent)).1 (He s a) (by have:=hwz (a.1,(Ai s.files a).parent);omega) (by omega)) ?_);rintro r rfl;refine m_ (h:=KS (h:=?_));refine A4 ?_
 first|(rw[Mn hv (by simp_all)];rfl)|(rw[hw1];first|rfl|(rw[←hw2];rfl))
theorem bE{s:Spc}(hs:SpcB s)(hv:SpcV s)(a:A7):AFn prog 195 [.agg (AQ s), .agg (A8 a)] (fun r=>r= .tup [.v (.string (Cj s a).1), .v (.bool (Cj s a).2)]):=by
 have key:∀(k:Nat) (a:A7),FF s k a→AFn prog 195 [.agg (AQ s), .agg (A8 a)] (fun r=>r= .tup [.v (.string (Cj s a).1), .v (.bool (Cj s a).2)]):=by
  intro k
  induction k with
  |zero=>intro a h;exact Uz hs hv a fun hd=>by rw[show AZ s.files a=false from h]at hd;cases hd
  |succ k ih=>intro a h;exact Uz hs hv a fun hd b hb=>ih b (h.resolve_left (by rw[hd];simp) b hb)
 exact key _ a (J7 hv a)
theorem bF{s:Spc}(hs:SpcB s)(a:A7)(p:Nat)(hrec:(Bb s a.1).isSome=true→AFn prog 194 [.agg (AQ s), .agg (A8 ((Bb s a.1).getD (0,0)))] (fun r=>r= .agg (A8 (Eg s p ((Bb s a.1).getD (0,0)))))):
    AFn prog 194 [.agg (AQ s), .agg (A8 a)] (fun r=>r= .agg (A8 (Eg s (p+1) a))):=by
 have hde:=Jo s.files a;refine enter Tryz.func194 rfl rfl rfl rfl rfl 0 rfl ?_;refine FM (h:=e_ (Ah (h:=l_ (h:=?_))));refine A3 rfl (AA (G7 s.files a hs.files) ?_);rintro r rfl;refine Ea (h:=Dw (h:=?_));refine AF false rfl rfl (fun hb1 hc1=>?_) (fun hb1 hc1=>?_)
 ·refine Ce (h:=e_ (Cz (h:=w_ (De (h:=e_ (Ax (BS (?_))))))));refine A4 ?_;rw[Uv p (by rw[hde,hc1];rfl)];rfl
 refine Bg (h:=C1 (h:=?_));refine A6 rfl (fun hb2 hc2=>?_) (fun hb2 hc2=>?_)
 ·refine w_ (De (h:=e_ (Ax (BS (?_)))));refine A4 ?_;rw[Uv p (by rw[hde,decide_eq_false hc2,Bool.and_false])];rfl
 refine D0 (h:=C6 (h:=?_));refine A6 rfl (fun hb3 hc3=>?_) (fun hb3 hc3=>?_)
 ·refine Ah (h:=AN (h:=De (h:=e_ (Ax (BS (?_))))));refine A4 ?_;rw[Uw p (by rw[hde,hc1,decide_eq_true hc2];rfl) hc3];rfl
 refine FR (h:=Be (h:=AN (h:=?_)));refine A3 rfl (AA (Q3 s a.1 hs) ?_);rintro r rfl;refine Dt (h:=BJ (h:=e_ (?_)));refine A6 rfl (fun hb4 hc4=>?_) (fun hb4 hc4=>?_)
 ·refine Bl (h:=?_);refine A3 rfl (AA (hrec hc4) ?_);rintro r rfl;refine s_ (h:=e_ (Ax (BS (?_))));refine A4 ?_;rw[Ux p (by rw[hde,hc1,decide_eq_true hc2];rfl) hc3 hc4];rfl
 refine AK (D6 (h:=e_ (Ax (?_))));refine A4 ?_;rw[Uy p (by rw[hde,hc1,decide_eq_true hc2];rfl) hc3 hc4];rfl
theorem bG{s:Spc}(hs:SpcB s)(hv:SpcV s):∀(p:Nat) (a:A7),K4 s a.1<p→AFn prog 194 [.agg (AQ s), .agg (A8 a)] (fun r=>r= .agg (A8 (Eg s p a))):=by
 intro p
 induction p with
 |zero=>intro a h;omega
 |succ p ih=>intro a hp;exact bF hs a p fun ho=>ih _ (by have:=UX hv (RC ho);omega)
end
end Go.Proofs.YtbgnigjfkbmceaaGreatDoor
namespace Go.Proofs.YtbgnigjfkbmceaaGreatDoor
section
variable {s:Spc}(hv:SpcV s)
include hv
omit hv in
theorem Mo{a:A7}(h:(Cj s a).2=true):AZ s.files a=true∧C9 s a.1=true:=by
 unfold Cj at h;split at h
 ·rename_i c;exact⟨c.1,c.2.1⟩
 cases h
theorem V0{d:Int}(h0:0≤d)(h1:d<(s.files.length:Int)):AZ s.files (d,1)=true:=by
 obtain⟨q,rfl⟩:=Int.eq_ofNat_of_zero_le h0;have hq:s.files[q]?=some s.files[q]:=BA (by omega);obtain⟨r,rest,hr,h2,h3,_⟩:=(hv.files.vd _ (AT hq)).root;exact(Kl (R6 hv hq (by rw[hr];exact List.mem_cons_self ..) h2)).2 h3
end
end Go.Proofs.YtbgnigjfkbmceaaGreatDoor
namespace Go.Proofs.YtbgnigjfkbmceaaGreatDoor
structure Fnd where
 dir:A7
 name:AB
 file:A7
 ex:Bool
 slash:Bool
 path:AB
def Fa:Fnd:=⟨(0,0),⟨#[]⟩,(0,0),false,false,⟨#[]⟩⟩
def Hf(x:Fnd):List AV:=[.v (.int .i64 x.dir.1), .v (.int .i64 x.dir.2), .v (.string x.name), .v (.int .i64 x.file.1), .v (.int .i64 x.file.2), .v (.bool x.ex), .v (.bool x.slash), .v (.string x.path)]
def E1(s:AB):List AB:=(CZ s.data.toList).map fun l=>⟨l.toArray⟩
theorem V1(s:AB):Bo (E1 s)=CZ s.data.toList:=by
 unfold Bo E1;rw[List.map_map];have:((fun x:AB=>x.data.toList) ∘ fun l:Bs=>(⟨l.toArray⟩:AB))=id:=by funext l;simp
 rw[this,List.map_id]
theorem V2:∀{a b:List AB},Bo a=Bo b→a=b
 |[],[],_=>rfl
 |[],_::_,h=>by simp[Bo]at h
 |_::_,[],h=>by simp[Bo]at h
 |x::a,y::b,h=>by
   simp only[Bo,List.map_cons,List.cons.injEq]at h;rw[Ok h.1,V2 (a:=a) (b:=b) h.2]
theorem V3{s:AB}{ps:List AB}(h:Bo ps=CZ s.data.toList):ps=E1 s:=V2 (h.trans (V1 s).symm)
theorem RD(s:AB):(E1 s).length≤s.size+1:=by
 have h1:=Uu (E1 s);have h2:=Qb s.data.toList;rw[←V1]at h2;rw[Lib.size_eq];omega
def EE(s:Spc):A7:=DG s s.mounts.length (0,1)
structure Lk where
 ps:List AB
 dir:A7
 name:AB
 file:A7
 ex:Bool
 links:Nat
abbrev bH:AB:=⟨#[46]⟩
abbrev bJ:AB:=⟨#[46,46]⟩
def Bh(s:Spc)(fl:Bool)(p:AB)(ps:List AB)(a:A7)(lk:Nat):Int ⊕ Lk:=
 if AZ s.files a=false then .inl 20
 else if 12<p.size then .inl 36
 else if p=bH then .inr ⟨ps,a,⟨#[]⟩,a,true,lk⟩
 else if p=bJ then .inr ⟨ps,DG s s.mounts.length (Eg s (s.mounts.length+1) a),⟨#[]⟩,DG s s.mounts.length (Eg s (s.mounts.length+1) a),true,lk⟩
 else if(AG s.files a p).2≠0 then(if ps≠[]∨Dl p=false then .inl 2 else .inr ⟨[],a,p,(0,0),false,lk⟩)
 else if(Ai s.files (AG s.files a p).1).kind=3∧(ps≠[]∨fl=true)then
  (if lk=8 then .inl 40 else
    .inr ⟨E1 (Ai s.files (AG s.files a p).1).target++ps,if Eh (Ai s.files (AG s.files a p).1).target=true then EE s else a,⟨#[]⟩,if Eh (Ai s.files (AG s.files a p).1).target=true then EE s else a,true,lk+1⟩)
 else .inr ⟨ps,a,p,DG s s.mounts.length (AG s.files a p).1,true,lk⟩
def Om:Lk:=⟨[],(0,0),⟨#[]⟩,(0,0),false,0⟩
def E2(s:Spc)(fl:Bool):Nat→Lk→Int×Lk
 |0,σ=>(0,σ)
 |k+1,σ=>match σ.ps with
   |[]=>(0,σ)
   |p::ps=>match Bh s fl p ps σ.file σ.links with
     | .inl e=>(e,Om)
     | .inr τ=>E2 s fl k τ
def EP(σ:Lk):Nat:=(8 - σ.links) * 200+σ.ps.length
section
variable {s:Spc}(hv:FlsV s.files)
include hv
theorem RE{fl:Bool}{p:AB}{ps:List AB}{a:A7}{lk:Nat}{τ:Lk}(h8:lk≤8)(h:Bh s fl p ps a lk= .inr τ):τ.links≤8∧EP τ<(8 - lk) * 200+(ps.length+1):=by
 unfold Bh at h;split at h
 ·cases h
 split at h
 ·cases h
 split at h
 ·injection h with h;subst h;exact⟨h8,by unfold EP;simp only;omega⟩
 split at h
 ·injection h with h;subst h;exact⟨h8,by unfold EP;simp only;omega⟩
 split at h
 ·split at h
  ·cases h
  injection h with h;subst h;exact⟨h8,by unfold EP;simp only[List.length_nil];omega⟩
 split at h
 ·split at h
  ·cases h
  rename_i h9;injection h with h;subst h;have ht:=Qu hv (AG s.files a p).1;have hl:=RD (Ai s.files (AG s.files a p).1).target;refine⟨by simp only;omega,?_⟩;unfold EP;simp only[List.length_append]
  have:(8 - lk) * 200=(8 - (lk+1)) * 200+200:=by
   rw[show 8 - lk=(8 - (lk+1))+1 by omega,Nat.add_mul]
  omega
 injection h with h;subst h;exact⟨h8,by unfold EP;simp only;omega⟩
theorem bK(fl:Bool):∀(k k':Nat) (σ:Lk),σ.links≤8→EP σ≤k→EP σ≤k'→E2 s fl k σ=E2 s fl k' σ:=by
 intro k
 induction k with
 |zero=>
   intro k' σ h8 h h'
   have he:σ.ps=[]:=by
    unfold EP at h;exact Dr (by omega)
   cases k' with
   |zero=>rfl
   |succ k'=>unfold E2;rw[he]
 |succ k ih=>
   intro k' σ h8 h h'
   cases hps:σ.ps with
   |nil=>cases k'<;>(unfold E2;rw[hps])
   |cons p ps=>
     have hm:EP σ=(8 - σ.links) * 200+(ps.length+1):=by unfold EP;rw[hps];rfl
     cases k' with
     |zero=>rw[hm]at h';omega
     |succ k'=>
       unfold E2;rw[hps];simp only
       cases hs:Bh s fl p ps σ.file σ.links with
       |inl e=>rfl
       |inr τ=>
         simp only;obtain⟨h1,h2⟩:=RE hv h8 hs;exact ih k' τ h1 (by omega) (by omega)
end
def EQ(s:Spc)(fl:Bool)(σ:Lk):Int×Lk:=E2 s fl (EP σ) σ
theorem V4{s:Spc}{fl:Bool}{σ:Lk}(h:σ.ps=[]):EQ s fl σ=(0,σ):=by
 unfold EQ
 cases EP σ with
 |zero=>rfl
 |succ k=>unfold E2;rw[h]
theorem bL{s:Spc}(hv:FlsV s.files){fl:Bool}{σ:Lk}{p:AB}{ps:List AB}(h8:σ.links≤8)(h:σ.ps=p::ps):EQ s fl σ=match Bh s fl p ps σ.file σ.links with
    | .inl e=>(e,Om)
    | .inr τ=>EQ s fl τ:=by
 have hm:EP σ=((8 - σ.links) * 200+ps.length)+1:=by unfold EP;rw[h];rfl
 unfold EQ;rw[hm]
 conv=>lhs;unfold E2
 rw[h];simp only
 cases hs:Bh s fl p ps σ.file σ.links with
 |inl e=>rfl
 |inr τ=>
   simp only;obtain⟨h1,h2⟩:=RE hv h8 hs;exact bK hv fl _ _ τ h1 (by omega) (Al _)
def J8(s:Spc)(sl:Bool)(τ:Lk):Fnd:=⟨τ.dir,τ.name,τ.file,τ.ex,sl,if(Cj s τ.dir).2=true then(if τ.name=⟨#[]⟩then(Cj s τ.dir).1 else H0 (Cj s τ.dir).1 τ.name)else⟨#[]⟩⟩
def H3(ps:List AB)(a:A7):Lk:=⟨ps,a,⟨#[]⟩,a,true,0⟩
def Bt(s:Spc)(start:A7)(p:AB)(fl:Bool):Fnd×Int:=
 if p=⟨#[]⟩then(Fa,2)else if 128<p.size then(Fa,36)
 else if AZ s.files (if Eh p=true then EE s else start)=false then(Fa,2)
 else if(EQ s (fl||BB p) (H3 (E1 p) (if Eh p=true then EE s else start))).1≠0 then(Fa,(EQ s (fl||BB p) (H3 (E1 p) (if Eh p=true then EE s else start))).1)
 else if BB p=true∧(EQ s (fl||BB p) (H3 (E1 p) (if Eh p=true then EE s else start))).2.ex=true∧AZ s.files (EQ s (fl||BB p) (H3 (E1 p) (if Eh p=true then EE s else start))).2.file=false then(Fa,20)
 else(J8 s (BB p) (EQ s (fl||BB p) (H3 (E1 p) (if Eh p=true then EE s else start))).2,0)
end Go.Proofs.YtbgnigjfkbmceaaGreatDoor
namespace Go.Proofs.YtbgnigjfkbmceaaGreatDoor
open Go.RowKit
structure Dsc where
 fd:Int
 file:A7
 flags:Int
structure Prc where
 pid:Int
 ppid:Int
 uid:Int
 euid:Int
 gid:Int
 egid:Int
 auid:Int
 ses:Int
 cwd:A7
 comm:AB
 exe:AB
 opens:List Dsc
 audited:Bool
structure Tab where
 next:Int
 nextS:Int
 ps:List Prc
structure Syst where
 spc:Spc
 tab:Tab
def bM:Tab:=⟨0,0,[]⟩
def RF(cwd:A7):Tab:=⟨2,1,[⟨1,0,0,0,0,0,4294967295,4294967295,cwd,⟨#[105,110,105,116]⟩,⟨#[47,105,110,105,116]⟩,[],true⟩]⟩
def Hg(n:Int):Syst×Int:=if(Et n).2≠0 then(⟨⟨[],[]⟩,bM⟩,(Et n).2)else(⟨⟨(Et n).1,[]⟩,RF (0,1)⟩,0)
def bN(d:Dsc):List AV:=[.v (.int .i64 d.fd), .v (.int .i64 d.file.1), .v (.int .i64 d.file.2), .v (.int .i64 d.flags)]
def RG(p:Prc):List AV:=[.v (.int .i64 p.pid), .v (.int .i64 p.ppid), .v (.int .i64 p.uid), .v (.int .i64 p.euid), .v (.int .i64 p.gid), .v (.int .i64 p.egid), .v (.int .i64 p.auid), .v (.int .i64 p.ses), .v (.int .i64 p.cwd.1), .v (.int .i64 p.cwd.2), .v (.string p.comm), .v (.string p.exe), .sl 4 (p.opens.map bN) none, .v (.bool p.audited)]
def RH(t:Tab):List AV:=[.v (.int .i64 t.next), .v (.int .i64 t.nextS), .sl 14 (t.ps.map RG) none]
def V5(s:Syst):List AV:=[.sl 2 (s.spc.files.map Bn) none, .sl 3 (s.spc.mounts.map GR) none, .v (.int .i64 s.tab.next), .v (.int .i64 s.tab.nextS), .sl 14 (s.tab.ps.map RG) none]
def Mp(y:Itm):List AV:=[.v (.string y.given), .v (.string y.path), .v (.int .i64 y.dir.1), .v (.int .i64 y.dir.2), .v (.string y.name), .v (.int .i64 y.file.1), .v (.int .i64 y.file.2), .v (.int .i64 y.role), .v (.int .i64 y.kind), .v (.int .i64 y.mode), .v (.int .i64 y.uid), .v (.int .i64 y.gid), .v (.int .i64 y.perm)]
structure TabB(t:Tab):Prop where
 few:t.ps.length≤16
 opens:∀p∈t.ps,p.opens.length≤8
 next:t.next≤1073741824
 nextS:t.nextS≤1073741824
structure RowF(sz:Nat){α:Type}(F:α→List AV):Prop where
 len:∀x,(F x).length=sz
 flat:∀x,∀y∈F x,(∃v,y= .v v)∨∃s r,y= .sl s r none
 pos:0<sz
def LB(sz:Nat){α:Type}(F:α→List AV)(l:List α)(cap:Nat):List AV:=Br sz cap (l.map F)
section
variable {α:Type}{sz:Nat}{F:α→List AV}(hF:RowF sz F)
include hF
theorem Ln(l:List α):∀r∈l.map F,r.length=sz:=by
 intro r hr;obtain⟨x,_,rfl⟩:=List.mem_map.1 hr;exact hF.len x
theorem Mq{l:List α}{cap:Nat}(h:l.length≤cap):(LB sz F l cap).length=cap * sz:=Q8 (Ln hF l) (by simpa using h)
theorem bO{g:AV→AV}(hv:∀x,g (.v x)= .v x)(hs:∀sz rows,g (.sl sz rows none)= .sl sz rows none)(x:α):(F x).map g=F x:=by
 conv=>rhs;rw[←List.map_id (F x)]
 apply List.map_congr_left;intro y hy;rcases hF.flat x y hy with⟨v,rfl⟩|⟨s,r,rfl⟩
 ·exact hv v
 exact hs s r
theorem RJ{g:AV→AV}(hany:g .any= .any)(hv:∀x,g (.v x)= .v x)(hs:∀sz rows,g (.sl sz rows none)= .sl sz rows none)(l:List α)(cap:Nat):(LB sz F l cap).map g=LB sz F l cap:=by
 unfold LB;rw[MR g hany,List.map_map]
 congr 1
 apply List.map_congr_left;intro x _;exact bO hF hv hs x
theorem RK(g:Nat→Option Nat)(l:List α)(cap:Nat):DR g (LB sz F l cap)=LB sz F l cap:=by
 rw[MP];exact RJ hF rfl (fun _=>rfl) (fun _ _=>rfl) l cap
theorem DH(g:Nat→Option Nat)(l:List α)(cap:Nat):Fv g (LB sz F l cap)=LB sz F l cap:=by
 rw[OG];exact RJ hF rfl (fun _=>rfl) (fun _ _=>rfl) l cap
theorem bP(g:Nat→Option (List AV))(l:List α)(cap:Nat):Gr g (LB sz F l cap)=LB sz F l cap:=by
 rw[MQ];exact RJ hF rfl (fun _=>rfl) (fun _ _=>rfl) l cap
theorem bQ{n m:Nat}(x:α):Az n m (F x)=true:=by
 refine QM.2 fun y hy=>?_;rcases hF.flat x y hy with⟨v,rfl⟩|⟨s,r,rfl⟩<;>rfl
theorem GZ{n m:Nat}{l:List α}{cap:Nat}:Az n m (LB sz F l cap)=true:=by
 refine QN fun r hr=>?_;obtain⟨x,_,rfl⟩:=List.mem_map.1 hr;exact bQ hF x
theorem bR{n:Nat}{bx:List (List AV)}{k j:Nat}{l:List α}{cap:Nat}(hn:n≤j)(hj:bx[j]?=some (LB sz F l cap)):Cs n bx (k+1) j=some (LB sz F l cap):=by
 have:Nat.blt j n=false:=by rw[←Bool.not_eq_true,Nat.blt_eq];omega
 simp only[Cs,this,hj,Option.map_some,bP hF]
theorem RL{n:Nat}{bx:List (List AV)}{k j:Nat}{l:List α}{cap cap0:Nat}(hn:Nat.ble n j=true)(hj:bx[j]?=some (LB sz F l cap))(hc:l.length≤cap):F3 n (Cs n bx (k+1)) (.bs j 0 sz l.length cap0)= .sl sz (l.map F) none:=
 UO (B7 hn) (bR hF (B7 hn) hj) (Ln hF l) (by simp) (by simpa using hc)
theorem V6{l:List α}{cap i:Nat}{x:α}(h:l[i]?=some x):((LB sz F l cap).drop (0+i * sz)).take sz=F x:=Tf (Ln hF l) (by rw[List.getElem?_map,h];rfl)
theorem On{l:List α}{cap i k:Nat}{x x':α}{cs:List AV}(h:l[i]?=some x)(hs:SetAt (F x) k cs (F x'))(hne:cs≠[]):SetAt (LB sz F l cap) (0+i * sz+k) cs (LB sz F (l.set i x') cap):=by
 have key:=QQ (cap:=cap) (Ln hF l) (by rw[List.getElem?_map,h];rfl) hs hne;rw[←List.map_set]at key;exact key
theorem bS{l:List α}{cap i:Nat}{x x':α}(h:l[i]?=some x):SetAt (LB sz F l cap) (0+i * sz) (F x') (LB sz F (l.set i x') cap):=by
 have hne:F x'≠[]:=fun e=>by have h1:=hF.len x';have h2:=hF.pos;rw[e]at h1;simp at h1;omega
 have hs:SetAt (F x) 0 (F x') (F x'):=by
  have:=SetAt.whole (xs:=F x') (l:=F x) (b:=[]) (by rw[hF.len,hF.len])
  simpa using this
 have key:=On hF (cap:=cap) h hs hne
 simpa using key
theorem bT(x:α)(cap:Nat):F x++List.replicate ((cap - 1) * sz) .any=LB sz F [x] cap:=by
 have _:=hF;unfold LB Br;simp
theorem RM(acc:List α)(x:α)(cap0 cap:Nat):((LB sz F acc cap0).drop 0).take (acc.length * sz)++F x++List.replicate ((cap - (acc.length+1)) * sz) .any=LB sz F (acc++[x]) cap:=by
 unfold LB;rw[TO (Ln hF acc) (by simp),List.map_append];rfl
theorem RN{acc:List α}{x:α}{cap:Nat}{row:List AV}(hs:SetAt (LB sz F acc cap) (0+acc.length * sz) (F x) row)(hc:acc.length+1≤cap):row=LB sz F (acc++[x]) cap:=by
 have key:=TN (rows:=acc.map F) (sz:=sz) (cap:=cap) (r:=F x) (row':=row) (Ln hF acc) (hF.len x) hF.pos (by simpa using hc) (by rw[List.length_map];exact hs);rw[key];unfold LB;rw[List.map_append];rfl
end
theorem DY{f:Nat→Option AV}{bx:List (List AV)}{tk:List (Nat×Nat×List (List AV))}{l:List (Nat×AV)}{N:Dim}(n m:Nat){bx':List (List AV)}{tk':List (Nat×Nat×List (List AV))}(hbp:B4 n m bx'=true)(hn:Nat.ble N.ni n=true:=by rfl)(hb:bx.take n=bx':=by rfl)(ht:tk.take m=tk':=by rfl)(hl:Sub n m f l:=by repeat (first|exact Sub.nil|refine Sub.cons _ _ _ rfl rfl ?_|refine Sub.any _ _ ?_|refine Sub.sl _ _ _ _ _ rfl ?_|refine Sub.slnil _ _ _ rfl ?_|(apply Sub.of;(focus exact rfl);(focus exact LeA.of_eq (vb (by simp[*])));(focus exact rfl)))):Weak N ⟨f,⟨bx,tk⟩⟩ ⟨look l,⟨bx',tk'⟩⟩:=Aj n m hn hb ht hbp hl
def Ex(bx:List (List AV))(g:Nat→Option Nat):List Nat→List (List AV)→List (List AV)
 |[],bc=>bx++bc.map (DR g)
 |i::is,[]=>Ex bx g is []
 |i::is,r::bc=>Ex (bx.set i (DR g r)) g is bc
theorem V7{g:Nat→Option Nat}:∀(is:List Nat) (bx bc:List (List AV)),is.length≤bc.length→(Ex bx g is bc).length=bx.length+(bc.length - is.length)
 |[],bx,bc,_=>by simp[Ex]
 |i::is,bx,[],h=>by simp at h
 |i::is,bx,r::bc,h=>by
   unfold Ex;rw[V7 is _ bc (by simpa using h)];simp
theorem Oo{g:Nat→Option Nat}:∀(is:List Nat) (bx bc:List (List AV)) (i:Nat),i∉is→i<bx.length→(Ex bx g is bc)[i]?=bx[i]?
 |[],bx,bc,i,_,hi=>by unfold Ex;rw[CO hi]
 |j::is,bx,[],i,h,hi=>by
   unfold Ex;exact Oo is bx [] i (fun hm=>h (List.mem_cons_of_mem _ hm)) hi
 |j::is,bx,r::bc,i,h,hi=>by
   unfold Ex;rw[Oo is _ bc i (fun hm=>h (List.mem_cons_of_mem _ hm)) (by simpa using hi),List.getElem?_set_ne (fun e=>h (by rw[e];exact List.mem_cons_self ..))]
theorem V8{g:Nat→Option Nat}:∀(is:List Nat) (bx bc:List (List AV)) (k i:Nat) (row:List AV),is.Nodup→i<bx.length→is[k]?=some i→bc[k]?=some row→(Ex bx g is bc)[i]?=some (DR g row)
 |[],_,_,_,_,_,_,_,h,_=>by simp at h
 |j::is,bx,[],k,i,row,_,_,_,h=>by simp at h
 |j::is,bx,r::bc,0,i,row,hn,hi,h1,h2=>by
   simp at h1 h2;subst h1 h2;unfold Ex;rw[Oo is _ bc j (List.nodup_cons.1 hn).1 (by simpa using hi),List.getElem?_set_self hi]
 |j::is,bx,r::bc,k+1,i,row,hn,hi,h1,h2=>by
   unfold Ex;exact V8 is _ bc k i row (List.nodup_cons.1 hn).2 (by simpa using hi) (by simpa using h1) (by simpa using h2)
theorem V9{g:Nat→Option Nat}:∀(is:List Nat) (bx bc:List (List AV)) (k:Nat) (row:List AV),bc[is.length+k]?=some row→(Ex bx g is bc)[bx.length+k]?=some (DR g row)
 |[],bx,bc,k,row,h=>by
   unfold Ex;rw[DQ (by omega),show bx.length+k - bx.length=k by omega,List.getElem?_map];simp at h;rw[h];rfl
 |j::is,bx,[],k,row,h=>by simp at h
 |j::is,bx,r::bc,k,row,h=>by
   unfold Ex;have:=V9 (g:=g) is (bx.set j (DR g r)) bc k row (by simpa[Nat.add_right_comm]using h)
   simpa using this
theorem VA{bx:List (List AV)}{is:List Nat}{bc:List (List AV)}(hn:is.Nodup)(hi:∀i∈is,i<bx.length)(hl:is.length≤bc.length):Back bx is bc (Ex bx (F2 is bx.length) is bc):=by
 refine⟨V7 is bx bc hl,fun i row h1 h2=>?_,fun k i row h1 h2=>?_,fun k row h=>V9 is bx bc k row h⟩
 ·rw[Oo is bx bc i h1 (AP.1 h2).1];exact h2
 exact V8 is bx bc k i row hn (hi i (AT h1)) h1 h2
theorem JU(s:ByteArray):s.toList=s.data.toList:=Lib.toList_data s
theorem VB{a b:ByteArray}(h:a.data.toList=b.data.toList):a=b:=by
 cases a;cases b;simp at h;simp[h]
theorem bU{a b:ByteArray}:a.data.toList=b.data.toList↔a=b:=⟨VB,fun h=>by rw[h]⟩
theorem bV(a b:ByteArray):(a.toList==b.toList)=decide (a=b):=by
 rw[JU,JU,Bool.eq_iff_iff,beq_iff_eq,decide_eq_true_iff];exact bU
theorem VC(s:ByteArray):s.toList.isEmpty=decide (s.size=0):=by
 rw[JU,Lib.size_eq,Bool.eq_iff_iff,List.isEmpty_iff,decide_eq_true_iff,List.length_eq_zero_iff]
set_option maxRecDepth 100000 in
set_option maxHeartbeats 400000 in
theorem bW(s:ByteArray)(w:World):
    Calls prog 289 #[.string s, .string ⟨#[47]⟩] w fun e w'=>e= .returned (.int .i64 (Lib.indexByte s.data.toList 47))∧w=w':=by
 by_cases h:s=⟨#[47]⟩
 ·subst h
  go_enter Tryz.func289,Tryz.ntmps289
  go_wp2
  go_ret
  exact⟨rfl,rfl⟩
 have h1:([47]==s.toList)=false:=by
  have:=bV ⟨#[47]⟩ s;rw[decide_eq_false (fun e=>h e.symm),JU ⟨#[47]⟩]at this;exact this
 go_enter Tryz.func289,Tryz.ntmps289
 go_wp2_with (go_at_call 292;refine(Tryz.stringslite_IndexByte _ _ _).mono ?_;rintro e w' ⟨rfl,rfl⟩)
 go_ret
 exact⟨rfl,rfl⟩
theorem bX(s:ByteArray)(w:World):
    Calls prog 276 #[.string s, .string ⟨#[47]⟩] w fun e w'=>e= .returned (.int .i64 (Lib.indexByte s.data.toList 47))∧w=w':=by
 go_enter Tryz.func276,Tryz.ntmps276
 go_wp2_with (go_at_call 289;refine(bW _ _).mono ?_;rintro e w' ⟨rfl,rfl⟩)
 go_ret
 exact⟨rfl,rfl⟩
theorem VE{l:Bs}(h:(47:UInt8)∈l):∃i:Nat,Lib.indexByte l 47=i∧i<l.length∧l=l.take i++47::l.drop (i+1)∧(47:UInt8)∉l.take i:=by
 have hge:=Lib.indexByte_ge l 47;by_cases hm:Lib.indexByte l 47= -1
 ·have:=Lib.indexByte_none hm;obtain⟨k,hk⟩:=List.mem_iff_getElem?.1 h;exact absurd hk (this k)
 obtain⟨i,hi⟩:=Int.eq_ofNat_of_zero_le (show 0≤Lib.indexByte l 47 by omega);obtain⟨h1,h2⟩:=Lib.indexByte_some hi;have hlt:i<l.length:=(AP.1 h1).1;refine⟨i,hi,hlt,?_,?_⟩
 ·have h3:l[i]=47:=(AP.1 h1).2;rw[←h3,List.getElem_cons_drop,List.take_append_drop]
 intro hmem;obtain⟨k,hk⟩:=List.mem_iff_getElem?.1 hmem;rw[List.getElem?_take]at hk;split at hk
 ·exact h2 k (by assumption) hk
 cases hk
theorem bY{l:Bs}(h:(47:UInt8)∉l):Lib.indexByte l 47= -1:=by
 have hge:=Lib.indexByte_ge l 47;by_cases hm:Lib.indexByte l 47= -1
 ·exact hm
 obtain⟨i,hi⟩:=Int.eq_ofNat_of_zero_le (show 0≤Lib.indexByte l 47 by omega);obtain⟨h1,_⟩:=Lib.indexByte_some hi;exact absurd (AT h1) h
theorem bZ(r:Int)(h0:128≤r)(h1:Lib.validRune r=true):
    (∃a b:UInt8,Utf8.encode r=⟨#[a,b]⟩∧128≤b.toNat)∨(∃a b c:UInt8,Utf8.encode r=⟨#[a,b,c]⟩)∨(∃a b c d:UInt8,Utf8.encode r=⟨#[a,b,c,d]⟩):=by
 have hv:Utf8.valid r=true:=by
  have:=of_decide_eq_true h1;unfold Utf8.valid;simp only[Bool.or_eq_true,Bool.and_eq_true,decide_eq_true_iff];omega
 unfold Utf8.encode;simp only[hv,if_true];have hn:¬r.toNat<128:=by omega
 rw[if_neg hn];by_cases h2:r.toNat<2048
 ·rw[if_pos h2];refine .inl ⟨_,_,rfl,?_⟩;simp only[UInt8.toNat_ofNat'];omega
 rw[if_neg h2];by_cases h3:r.toNat<65536
 ·rw[if_pos h3];exact .inr (.inl ⟨_,_,_,rfl⟩)
 rw[if_neg h3];exact .inr (.inr ⟨_,_,_,_,rfl⟩)
set_option maxRecDepth 1000000 in
set_option maxHeartbeats 2000000 in
theorem c8(r:Int)(w:World)(h0:128≤r)(h1:r≤2147483647)(h2:r≠65533)(hv:Lib.validRune r=false):
    Calls prog 269 #[.string ⟨#[0,47]⟩, .int .i32 r] w fun e w'=>e= .returned (.int .i64 (-1))∧w=w':=by
 have h2':(r==65533)=false:=by simpa using h2
 go_enter Tryz.func269,Tryz.ntmps269
 go_wp2_with (go_at_call 285;refine(Tryz.utf8_ValidRune _ _).mono ?_;rintro e w' ⟨rfl,rfl⟩;rw[hv])
 go_ret
 exact⟨rfl,rfl⟩
set_option maxRecDepth 1000000 in
set_option maxHeartbeats 2000000 in
theorem c9(r:Int)(w:World)(h0:128≤r)(h1:r≤2147483647)(h2:r≠65533)(hv:Lib.validRune r=true):
    Calls prog 269 #[.string ⟨#[0,47]⟩, .int .i32 r] w fun e w'=>e= .returned (.int .i64 (-1))∧Below w.heap.size w w':=by
 have h2':(r==65533)=false:=by simpa using h2
 have hlt:decide (r<128)=false:=by simpa using h0
 rcases bZ r h0 hv with⟨a,b,he,hb⟩|⟨a,b,c,he⟩|⟨a,b,c,d,he⟩
 ·have hne:((((⟨#[0,47]⟩:ByteArray)[1]'(by decide)).toNat:Int) != (((⟨#[a,b]⟩:ByteArray)[1]'(by show 1<2;decide)).toNat:Int))=true:=by
     show((47:Int) != (b.toNat:Int))=true;rw[bne_iff_ne];omega
  go_enter Tryz.func269,Tryz.ntmps269
  go_wp2_with (go_at_call 285;refine(Tryz.utf8_ValidRune _ _).mono ?_;rintro e w' ⟨rfl,rfl⟩;rw[hv])
  go_step3
  go_wp2
  refine wp_loop_rounds 1 ?_;rw[rounds_succ]
  go_wp2
  go_step3
  go_wp2
  go_quiet (fail)
  have hb:=QA (Below.refl w'.heap.size w') nq;generalize w'.drewN nq=wq at *
  go_wp2
  go_quiet ((go_at_call 284;exact Calls.quiet_of_same (Tryz.strings_IndexByte _ _ _)))
  go_wp2
  rw[Exit.noGoto_ret]
  go_wp2
  rw[Exit.noGoto_ret]
  go_wp2
  go_ret
  exact⟨rfl,QA hb _⟩
 ·go_enter Tryz.func269,Tryz.ntmps269
  go_wp2_with (go_at_call 285;refine(Tryz.utf8_ValidRune _ _).mono ?_;rintro e w' ⟨rfl,rfl⟩;rw[hv])
  go_step3
  go_wp2
  refine wp_loop_rounds 1 ?_;rw[rounds_succ]
  go_wp2
  rw[Exit.noGoto_ret]
  go_wp2
  go_ret
  exact⟨rfl,Below.refl _ _⟩
 go_enter Tryz.func269,Tryz.ntmps269
 go_wp2_with (go_at_call 285;refine(Tryz.utf8_ValidRune _ _).mono ?_;rintro e w' ⟨rfl,rfl⟩;rw[hv])
 go_step3
 go_wp2
 refine wp_loop_rounds 1 ?_;rw[rounds_succ]
 go_wp2
 rw[Exit.noGoto_ret]
 go_wp2
 go_ret
 exact⟨rfl,Below.refl _ _⟩
theorem cA(i:Nat)(hi:i<2):((⟨#[0,47]⟩:ByteArray)[i]'hi).toNat<128:=by
 match i,hi with
 |0,_=>show(0:UInt8).toNat<128;decide
 |1,_=>show(47:UInt8).toNat<128;decide
set_option maxRecDepth 1000000 in
set_option maxHeartbeats 2000000 in
theorem cB(w:World):
    Calls prog 269 #[.string ⟨#[0,47]⟩, .int .i32 65533] w fun e w'=>e= .returned (.int .i64 (-1))∧Below w.heap.size w w':=by
 go_enter Tryz.func269,Tryz.ntmps269
 go_wp2
 go_loopg [5,6] 2 (fun g _ _ wx=>∃i:Nat,i+g=2∧wx=w.iter ⟨#[0,47]⟩ i)
 case atStart=>exact⟨0,by omega,rfl⟩
 case round=>
  obtain⟨i,hig,rfl⟩:=hrel
  cases gk with
  |zero=>
    obtain rfl:i=2:=by omega
    have hnx:=run_next_end (P:=prog) w ⟨#[0,47]⟩ 2
    go_wp2
    go_ret
    exact⟨rfl,(Below.refl _ _).alloc (Al _) _⟩
  |succ g=>
    have hi:i<2:=by omega
    have hx:=cA i hi;have hnx:=fun ty=>run_next_ascii (P:=prog) w ⟨#[0,47]⟩ i ty hi hx;generalize ((⟨#[0,47]⟩:ByteArray)[i]'hi)=x at *;have hne:((x.toNat:Int)==65533)=false:=beq_eq_false_iff_ne.2 (by omega)
    go_wp2
    go_roundg g
    case measure=>omega
    case rel=>exact⟨i+1,by omega,rfl⟩
theorem VF(s:ByteArray)(i:Nat)(h:i<s.size)(ha:128≤(s[i]'h).toNat):
    1≤(Utf8.decode s i).2∧i+(Utf8.decode s i).2≤s.size∧∀k,k<(Utf8.decode s i).2→128≤(s.get! (i+k)).toNat:=by
 have hn:¬(s[i]'h).toNat<128:=by omega
 have h0:s.get! (i+0)=s[i]'h:=get_at s i h;have g0:128≤(s.get! (i+0)).toNat:=by rw[h0];exact ha
 have c1:∀k,(decide (i+k<s.size)&&(s.get! (i+k)).toNat / 64==2)=true→i+k<s.size∧128≤(s.get! (i+k)).toNat:=by
  intro k hk;simp only[Bool.and_eq_true,decide_eq_true_iff,beq_iff_eq]at hk;exact⟨hk.1,by omega⟩
 have one:1≤1∧i+1≤s.size∧∀k,k<1→128≤(s.get! (i+k)).toNat:=by
  refine⟨Al _,h,fun k hk=>?_⟩;obtain rfl:k=0:=by omega
  exact g0
 unfold Utf8.decode;simp only[h0,hn,if_false];split
 ·rename_i hc;rw[Bool.and_eq_true]at hc;obtain⟨a1,b1⟩:=c1 1 hc.2;split
  ·refine⟨by simp,a1,fun k hk=>?_⟩;have:k=0∨k=1:=by simp at hk;omega
   rcases this with rfl|rfl
   ·exact g0
   exact b1
  exact one
 split
 ·rename_i hc;rw[Bool.and_eq_true,Bool.and_eq_true]at hc;obtain⟨a1,b1⟩:=c1 1 hc.1.2;obtain⟨a2,b2⟩:=c1 2 hc.2;split
  ·refine⟨by simp,a2,fun k hk=>?_⟩;have:k=0∨k=1∨k=2:=by simp at hk;omega
   rcases this with rfl|rfl|rfl
   ·exact g0
   ·exact b1
   exact b2
  exact one
 split
 ·rename_i hc;rw[Bool.and_eq_true,Bool.and_eq_true,Bool.and_eq_true]at hc;obtain⟨a1,b1⟩:=c1 1 hc.1.1.2;obtain⟨a2,b2⟩:=c1 2 hc.1.2;obtain⟨a3,b3⟩:=c1 3 hc.2;split
  ·refine⟨by simp,a3,fun k hk=>?_⟩;have:k=0∨k=1∨k=2∨k=3:=by simp at hk;omega
   rcases this with rfl|rfl|rfl|rfl
   ·exact g0
   ·exact b1
   ·exact b2
   exact b3
  exact one
 exact one
theorem cC(s:ByteArray)(j:Nat)(hj:j<s.size):s.data.toList[j]?=some (s.get! j):=by
 have:=get_at s j hj;rw[Nat.add_zero]at this;rw[this];exact Lib.data_getElem? s j hj
theorem cD{s:ByteArray}{i:Nat}(h:i<s.size)(ha:128≤(s[i]'h).toNat)(hno:Lib.NoAny s.data.toList [0,47] i):Lib.NoAny s.data.toList [0,47] (i+(Utf8.decode s i).2):=by
 obtain⟨_,h2,h3⟩:=VF s i h ha;intro j b hj hb;by_cases hlt:j<i
 ·exact hno j b hlt hb
 have:=h3 (j - i) (by omega);rw[show i+(j - i)=j by omega]at this;rw[cC s j (by omega)]at hb;injection hb with hb;rw[hb]at this;have h0:b≠0:=by rintro rfl;simp at this
 have h47:b≠47:=by
  rintro rfl;have:(47:UInt8).toNat=47:=rfl;omega
 simp[h0,h47]
theorem cF(r:Int)(w:World)(h0:128≤r)(h1:r≤2147483647):
    Calls prog 269 #[.string ⟨#[0,47]⟩, .int .i32 r] w fun e w'=>e= .returned (.int .i64 (-1))∧Below w.heap.size w w':=by
 by_cases h2:r=65533
 ·subst h2;exact cB w
 cases hv:Lib.validRune r with
 |true=>exact c9 r w h0 h1 h2 hv
 |false=>exact(c8 r w h0 h1 h2 hv).mono fun e w' h=>⟨h.1,by rw[←h.2];exact Below.refl _ _⟩
def VG(s:ByteArray)(w:World)(e:Ending)(w':World):Prop:=∃v:Int,e= .returned (.int .i64 v)∧Below w.heap.size w w'∧((0≤v)↔((0:UInt8)∈s.data.toList∨(47:UInt8)∈s.data.toList))
theorem cG{s:ByteArray}(h:Lib.NoAny s.data.toList [0,47] s.size):¬((0:UInt8)∈s.data.toList∨(47:UInt8)∈s.data.toList):=by
 rintro(h'|h')
 ·obtain⟨j,hj⟩:=List.mem_iff_getElem?.1 h';have:=h j 0 (by rw[Lib.size_eq];exact(AP.1 hj).1) hj;simp at this
 obtain⟨j,hj⟩:=List.mem_iff_getElem?.1 h';have:=h j 47 (by rw[Lib.size_eq];exact(AP.1 hj).1) hj;simp at this
theorem cH{s:ByteArray}{i:Nat}{x:UInt8}(hx:s.data.toList[i]?=some x)(h:[0,47].contains x=true):((0:UInt8)∈s.data.toList∨(47:UInt8)∈s.data.toList):=by
 have hm:=AT hx;simp at h;rcases h with rfl|rfl
 ·exact .inl hm
 exact .inr hm
set_option maxRecDepth 1000000 in
set_option maxHeartbeats 4000000 in
theorem cJ(s:ByteArray)(w:World)(h8:s.size≤8):Calls prog 245 #[.string s, .string ⟨#[0,47]⟩] w (VG s w):=by
 have h8z:decide ((8:Int)<(s.size:Int))=false:=decide_eq_false (by omega)
 go_enter Tryz.func245,Tryz.ntmps245
 go_wp2_with (go_at_call 270;refine(Tryz.strings_shouldUseASCIISet _ _).mono ?_;rintro e w' ⟨rfl,hw⟩;rw[hw,h8z])
 clear hw
 go_loopg [9,10] s.size (fun g _ _ wx=>∃i:Nat,s.size≤i+g∧i≤s.size∧wx.heap[w.heap.size]?=some (.stringIter s i)∧Below w.heap.size w wx∧Hid (Lib.NoAny s.data.toList [0,47] i))
 case atStart=>exact⟨0,by omega,by omega,World.iter_heap w s 0,(Below.refl _ _).alloc (Al _) _,Lib.hid (Lib.NoAny.zero _ _)⟩
 case round=>
  obtain⟨i,hg,hi,hit,hbel,hno⟩:=hrel;have hks:=hbel.size;by_cases hlt:i<s.size
  ·obtain⟨g,rfl⟩:∃g,gk=g+1:=⟨gk - 1,by omega⟩;by_cases hx:(s[i]'hlt).toNat<128
   ·have hnx:=fun ty=>Lib.run_next_ascii_at (P:=prog) wr w.heap.size s i ty hit hlt hx;have hxl:s.data.toList[i]?=some (s[i]'hlt):=Lib.data_getElem? s i hlt;generalize (s[i]'hlt)=x at *;have Hx:=Lib.hid hxl;have hit':=Lib.iterAt_heap wr w.heap.size s i (i+1) hit;have hbel':=Lib.below_iterAt hbel (Al _) s (i+1);generalize wr.iterAt w.heap.size s (i+1)=w1 at *;have hcon:=Lib.contains_iff_indexByte [0,47] x;have hback:((x.toNat:Int)).toNat.toUInt8=x:=by simp
    have HI:=Lib.hid hit';clear hxl hit hit';cases hin:[0,47].contains x
    ·rw[hin]at hcon;have hneg:¬((0:Int)≤Lib.indexByte [0,47] x):=of_decide_eq_false hcon.symm;clear hcon
     go_wp2_with (go_at_call 269;refine(Tryz.strings_IndexRune_ascii _ _ _ (by omega) (by omega)).mono ?_;rintro e w' ⟨rfl,hw⟩;rw[hw,hback])
     go_roundg g
     case measure=>omega
     case rel=>exact⟨i+1,by omega,by omega,HI.out,hbel',Lib.hid (hno.out.succ Hx.out hin)⟩
    rw[hin]at hcon;have hpos:(0:Int)≤Lib.indexByte [0,47] x:=of_decide_eq_true hcon.symm;clear hcon
    go_wp2_with (go_at_call 269;refine(Tryz.strings_IndexRune_ascii _ _ _ (by omega) (by omega)).mono ?_;rintro e w' ⟨rfl,hw⟩;rw[hw,hback])
    go_ret
    exact⟨_,rfl,hbel',⟨fun _=>cH Hx.out hin,fun _=>by omega⟩⟩
   have hx':128≤(s[i]'hlt).toNat:=by omega
   obtain⟨p1,p2,_⟩:=VF s i hlt hx';have HN:=Lib.hid (cD hlt hx' hno.out);have q1:=(decode_high s i hlt hx').1;have q2:=decode_le s i;have hnx:=fun ty=>Lib.run_next_any_at (P:=prog) wr w.heap.size s i ty hit hlt;generalize Utf8.decode s i=d at *;obtain⟨d1,d2⟩:=d;simp only at *;have hit':=Lib.iterAt_heap wr w.heap.size s i (i+d2) hit;have hbel':=Lib.below_iterAt hbel (Al _) s (i+d2);have hsz:=Lib.iterAt_size wr w.heap.size s (i+d2);generalize wr.iterAt w.heap.size s (i+d2)=w1 at *;have hk1:w.heap.size<w1.heap.size:=(Array.getElem?_eq_some_iff.1 hit').1;have HI:=Lib.hid hit';clear hit hit' hsz
   go_wp2_with fail
   refine(cF _ _ (by omega) (by omega)).mono ?_;rintro e w2 ⟨rfl,hb2⟩
   go_wp2
   go_roundg g
   case measure=>omega
   case rel=>exact⟨i+d2,by omega,by omega,(hb2.block _ hk1).trans HI.out,hbel'.trans (hb2.mono (by omega)),HN⟩
  obtain rfl:i=s.size:=by omega
  have hnx:=fun ty=>Lib.run_next_end_at (P:=prog) wr w.heap.size s s.size ty hit hlt
  go_wp2
  go_ret
  exact⟨_,rfl,hbel,⟨fun h=>absurd h (by decide),fun h=>absurd h (cG hno.out)⟩⟩
theorem cK(s:ByteArray):(0≤Lib.indexAny s.data.toList [0,47])↔((0:UInt8)∈s.data.toList∨(47:UInt8)∈s.data.toList):=by
 generalize s.data.toList=l
 induction l with
 |nil=>simp[Lib.indexAny]
 |cons b l ih=>
   have hge:=Lib.indexAny_ge [0,47] l;unfold Lib.indexAny;by_cases hb:[0,47].contains b=true
   ·rw[if_pos hb];simp only[List.contains_cons,List.contains_nil,Bool.or_false,Bool.or_eq_true,beq_iff_eq]at hb;rcases hb with rfl|rfl<;>simp
   rw[if_neg hb];have h0:(0:UInt8)≠b:=by rintro rfl;simp at hb
   have h47:(47:UInt8)≠b:=by rintro rfl;simp at hb
   simp only[List.mem_cons,h0,h47,false_or];rw[←ih];split
   ·rename_i h;have:Lib.indexAny l [0,47]= -1:=by simpa using h
    rw[this]
   rename_i h;have:Lib.indexAny l [0,47]≠ -1:=by simpa using h
   constructor<;>intro h'<;>omega
theorem cL(s:ByteArray)(w:World)(hs:s.size≤1000000):Calls prog 245 #[.string s, .string ⟨#[0,47]⟩] w (VG s w):=by
 by_cases h8:s.size≤8
 ·exact cJ s w h8
 refine(Tryz.strings_IndexAny_long (fun w=>by kernel_rfl) s ⟨#[0,47]⟩ w (by decide) (by omega) (by omega) (by decide) ?_).mono ?_
 ·intro j b hj;have:b∈[0,47]:=AT hj;simp at this;rcases this with rfl|rfl<;>decide
 rintro e w' ⟨rfl,rfl⟩;exact⟨_,rfl,Ke _ _ _,cK s⟩
def RO(s:ByteArray):Bool:=decide ((0:UInt8)∈s.data.toList∨(47:UInt8)∈s.data.toList)
theorem cM(s:ByteArray)(w:World)(hs:s.size≤1000000):
    Calls prog 186 #[.string s, .string ⟨#[0,47]⟩] w fun e w'=>e= .returned (.bool (RO s))∧Below w.heap.size w w':=by
 go_enter Tryz.func186,Tryz.ntmps186
 go_wp2_with fail
 refine(cL s w hs).mono ?_;rintro e w' ⟨v,rfl,hb,hv⟩;have HV:=Lib.hid hv;clear hv
 go_wp2
 go_ret
 exact⟨Kc (decide_eq_decide.2 HV.out),hb⟩
theorem VH(s:ByteArray):(s.toList==[46])=decide (s.data.toList=[46]):=by rw[JU,Bool.eq_iff_iff];simp
theorem VJ(s:ByteArray):(s.toList==[46,46])=decide (s.data.toList=[46,46]):=by rw[JU,Bool.eq_iff_iff];simp
set_option maxHeartbeats 1000000 in
theorem VK(s:ByteArray)(w:World):
    Calls prog 131 #[.string s] w fun e w'=>e= .returned (.bool (EC s.data.toList))∧Below w.heap.size w w':=by
 have hsz:=Lib.size_eq s;by_cases h0:s.size=0
 ·have he:s.toList.isEmpty=true:=by rw[VC];simp[h0]
  have he':s.toList=[]:=List.isEmpty_iff.1 he
  have HF:Hid (EC s.data.toList=false):=Lib.hid (by
   rw[←JU,he'];rfl)
  clear hsz
  go_enter Tryz.func131,Tryz.ntmps131
  go_wp2
  go_ret
  exact⟨Kc HF.out.symm,Below.refl _ _⟩
 have he:s.toList.isEmpty=false:=by rw[VC];simp[h0]
 have hne:s.data.toList≠[]:=by intro e;rw[e]at hsz;exact h0 hsz
 by_cases h12:s.size≤12
 ·have hle:decide ((s.size:Int)≤12)=true:=decide_eq_true (by omega);by_cases h1:s.data.toList=[46]
  ·have e1:(s.toList==[46])=true:=by rw[VH];simp[h1]
   have e1':(s.toList != [46])=false:=by simp[bne,e1]
   have HF:Hid (EC s.data.toList=false):=Lib.hid (by rw[h1];rfl);clear hsz hne h1
   go_enter Tryz.func131,Tryz.ntmps131
   go_wp2
   go_ret
   exact⟨Kc HF.out.symm,Below.refl _ _⟩
  have e1:(s.toList==[46])=false:=by rw[VH];simp[h1]
  have e1':(s.toList != [46])=true:=by simp[bne,e1]
  by_cases h2:s.data.toList=[46,46]
  ·have e2:(s.toList==[46,46])=true:=by rw[VJ];simp[h2]
   have e2':(s.toList != [46,46])=false:=by simp[bne,e2]
   have HF:Hid (EC s.data.toList=false):=Lib.hid (by rw[h2];rfl);clear hsz hne h1 h2
   go_enter Tryz.func131,Tryz.ntmps131
   go_wp2
   go_ret
   exact⟨Kc HF.out.symm,Below.refl _ _⟩
  have e2:(s.toList==[46,46])=false:=by rw[VJ];simp[h2]
  have e2':(s.toList != [46,46])=true:=by simp[bne,e2]
  have HF:Hid (EC s.data.toList= !RO s):=Lib.hid (by
   unfold RO;rw[Bool.eq_iff_iff,OK];simp only[Bool.not_eq_true',decide_eq_false_iff_not,not_or]
   exact⟨fun h=>h.2.2.2.2,fun h=>⟨hne,by omega,h1,h2,h⟩⟩)
  clear hsz hne h1 h2
  go_enter Tryz.func131,Tryz.ntmps131
  go_wp2_with fail
  refine(cM s _ (by omega)).mono ?_;rintro e w' ⟨rfl,hb⟩
  go_wp2
  go_ret
  exact⟨Kc HF.out.symm,hb⟩
 have hle:decide ((s.size:Int)≤12)=false:=decide_eq_false (by omega);have HF:Hid (EC s.data.toList=false):=Lib.hid (decide_eq_false (fun h=>by have:=h.2.1;omega));clear hsz hne
 go_enter Tryz.func131,Tryz.ntmps131
 go_wp2
 go_ret
 exact⟨Kc HF.out.symm,Below.refl _ _⟩
theorem cN(s:AB):AFn prog 131 [.v (.string s)] (fun r=>r= .v (.bool (Dl s))):=by
 rw[Qa];exact SU (us:=[.string s]) fun w=>VK s w
end Go.Proofs.YtbgnigjfkbmceaaGreatDoor
namespace Go.Proofs.YtbgnigjfkbmceaaGreatDoor
section
variable {s:Spc}(hv:SpcV s)
include hv
def Ga(s:Spc)(a:A7):Prop:=(Cj s a).2=true∧∀i,0<i→GY s (B8 s (BG s.files) a) i=true
theorem RP{a:A7}(h:AZ s.files a=true)(hm:C9 s a.1=true):(Cj s a).2=true:=by rw[Og hv h hm]
omit hv in
theorem VL(a:A7)(L:List A7)(i:Nat):GY s (a::L) (i+2)=GY s L (i+1):=by
 unfold GY;have h1:(a::L)[i+2]?=L[i+1]?:=List.getElem?_cons_succ;have h2:(a::L)[i+2 - 1]?=L[i+1 - 1]?:=List.getElem?_cons_succ;rw[h1,h2];simp
omit hv in
theorem VM(a b:A7)(L:List A7):GY s (a::b::L) 1=true↔∀dev,CJ s b=some dev→a=(dev,1):=by
 unfold GY;simp only[List.getElem?_cons_succ,List.getElem?_cons_zero,Nat.sub_self]
 cases CJ s b with
 |none=>simp
 |some dev=>simp
omit hv in
theorem VN{L:List A7}{i:Nat}(h:L.length≤i):GY s L i=true:=by
 unfold GY;rw[List.getElem?_eq_none h]
theorem Oq(a:A7):EO s a=true↔Ga s a∧CJ s a=none:=by
 rw[aX hv,Bool.and_eq_true,List.all_eq_true];constructor
 ·rintro⟨h1,h2⟩;obtain⟨t,ht⟩:=Oe hv (Mo h1).1;refine⟨⟨h1,fun i hi=>?_⟩,?_⟩
  ·by_cases hl:i<(B8 s (BG s.files) a).length
   ·exact h2 i (List.mem_range.2 hl)
   exact VN (by omega)
  have h3:=h2 0 (List.mem_range.2 (by rw[ht];simp));rw[ht]at h3;unfold GY at h3;simp only[List.getElem?_cons_zero]at h3
  cases hc:CJ s a with
  |none=>rfl
  |some dev=>rw[hc]at h3;simp at h3
 rintro⟨⟨h1,h2⟩,hc⟩;refine⟨h1,fun i _=>?_⟩;obtain⟨t,ht⟩:=Oe hv (Mo h1).1;by_cases h0:i=0
 ·subst h0;rw[ht];unfold GY;simp only[List.getElem?_cons_zero,hc]
 exact h2 i (by omega)
theorem Ot{a b:A7}(h:AZ s.files a=true)(hm:C9 s a.1=true)(hs:Ca s a=some b):Ga s a↔Ga s b∧∀dev,CJ s b=some dev→a=(dev,1):=by
 have hb:=Mm hv h hs;have hbm:=R7 hv hm hs;obtain⟨t,ht⟩:=Oe hv hb;have hc:B8 s (BG s.files) a=a::B8 s (BG s.files) b:=by rw[K5 hv h,hs]
 unfold Ga;rw[hc];constructor
 ·rintro⟨_,h2⟩;refine⟨⟨RP hv hb hbm,fun i hi=>?_⟩,?_⟩
  ·obtain⟨j,rfl⟩:∃j,i=j+1:=⟨i - 1,by omega⟩;rw[←VL a];exact h2 _ (by omega)
  have h3:=h2 1 (by omega);rw[ht]at h3;exact(VM a b t).1 h3
 rintro⟨⟨_,h2⟩,h3⟩;refine⟨RP hv h hm,fun i hi=>?_⟩;by_cases h1:i=1
 ·subst h1;rw[ht];exact(VM a b t).2 h3
 obtain⟨j,rfl⟩:∃j,i=j+2:=⟨i - 2,by omega⟩;rw[VL];exact h2 _ (by omega)
theorem VO(h:AZ s.files (0,1)=true):Ga s (0,1):=by
 have hs:Ca s (0,1)=none:=by unfold Ca;rw[if_neg (by simp)];exact Uf hv
 refine⟨RP hv h (by unfold C9;simp),fun i hi=>?_⟩;rw[K5 hv h,hs];exact VN (by simp;omega)
theorem VP{a:A7}{dev:Int}(hc:CJ s a=some dev):Ca s (dev,1)=some a∧AZ s.files (dev,1)=true∧C9 s dev=true∧dev≠0∧AZ s.files a=true:=by
 obtain⟨i,hi⟩:=Oh hc;have hm:=hv.mnt i _ hi;have h1:=hm.dev1;have h2:=hm.dev2;simp only at h1 h2
 have hs:Ca s (dev,1)=some a:=by
  unfold Ca;rw[if_neg (by simp)];exact Uk hv hi
 exact⟨hs,V0 hv (by omega) h2,Of (s:=s) (m:=(dev,a)) (AT hi),by omega,hm.dir⟩
theorem cO{a:A7}(h:Ga s a):Ga s (HQ s a):=by
 unfold HQ
 cases hc:CJ s a with
 |none=>exact h
 |some dev=>
   obtain⟨h1,h2,h3,_⟩:=VP hv hc;refine(Ot hv (a:=(dev,1)) h2 h3 h1).2 ⟨h,fun d hd=>?_⟩;rw[hc]at hd;injection hd with hd;rw[hd]
theorem VQ:∀(n:Nat) (a:A7),Ga s a→Ga s (DG s n a)
 |0,_,h=>h
 |n+1,a,h=>by rw[DG];exact VQ n _ (cO hv h)
theorem Ou{a:A7}(h:Ga s a):EO s (DG s s.mounts.length a)=true:=(Oq hv _).2 ⟨VQ hv _ a h,Ui hv _ a fun i m _ _=>by omega⟩
theorem cP:∀(k:Nat) (a:A7),Ga s a→Ga s (Eg s k a):=by
 intro k
 induction k with
 |zero=>intro a h;exact h
 |succ k ih=>
   intro a h;obtain⟨hd,hm⟩:=Mo h.1;by_cases h1:a.2=1
   ·cases ho:Bb s a.1 with
    |none=>rw[Uy k hd h1 (by rw[ho];rfl)];exact h
    |some on=>
      have hs:Ca s a=some on:=by unfold Ca;rw[if_neg (by simpa using h1)];exact ho
      rw[Ux k hd h1 (by rw[ho];rfl),ho];exact ih on ((Ot hv hd hm hs).1 h).1
   have hs:Ca s a=some (a.1,(Ai s.files a).parent):=if_pos h1;rw[Uw k hd h1];exact((Ot hv hd hm hs).1 h).1
omit hv in
theorem cQ{d:Dvc}(hd:VD d){a b m:Nod}(ha:a∈d.nodes)(hb:b∈d.nodes)(hm:m∈d.nodes)(h1:m.ino≠1)(hk:m.kind=2)(hea:∃e∈a.entries,e.2=m.ino)(heb:∃e∈b.entries,e.2=m.ino):a=b:=by
 have hc:=hd.one m hm h1 hk;obtain⟨A,B,hAB,_,_⟩:=U4 hd.asc ha;rw[hAB,Qe,LU]at hc;have h2:=U3.2 hea;rw[hAB]at hb;rcases List.mem_append.1 hb with hb|hb
 ·have:=MY.2 ⟨b,hb,heb⟩;omega
 rcases List.mem_cons.1 hb with hb|hb
 ·exact hb.symm
 have:=MY.2 ⟨b,hb,heb⟩;omega
theorem VR{a b:A7}{p:AB}(hl:AG s.files a p=(b,0)):AZ s.files a=true∧Dl p=true∧b.1=a.1∧b.2≠1∧Cm s.files b=true∧(AZ s.files b=true→Ca s b=some a):=by
 unfold AG at hl
 cases hn:Ba s.files a with
 |none=>rw[hn]at hl;simp at hl
 |some n=>
   rw[hn]at hl;simp only at hl;by_cases hk:n.kind=2
   ·rw[if_pos hk]at hl;have hdir:AZ s.files a=true:=(Kl hn).2 hk
    cases hf:n.entries.find? fun e:B0=>decide (e.1=p)with
    |none=>rw[hf]at hl;simp at hl
    |some e=>
      rw[hf]at hl;simp only[Prod.mk.injEq,and_true]at hl;subst hl;have he:=List.mem_of_find?_eq_some hf;have hep:=List.find?_some hf;simp only[decide_eq_true_eq]at hep;obtain⟨q,d,n',e1,e2,e3,e4,e5,e6⟩:=Kn (f:=s.files) (a:=a) (by rw[hdir];simp)
      have hn':n'=n:=by
       have:Ai s.files a=n:=by unfold Ai;rw[hn];rfl
       rw[←this];exact e5.symm
      subst hn';have hd:=hv.files.vd d (AT e2);obtain⟨h1,h2,m,hm,hme⟩:=hd.ent n' e3 e he;have hnb:Ba s.files (a.1,e.2)=some m:=by rw[e1];exact R6 hv e2 hm hme
      refine⟨hdir,by rw[←hep];exact h1,rfl,h2,by unfold Cm;rw[hnb];rfl,fun hdb=>?_⟩;have hmk:m.kind=2:=(Kl hnb).1 hdb;have hm1:m.ino≠1:=by rw[hme];exact h2
      obtain⟨p',hp',hpi,hpe⟩:=hd.par m hm hm1 hmk;have:=cQ hd e3 hp' hm hm1 hmk ⟨e,he,hme.symm⟩ hpe;subst this;unfold Ca;rw[if_pos h2];unfold Ai;rw[hnb];simp only[Option.getD_some];rw[←hpi,e4]
   rw[if_neg hk]at hl;simp at hl
theorem cR{a b:A7}{p:AB}(hl:AG s.files a p=(b,0))(ha:EO s a=true)(hb:AZ s.files b=true):Ga s b:=by
 obtain⟨h1,_,h3,h4,_,h6⟩:=VR hv hl;obtain⟨h7,h8⟩:=(Oq hv a).1 ha;refine(Ot hv hb (by rw[h3];exact(Mo h7.1).2) (h6 hb)).2 ⟨h7,fun dev hd=>?_⟩;rw[h8]at hd;cases hd
omit hv in
theorem cS(hv:SpcV s){a:A7}(h:AZ s.files a=false)(n:Nat):DG s n a=a:=by
 refine Q6 ?_ n
 cases hc:CJ s a with
 |none=>rfl
 |some d=>rw[(VP hv hc).2.2.2.2]at h;cases h
theorem RQ:AZ s.files (0,0)=false:=by
 cases hz:AZ s.files (0,0)with
 |false=>rfl
 |true=>
   obtain⟨q,d,m,e1,e2,e3,e4,e5,e6⟩:=Kn (f:=s.files) (a:=(0,0)) (by rw[hz];simp);have:=(hv.files.vd d (AT e2)).pos e3;simp only at e4;omega
theorem VS{fl:Bool}{p:AB}{ps:List AB}{a:A7}{lk:Nat}{τ:Lk}(h0:AZ s.files (0,1)=true)(ha:AZ s.files a=true→EO s a=true)(h:Bh s fl p ps a lk= .inr τ):AZ s.files τ.file=true→EO s τ.file=true:=by
 unfold Bh at h;split at h
 ·cases h
 rename_i hd;have hd:AZ s.files a=true:=by simpa using hd
 have hva:=ha hd;have hr:EO s (EE s)=true:=Ou hv (VO hv h0);split at h
 ·cases h
 split at h
 ·injection h with h;subst h;exact ha
 split at h
 ·injection h with h;subst h;exact fun _=>Ou hv (cP hv _ a ((Oq hv a).1 hva).1)
 split at h
 ·split at h
  ·cases h
  injection h with h;subst h;intro hz;rw[RQ hv]at hz;cases hz
 rename_i hl;have hl:(AG s.files a p).2=0:=by simpa using hl
 split at h
 ·split at h
  ·cases h
  injection h with h;subst h;simp only;split
  ·exact fun _=>hr
  exact ha
 injection h with h;subst h;simp only;intro hz
 cases hb:AZ s.files (AG s.files a p).1 with
 |false=>rw[cS hv hb]at hz;rw[hb]at hz;cases hz
 |true=>exact Ou hv (cR hv (p:=p) (by rw[←hl]) hva hb)
theorem cT(h0:AZ s.files (0,1)=true){fl:Bool}:∀(k:Nat) (σ:Lk),(AZ s.files σ.file=true→EO s σ.file=true)→(E2 s fl k σ).1=0→AZ s.files (E2 s fl k σ).2.file=true→EO s (E2 s fl k σ).2.file=true:=by
 intro k
 induction k with
 |zero=>intro σ h _ hd;exact h hd
 |succ k ih=>
   intro σ h;unfold E2
   cases σ.ps with
   |nil=>exact fun _ hd=>h hd
   |cons p ps=>
     simp only
     cases hs:Bh s fl p ps σ.file σ.links with
     |inl e=>
       intro _ hd;rw[show(e,Om).2.file=((0,0):A7) from rfl,RQ hv]at hd;cases hd
     |inr τ=>exact ih τ (VS hv h0 h hs)
end
end Go.Proofs.YtbgnigjfkbmceaaGreatDoor
