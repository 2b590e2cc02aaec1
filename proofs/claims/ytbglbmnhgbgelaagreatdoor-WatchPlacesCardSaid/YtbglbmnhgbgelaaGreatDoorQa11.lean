/-
  Part 11 of the proof of WatchPlacesP: what the statement's proof uses of the texts in wip/tpl.
-/
import Derived.OpenShut
import Derived.ChangeArms
import Derived.ChangeOld
import Derived.DataReads
import Derived.DataElems
import Derived.Lib.AppendZerosOnto
import Derived.Test.YtbglbmnhgbgelaaGreatDoorQa10
namespace Go.Proofs.YtbglbmnhgbgelaaGreatDoor
open Go.RowKit
def StAll(w:World):Nat→Nat→Prop:=fun b _=>b<w.heap.size
def Opens(P:Program)(t:TypeId)(R:List AV→Prop):Prop:=
 ∀(H:Type) (enc:TypeId×Value→H) (w:World) (base:Nat) (spare:Nat→Bool) (held:Bool) (fuel:Nat) (cs:List Value) (x:DataW H×List MemPlace),DataW.trod enc P w base spare held fuel t cs=some x→
  ∃row,R row∧froL (StAll w) w row cs∧∀u∈cs,u.oneCell'=true
section
variable {P:Program}{t:TypeId}
theorem Opens.mono{R R':List AV→Prop}(h:Opens P t R)(hR:∀r,R r→R' r):Opens P t R':=by
 intro H enc w base spare held fuel cs x hx
 obtain⟨row,h1,h2⟩:=h H enc w base spare held fuel cs x hx
 exact⟨row,hR _ h1,h2⟩
theorem opens_int{k:IntKind}(ht:P.underlying t=some (.int k)):Opens P t fun r=>∃n,r=[.v (.int k n)]∧(Lit.int k n).wf=true:=by
 intro H enc w base spare held fuel cs x hx
 obtain⟨b,rfl,_,hw⟩:=DataW.trod_int ht hx
 exact⟨_,⟨b,rfl,hw⟩,⟨_,_,rfl,by simp only[fro],by simp only[froL]⟩,by simp[Value.oneCell']⟩
theorem cell_lt'{w:World}{b o:Nat}{v:Value}(h:w.cell? ⟨b,o,none⟩=some v):b<w.heap.size:=by
 rcases Nat.lt_or_ge b w.heap.size with hlt|hge
 ·exact hlt
 simp[World.cell?,Array.getElem?_eq_none hge]at h
theorem froL_length'{St:Nat→Nat→Prop}{w:World}{xs:List AV}{ys:List Value}(h:froL St w xs ys):ys.length=xs.length:=repL_length (G:=⟨St,[],[]⟩) (repL_fro (G:=⟨St,[],[]⟩) _ _ h)
theorem opens_slice{e:TypeId}{n:Nat}{R:List AV→Prop}(ht:P.underlying t=some (.slice e))(hc:P.cellsOf e=n)(hn:0<n)(h:Opens P e R):Opens P t fun r=>∃rows,r=[.sl n rows none]∧rows.length≤maxLen∧∀x∈rows,R x:=by
 intro H enc w base spare held fuel cs x hx
 rcases DataW.trod_slice ht hx with⟨rfl,_⟩|⟨⟨b,off,spot⟩,len,cap,elems,rest,m,rfl,rfl,_,hb,hl,hm,hlen,hel,_,_⟩
 ·exact⟨_,⟨[],rfl,Nat.zero_le _,by simp⟩,⟨_,_,rfl,by simp only[fro];exact⟨trivial,none,0,rfl,Nat.le_refl _,Nat.zero_le _, .inl trivial⟩,by simp only[froL]⟩,by simp[Value.oneCell']⟩
 have each:∀i,i<len→∃row cs',R row∧row.length=n∧froL (StAll w) w row cs'∧(∀u∈cs',u.oneCell'=true)∧cs'.length=n∧∀j,j<n→w.cell? (Addr.add ⟨b,off,spot⟩ (i * n+j))=cs'[j]?:=by
  intro i hi
  have h1:=hel i hi
  rw[hc,List.getElem?_eq_getElem (by omega),Option.bind_eq_some_iff]at h1
  obtain⟨cs',h2,h3⟩:=h1
  obtain⟨row,r1,r2,r3⟩:=h _ _ _ _ _ _ _ _ _ h3
  obtain⟨_,c1,c2⟩:=World.cells?_some h2
  refine⟨row,cs',r1,by rw[←froL_length' r2,c1],r2,r3,c1,fun j hj=>?_⟩
  have:=c2 j hj
  rwa [Addr.add_add]at this
 have hrows:∃rows:List (List AV),rows.length=len∧(∀i,i<len→∃row cs',rows[i]?=some row∧R row∧row.length=n∧froL (StAll w) w row cs'∧(∀u∈cs',u.oneCell'=true)∧cs'.length=n∧∀j,j<n→w.cell? (Addr.add ⟨b,off,spot⟩ (i * n+j))=cs'[j]?):=by
  clear hel
  have:∀k,k≤len→∃rows:List (List AV),rows.length=k∧(∀i,i<k→∃row cs',rows[i]?=some row∧R row∧row.length=n∧froL (StAll w) w row cs'∧(∀u∈cs',u.oneCell'=true)∧cs'.length=n∧∀j,j<n→w.cell? (Addr.add ⟨b,off,spot⟩ (i * n+j))=cs'[j]?):=by
   intro k
   induction k with
   |zero=>intro _;exact⟨[],rfl,fun i hi=>by omega⟩
   |succ k ih=>
     intro hk
     obtain⟨rows,e1,e2⟩:=ih (by omega)
     obtain⟨row,cs',q⟩:=each k (by omega)
     refine⟨rows++[row],by simp[e1],fun i hi=>?_⟩
     rcases Nat.lt_or_ge i k with hlt|hge
     ·obtain⟨row',cs'',q1,q2⟩:=e2 i hlt
      exact⟨row',cs'',by rw[List.getElem?_append_left (by omega)];exact q1,q2⟩
     obtain rfl:i=k:=by omega
     exact⟨row,cs',by rw[List.getElem?_append_right (by omega),e1];simp,q⟩
  exact this len (Nat.le_refl _)
 obtain⟨rows,e1,e2⟩:=hrows
 refine⟨_,⟨rows,rfl,by omega,fun x hx=>?_⟩,⟨_,_,rfl,?_,by simp only[froL]⟩,by simp[Value.oneCell']⟩
 ·obtain⟨i,hi⟩:=List.getElem?_of_mem hx
  obtain⟨row,_,q1,q2,_⟩:=e2 i (by rw[←e1];exact(List.getElem?_eq_some_iff.1 hi).1)
  rw[hi]at q1
  injection q1 with q1
  subst q1
  exact q2
 simp only[fro]
 refine⟨trivial,some ⟨b,off,spot⟩,cap,by rw[e1],by omega,hm,?_⟩
 rcases Nat.eq_zero_or_pos len with h0|h0
 ·left;exact List.eq_nil_of_length_eq_zero (by omega)
 right
 have hspot:spot=none:=by
  obtain⟨_,cs',_,_,_,_,_,c3,c4⟩:=e2 0 h0
  have:=c4 0 hn
  rw[List.getElem?_eq_getElem (by omega)]at this
  simpa[Addr.add]using World.cell?_spot this
 subst hspot
 refine⟨b,off,rfl,?_⟩
 have:∀(rs:List (List AV)) (k:Nat),(∀i r,rs[i]?=some r→rows[k+i]?=some r)→froR (StAll w) w b n rs (off+k * n):=by
  intro rs
  induction rs with
  |nil=>intro k _;simp only[froR]
  |cons r rs ih=>
    intro k hk
    simp only[froR]
    have h1:=hk 0 r rfl
    rw[Nat.add_zero]at h1
    obtain⟨row,cs',q1,_,q3,q4,q5,q6,q7⟩:=e2 k (by rw[←e1];exact(List.getElem?_eq_some_iff.1 h1).1)
    rw[h1]at q1
    injection q1 with q1
    subst q1
    refine⟨⟨q3,froC_of fun i x hi=>?_⟩,?_⟩
    ·obtain⟨u,u1,u2⟩:=froL_get q4 hi
     have hin:i<n:=by rw[←q3];exact(List.getElem?_eq_some_iff.1 hi).1
     have hc:=q7 i hin
     rw[u1]at hc
     have hc':w.cell? ⟨b,off+k * n+i,none⟩=some u:=by rw[Addr.add_mid]at hc;rwa [Nat.add_assoc]
     exact⟨cell_lt' hc',u,hc',q5 u (List.mem_of_getElem? u1),u2⟩
    have:=ih (k+1) (fun i r' hi=>by
     have:=hk (i+1) r' (by simpa using hi)
     rwa [show k+1+i=k+(i+1) by omega])
    rwa [show off+(k+1) * n=off+k * n+n by rw[Nat.add_mul];omega]at this
 simpa using this rows 0 (fun i r hi=>by simpa using hi)
theorem rows_map{α:Type}{enc:α→List AV}{Q:α→Prop}:∀{rows:List (List AV)},(∀x∈rows,∃a,x=enc a∧Q a)→∃l:List α,rows=l.map enc∧∀a∈l,Q a
 |[],_=>⟨[],rfl,by simp⟩
 |r::rs,h=>by
   obtain⟨a,rfl,ha⟩:=h r (by simp)
   obtain⟨l,rfl,hl⟩:=rows_map (rows:=rs) fun x hx=>h x (by simp[hx])
   exact⟨a::l,rfl,by simpa using⟨ha,hl⟩⟩
theorem Opens.one{R:List AV→Prop}(h:Opens P t R){H:Type}{enc:TypeId×Value→H}{w:World}{base:Nat}{spare:Nat→Bool}{held:Bool}{v:Value}{d:DataW H}{ps:List MemPlace}(hv:v.cells=#[v])(hd:DataW.Trod enc P w base spare held t v d ps):
    ∃row,R row∧froL (StAll w) w row [v]:=by
 obtain⟨fuel,hf⟩:=hd
 rw[hv]at hf
 obtain⟨row,h1,h2,_⟩:=h _ _ _ _ _ _ _ _ _ hf
 exact⟨row,h1,h2⟩
end
theorem opInts:Opens Tryz.prog 22 (fun r=>∃l:List Int,r=[.sl 1 (l.map intA) none]):=
 (opens_slice (n:=1) Tryz.underlying22 (by kernel_rfl) (by omega) (opens_int Tryz.underlying3)).mono (by
   rintro r ⟨rows,rfl,_,hr⟩
   obtain⟨l,rfl,_⟩:=rows_map (enc:=intA) (Q:=fun _=>True) (fun x hx=>by obtain⟨t,rfl,_⟩:=hr x hx;exact⟨t,rfl,trivial⟩)
   exact⟨l,rfl⟩)
theorem ints_one{H:Type}{enc:TypeId×Value→H}{sp:Nat→Bool}{held:Bool}{base:Nat}{w:World}{a:Option Addr}{n c:Nat}{d:DataW H}{p:List MemPlace}(h:DataW.Trod enc Tryz.prog w base sp held 22 (.slice a n c) d p):
    ∃l:List Int,rep ⟨StAll w,[],[]⟩ w (.sl 1 (l.map intA) none) (.slice a n c):=by
 obtain⟨r0,⟨l,rfl⟩,k0⟩:=opInts.one rfl h
 simp only[froL]at k0
 obtain⟨_,_,e0,k0,rfl⟩:=k0
 injection e0 with e0
 subst e0
 exact⟨l,rep_fro (G:=⟨StAll w,[],[]⟩) _ _ k0⟩
theorem walk_intsv{f:FuncId}(us:List Value)(hf:∀l:List Int,AFn Tryz.prog f (.sl 1 (l.map intA) none::us.map AV.v) (fun x=>x= .v (.bool true))){H:Type}{enc:TypeId×Value→H}{sp:Nat→Bool}{held:Bool}{base:Nat}(a:Option Addr)(n c:Nat)(w:World){d:DataW H}{p:List MemPlace}
    (h:DataW.Trod enc Tryz.prog w base sp held 22 (.slice a n c) d p):Calls Tryz.prog f (.slice a n c::us).toArray w fun e w'=>e= .returned (.bool true)∧Below w.heap.size w w':=by
 obtain⟨l,k⟩:=ints_one h
 refine calls_of (vs:= .slice a n c::us) (hf l) (StAll w) (fun b o h=>h) ?_
 simp only[repL]
 exact⟨_,_,rfl,k,repL_v us⟩
theorem mtd_of{s:Spc}{dev:Int}(h:mtdL s dev=true)(h0:dev≠0):∃m∈s.mounts,m.1=dev:=by
 unfold mtdL onL at h
 simp only[Bool.or_eq_true,decide_eq_true_eq,h0,or_false]at h
 cases hf:s.mounts.find? fun m:Mnt=>decide (m.1=dev)with
 |none=>rw[hf]at h;cases h
 |some m=>exact⟨m,List.mem_of_find?_eq_some hf,by have:=List.find?_some hf;simpa using this⟩
theorem mtd_mem{s:Spc}{m:Mnt}(h:m∈s.mounts):mtdL s m.1=true:=by
 unfold mtdL onL
 rw[Bool.or_eq_true]
 refine .inl ?_
 rw[Option.isSome_map]
 cases hf:s.mounts.find? fun m':Mnt=>decide (m'.1=m.1)with
 |none=>have:=List.find?_eq_none.1 hf m h;simp at this
 |some m=>rfl
theorem mtd_mono{f:Fls}{ms ms':List Mnt}{dev:Int}(h:mtdL ⟨f,ms⟩ dev=true)(hs:∀m∈ms,m∈ms'):mtdL ⟨f,ms'⟩ dev=true:=by
 by_cases h0:dev=0
 ·unfold mtdL;simp[h0]
 obtain⟨m,hm,rfl⟩:=mtd_of h h0
 exact mtd_mem (s:=⟨f,ms'⟩) (hs m hm)
section
set_option maxRecDepth 10000
set_option maxHeartbeats 1000000
theorem chainP_len'(s:Spc):∀(k:Nat) (a:Fil),(chainP s k a).length≤k
 |0,_=>by simp[chainP]
 |k+1,a=>by
   unfold chainP
   split
   ·cases h:stepC s a with
    |none=>simp
    |some b=>have:=chainP_len' s k b;simp;omega
   simp
end
end Go.Proofs.YtbglbmnhgbgelaaGreatDoor
namespace Go.Proofs.YtbglbmnhgbgelaaGreatDoor
section
variable {s:Spc}(hv:SpcV s)
include hv
theorem node_in{q:Nat}{d:Dvc}{p:Nod}{x:Int}(hq:s.files[q]?=some d)(hp:p∈d.nodes)(hx:p.ino=x):nodeL s.files ((q:Int),x)=some p:=
 node_asc (a:=((q:Int),x)) rfl hq (hv.files.vd d (List.mem_of_getElem? hq)).asc hp hx
theorem step_dir{a b:Fil}(h:dirL s.files a=true)(hs:stepR s a=some b):dirL s.files b=true:=by
 obtain⟨q,d,m,h1,h2,h3,h4,h5,h6⟩:=dir_node (f:=s.files) (a:=a) (by rw[h];simp)
 have hd:=hv.files.vd d (List.mem_of_getElem? h2)
 unfold stepR at hs
 by_cases h0:a.2≠1
 ·rw[if_pos h0]at hs
  injection hs with hs
  subst hs
  rw[h5,h1]
  obtain⟨p,hp,hpi,e,he,_⟩:=hd.par m h3 (by rw[h4];exact h0) h6
  have hk:p.kind=2:=by
   by_cases hk:p.kind=2
   ·exact hk
   have:=(hd.leaf p hp hk).2
   rw[this]at he;cases he
  exact(dir_kind (node_in hv h2 hp hpi)).2 hk
 rw[if_neg h0]at hs
 obtain⟨m',hm',_,e⟩:=on_mem hs
 obtain⟨i,hi⟩:=List.getElem?_of_mem hm'
 rw[←e]
 exact(hv.mnt i m' hi).dir
theorem step_mtd{a b:Fil}(h:mtdL s a.1=true)(hs:stepR s a=some b):mtdL s b.1=true:=by
 unfold stepR at hs
 by_cases h0:a.2≠1
 ·rw[if_pos h0]at hs
  injection hs with hs
  subst hs
  exact h
 rw[if_neg h0]at hs
 obtain⟨m',hm',_,e⟩:=on_mem hs
 obtain⟨i,hi⟩:=List.getElem?_of_mem hm'
 rw[←e]
 exact mtd_mono (f:=s.files) (hv.mnt i m' hi).there (fun x hx=>List.mem_of_mem_take hx)
theorem on_zero:onL s 0=none:=by
 cases h:onL s 0 with
 |none=>rfl
 |some on=>
   obtain⟨m',hm',e,_⟩:=on_mem h
   obtain⟨i,hi⟩:=List.getElem?_of_mem hm'
   have:=(hv.mnt i m' hi).dev1
   omega
theorem step_some{a:Fil}(h:mtdL s a.1=true)(h0:a≠(0,1)):∃b,stepR s a=some b:=by
 have _:=hv
 unfold stepR
 by_cases h1:a.2≠1
 ·exact⟨_,if_pos h1⟩
 rw[if_neg h1]
 have h2:a.1≠0:=fun e=>h0 (Prod.ext e (by simpa using h1))
 unfold mtdL at h
 rw[decide_eq_false h2,Bool.or_false]at h
 cases ho:onL s a.1 with
 |none=>rw[ho]at h;cases h
 |some b=>exact⟨b,rfl⟩
theorem chain_cons{a:Fil}(h:dirL s.files a=true):chainP s (mostL s.files) a=a::(match stepR s a with
    |none=>[]
    |some b=>chainP s (mostL s.files) b):=by
 have hd:¬dirL s.files a=false:=by rw[h];simp
 have he:=ends_most hv a
 cases hm:mostL s.files with
 |zero=>rw[hm]at he;exact absurd he hd
 |succ m=>
   rw[hm]at he
   rw[chain_yes hd,step_eq hv hd]
   cases hs:stepR s a with
   |none=>rfl
   |some b=>
     simp only
     have h1:=he.resolve_left hd b hs
     have h2:=ends_most hv b
     rw[hm]at h2
     rw[chain_irr hv m (m+1) b h1 h2]
theorem root_in{a:Fil}(h:dirL s.files a=true)(hm:mtdL s a.1=true):(0,1)∈chainP s (mostL s.files) a:=by
 have key:∀(k:Nat) (a:Fil),ends s k a→dirL s.files a=true→mtdL s a.1=true→(0,1)∈chainP s (mostL s.files) a:=by
  intro k
  induction k with
  |zero=>intro a he h _;rw[show dirL s.files a=false from he]at h;cases h
  |succ k ih=>
    intro a he h hm
    by_cases h0:a=(0,1)
    ·rw[chain_cons hv h,h0];exact List.mem_cons_self ..
    obtain⟨b,hb⟩:=step_some hv hm h0
    rw[chain_cons hv h,hb]
    exact List.mem_cons_of_mem _ (ih b (he.resolve_left (by rw[h];simp) b hb) (step_dir hv h hb) (step_mtd hv hm hb))
 exact key _ a (ends_most hv a) h hm
theorem where_no{a:Fil}(h:¬(dirL s.files a=true∧mtdL s a.1=true)):whereP s a=(⟨#[]⟩,false):=by
 have _:=hv
 unfold whereP
 rw[if_neg fun c=>h ⟨c.1,c.2.1⟩]
theorem where_yes{a:Fil}(h:dirL s.files a=true)(hm:mtdL s a.1=true):whereP s a=(pathW s ((chainP s (mostL s.files) a).takeWhile fun x=>decide (x≠(0,1))),true):=by
 unfold whereP
 rw[if_pos ⟨h,hm,root_in hv h hm⟩]
theorem where_root(h:dirL s.files (0,1)=true):whereP s (0,1)=(⟨#[47]⟩,true):=by
 rw[where_yes hv h (by unfold mtdL;simp),chain_cons hv h,List.takeWhile_cons]
 simp[pathW,accW]
theorem where_step{a b:Fil}(h:dirL s.files a=true)(hm:mtdL s a.1=true)(h0:a≠(0,1))(hb:stepR s a=some b):whereP s a=(if a.2=1 then(whereP s b).1 else joinS (whereP s b).1 (nmoL s a),true)∧(whereP s b).2=true:=by
 rw[where_yes hv h hm,where_yes hv (step_dir hv h hb) (step_mtd hv hm hb),chain_cons hv h,hb,List.takeWhile_cons]
 simp only[h0,ne_eq,not_false_eq_true,decide_true,if_true]
 refine⟨?_,trivial⟩
 unfold pathW accW
 rw[List.filter_cons]
 by_cases h1:a.2=1
 ·simp[h1]
 simp[h1]
def upF(s:Spc):Nat→Fil→Fil
 |0,a=>a
 |k+1,a=>if dirL s.files a=true then(if a.2≠1 then(a.1,(nodG s.files a).parent)else match onL s a.1 with
   |some on=>upF s k on
   |none=>a)else(0,0)
omit hv in
theorem pos_le(dev:Int):posM s dev≤s.mounts.length:=by
 unfold posM
 cases h:s.mounts.findIdx? fun m:Mnt=>decide (m.1=dev)with
 |none=>simp
 |some i=>
   have:=(List.findIdx?_eq_some_iff_getElem.1 h).1
   simp only
   omega
theorem mnt_one{i j:Nat}{m m':Mnt}(hi:s.mounts[i]?=some m)(hj:s.mounts[j]?=some m')(h:m.1=m'.1):i=j:=by
 have key:∀{i j:Nat} {m m':Mnt},s.mounts[i]?=some m→s.mounts[j]?=some m'→m.1=m'.1→¬i<j:=by
  intro i j m m' hi hj h hlt
  have hf:=(hv.mnt j m' hj).fresh
  have hm:m∈s.mounts.take j:=by
   refine List.mem_of_getElem? (i:=i) ?_
   rw[List.getElem?_take,if_pos hlt];exact hi
  have:=mtd_mem (s:=⟨s.files,s.mounts.take j⟩) hm
  rw[h,hf]at this
  cases this
 have h1:=key hi hj h
 have h2:=key hj hi h.symm
 omega
omit hv in
theorem cov_mem{a:Fil}{d:Int}(h:covL s a=some d):∃i:Nat,s.mounts[i]?=some ((d,a):Mnt):=by
 unfold covL at h
 cases hf:s.mounts.find? fun m:Mnt=>decide (m.2=a)with
 |none=>rw[hf]at h;cases h
 |some m=>
   rw[hf]at h
   injection h with h
   have h2:=List.find?_some hf
   simp only[decide_eq_true_eq]at h2
   obtain⟨i,hi⟩:=List.getElem?_of_mem (List.mem_of_find?_eq_some hf)
   exact⟨i,by rw[hi,←h,←h2]⟩
omit hv in
theorem cov_none{a:Fil}(h:∀(i:Nat) (m:Mnt),s.mounts[i]?=some m→m.2≠a):covL s a=none:=by
 cases hc:covL s a with
 |none=>rfl
 |some d=>obtain⟨i,hi⟩:=cov_mem hc;exact absurd rfl (h i _ hi)
theorem down_end:∀(n:Nat) (a:Fil),(∀(i:Nat) (m:Mnt),s.mounts[i]?=some m→m.2=a→s.mounts.length≤i+n)→covL s (itD s n a)=none:=by
 intro n
 induction n with
 |zero=>
   intro a h
   refine cov_none fun i m hi e=>?_
   have h1:=h i m hi e
   have h2:=(List.getElem?_eq_some_iff.1 hi).1
   omega
 |succ n ih=>
   intro a h
   cases hc:covL s a with
   |none=>rw[itD_fix (by rw[hc];rfl)];exact hc
   |some d=>
     obtain⟨i,hi⟩:=cov_mem hc
     rw[itD]
     refine ih _ fun j m hj e=>?_
     have he:stepD s a=(d,1):=by unfold stepD;rw[hc]
     rw[he]at e
     have h1:=h i _ hi rfl
     have hth:=(hv.mnt j m hj).there
     have hd1:=(hv.mnt i _ hi).dev1
     rw[e]at hth
     obtain⟨m'',hm'',e2⟩:=mtd_of hth (by simp only at hd1 ⊢;omega)
     obtain⟨k,hk⟩:=List.getElem?_of_mem hm''
     have hkj:k<j:=by
      have:=(List.getElem?_eq_some_iff.1 hk).1
      simp at this
      omega
     rw[List.getElem?_take,if_pos hkj]at hk
     have:=mnt_one hv hk hi e2
     omega
omit hv in
theorem itD_succ:∀(n:Nat) (a:Fil),itD s (n+1) a=stepD s (itD s n a)
 |0,_=>rfl
 |n+1,a=>itD_succ n (stepD s a)
theorem down_eq(a:Fil):itD s (s.mounts.length+1) a=itD s s.mounts.length a:=by
 rw[itD_succ]
 refine stepD_none ?_
 rw[down_end hv _ a (fun i m _ _=>by omega)]
 rfl
theorem on_of{i:Nat}{m:Mnt}(hi:s.mounts[i]?=some m):onL s m.1=some m.2:=by
 have h1:mtdL s m.1=true:=mtd_mem (List.mem_of_getElem? hi)
 have hd:=(hv.mnt i m hi).dev1
 unfold mtdL at h1
 rw[decide_eq_false (by omega),Bool.or_false]at h1
 cases ho:onL s m.1 with
 |none=>rw[ho]at h1;cases h1
 |some on=>
   obtain⟨m',hm',e1,e2⟩:=on_mem ho
   obtain⟨j,hj⟩:=List.getElem?_of_mem hm'
   have:=mnt_one hv hj hi e1
   subst this
   rw[hi]at hj
   injection hj with hj
   rw[←e2,hj]
theorem seg{x:Fil}{dev:Int}(hc:covL s x=some dev):∀(k:Nat) (y:Fil),ends s k y→dirL s.files y=true→y.1=dev→∃t r,chainP s (mostL s.files) y=t++(dev,1)::x::r:=by
 intro k
 induction k with
 |zero=>intro y he h _;rw[show dirL s.files y=false from he]at h;cases h
 |succ k ih=>
   intro y he h hy
   obtain⟨i,hi⟩:=cov_mem hc
   by_cases h1:y.2=1
   ·have hs:stepR s y=some x:=by
       unfold stepR
       rw[if_neg (by simpa using h1),hy]
       exact on_of hv hi
    obtain⟨t,ht⟩:=chain_head hv (step_dir hv h hs)
    refine⟨[],t,?_⟩
    rw[chain_cons hv h,hs]
    simp only[List.nil_append]
    rw[ht,←hy,←h1]
   have hs:stepR s y=some (y.1,(nodG s.files y).parent):=if_pos h1
   obtain⟨t,r,ht⟩:=ih _ (he.resolve_left (by rw[h];simp) _ hs) (step_dir hv h hs) hy
   refine⟨y::t,r,?_⟩
   rw[chain_cons hv h,hs]
   simp only[List.cons_append]
   rw[ht]
def okAt(s:Spc)(L:List Fil)(i:Nat):Bool:=match L[i]? with
 |none=>true
 |some x=>match covL s x with
   |none=>true
   |some dev=>decide (0<i)&&decide (L[i - 1]?=some (dev,1))
theorem sees_ok{a:Fil}{i:Nat}{x:Fil}(hi:(chainP s (mostL s.files) a)[i]?=some x):okAt s (chainP s (mostL s.files) a) i=seesP s a x:=by
 unfold okAt seesP
 simp only[hi]
 cases hc:covL s x with
 |none=>rfl
 |some dev=>
   simp only
   rw[Bool.eq_iff_iff]
   simp only[Bool.and_eq_true,decide_eq_true_eq]
   constructor
   ·rintro⟨_,h2⟩
    exact⟨_,List.mem_of_getElem? h2,rfl⟩
   rintro⟨y,hy,hyd⟩
   obtain⟨t,r,ht⟩:=seg hv hc _ y (ends_most hv y) (within_dir hv hy) hyd
   obtain⟨p,hp⟩:=most_suf hv hy
   have hL:chainP s (mostL s.files) a=(p++t)++(dev,1)::x::r:=by rw[←hp,ht,List.append_assoc]
   have hn:=chain_nodup hv _ a (ends_most hv a)
   have hx:(chainP s (mostL s.files) a)[(p++t).length+1]?=some x:=by
    rw[hL,List.getElem?_append_right (by omega)]
    simp
   have hx0:(chainP s (mostL s.files) a)[(p++t).length]?=some (dev,1):=by
    rw[hL,List.getElem?_append_right (by omega)]
    simp
   have e:i=(p++t).length+1:=by
    obtain⟨h1,h2⟩:=List.getElem?_eq_some_iff.1 hi
    obtain⟨h3,h4⟩:=List.getElem?_eq_some_iff.1 hx
    exact(List.getElem_inj hn).1 (h2.trans h4.symm)
   subst e
   exact⟨by omega,hx0⟩
theorem vis_eq(a:Fil):visP s a=((whereP s a).2&&(List.range (chainP s (mostL s.files) a).length).all (okAt s (chainP s (mostL s.files) a))):=by
 unfold visP
 congr 1
 rw[Bool.eq_iff_iff,List.all_eq_true,List.all_eq_true]
 constructor
 ·intro h i hi
  have hl:=List.mem_range.1 hi
  rw[sees_ok hv (List.getElem?_eq_getElem hl)]
  exact h _ (List.getElem_mem hl)
 intro h x hx
 obtain⟨i,hi⟩:=List.getElem?_of_mem hx
 rw[←sees_ok hv hi]
 exact h i (List.mem_range.2 (List.getElem?_eq_some_iff.1 hi).1)
end
end Go.Proofs.YtbglbmnhgbgelaaGreatDoor
namespace Go.Proofs.YtbglbmnhgbgelaaGreatDoor
open Go.RowKit
theorem jn_size(d m:Str):(joinS d m).size≤d.size+1+m.size:=by
 unfold joinS
 split
 ·rw[ByteArray.size_append];omega
 rw[ByteArray.size_append,ByteArray.size_append]
 show d.size+1+m.size≤_
 omega
theorem path_size{s:Spc}(hv:SpcV s)(pre:List Fil):(pathW s pre).size≤1+13 * pre.length:=by
 have key:∀(l:List Str) (d:Str),(∀x∈l,x.size≤12)→(l.foldl joinS d).size≤d.size+13 * l.length:=by
  intro l
  induction l with
  |nil=>intro d _;simp
  |cons x l ih=>
    intro d h
    have h1:=ih (joinS d x) fun y hy=>h y (List.mem_cons_of_mem _ hy)
    have h2:=h x (List.mem_cons_self ..)
    have h3:=jn_size d x
    rw[List.foldl_cons,List.length_cons]
    omega
 have h:=key (accW s pre).reverse ⟨#[47]⟩ (fun x hx=>by
  rw[List.mem_reverse]at hx
  obtain⟨y,_,rfl⟩:=List.mem_map.1 hx
  exact nmo_size hv.files y)
 have h2:(accW s pre).length≤pre.length:=by unfold accW;rw[List.length_map];exact List.length_filter_le _ _
 rw[List.length_reverse]at h
 have:(⟨#[47]⟩:Str).size=1:=rfl
 unfold pathW
 omega
theorem where_size{s:Spc}(hv:SpcV s)(a:Fil):(whereP s a).1.size≤1000:=by
 unfold whereP
 split
 ·have h3:=chainP_len' s (mostL s.files) a
  have h4:=most_le hv.files
  refine Nat.le_trans (path_size hv _) ?_
  refine Nat.le_trans (Nat.add_le_add_left (Nat.mul_le_mul_left 13 ((List.takeWhile_sublist _).length_le)) 1) ?_
  omega
 exact Nat.zero_le _
theorem last_slash(d:Str)(h:0<d.size):d.data.toList.getLast?=some 47↔(((d[d.size - 1]'(by omega)).toNat:Int)=47):=by
 have hl:d.data.toList.length=d.size:=by simp
 rw[List.getLast?_eq_getElem?,hl,List.getElem?_eq_getElem (by omega)]
 show some (d[d.size - 1]'(by omega))=some 47↔_
 rw[Option.some.injEq]
 constructor
 ·intro e;rw[e];rfl
 intro e
 refine UInt8.toNat_inj.1 ?_
 show _=47
 omega
theorem join_nil{d m:Str}(h:¬0<d.size):joinS d m=d++⟨#[47]⟩++m:=by
 refine if_neg fun e=>?_
 have hl:d.data.toList.length=d.size:=by simp
 rw[List.getLast?_eq_getElem?,List.getElem?_eq_none (by omega)]at e
 cases e
section
set_option maxRecDepth 10000
set_option maxHeartbeats 1000000
theorem RjoinR(d m:Str)(hd:d.size≤1000000)(hm:m.size≤1000000):AFn Tryz.prog 103 [.v (.string d), .v (.string m)] (fun r=>r= .v (.string (joinS d m))):=by
 refine enter Tryz.func103 rfl rfl rfl rfl rfl 0 rfl ?_
 refine w_ (a_ (h:=e_ (q_ (w_ (m_ (h:=n_ (h:=gt_ (h:=m_ (h:=?_)))))))))
 refine al_gs true rfl rfl (fun hb1=>?_) (fun hb1=>?_)
 ·have hc1:=bp hb1
  refine m_ (h:=m_ (h:=n_ (h:=sb_ (h:=?_))))
  refine g_y (st_strIdx (n:=d.size - 1) Tryz.underlying9 rfl rfl (by omega) (by omega) ?_)
  refine eq_ (h:=pt_ (h:=e_ (?_)))
  refine aw_cond rfl (fun hb2=>?_) (fun hb2=>?_)
  ·have hc2:=bp hb2
   refine w_ (m_ (h:=m_ (h:=?_)))
   refine al_p rfl (st_addS rfl rfl (by omega) ?_)
   refine a_ (h:=e_ (aw_ret (x_thenR (?_))))
   refine e_ret ?_
   rw[show joinS d m=d++m from if_pos ((last_slash d (by omega)).2 hc2)]
   rfl
  have hc2:=bp hb2
  refine kt_ (w_ (m_ (h:=?_)))
  refine al_p rfl (st_addS rfl rfl (by show d.size+1≤_;omega) ?_)
  refine m_ (h:=?_)
  refine al_p rfl (st_addS rfl rfl (by rw[ByteArray.size_append];show d.size+1+m.size≤_;omega) ?_)
  refine a_ (h:=e_ (aw_ret (?_)))
  refine e_ret ?_
  rw[show joinS d m=d++⟨#[47]⟩++m from if_neg (fun h=>hc2 ((last_slash d (by omega)).1 h))]
  rfl
 have hc1:=bp hb1
 refine g0_ (h:=g0_ (h:=g0_ (h:=g0_ (h:=g0_ (h:=g0_ (h:=pf_ (h:=e_ (cn_ (h:=kt_ (w_ (m_ (h:=?_))))))))))))
 refine al_p rfl (st_addS rfl rfl (by show d.size+1≤_;omega) ?_)
 refine m_ (h:=?_)
 refine al_p rfl (st_addS rfl rfl (by rw[ByteArray.size_append];show d.size+1+m.size≤_;omega) ?_)
 refine a_ (h:=e_ (aw_ret (?_)))
 refine e_ret ?_
 rw[join_nil (by omega)]
 rfl
theorem RnameR(s:Spc)(a:Fil)(hs:SpcB s):AFn Tryz.prog 143 [.agg (flsA s.files), .agg (filA a)] (fun r=>r= .v (.string (nmoL s a))):=by
 have hen:=nodG_ents hs.files (a.1,(nodG s.files a).parent)
 change (abvL s a).entries.length≤1000 at hen
 refine enter Tryz.func143 rfl rfl rfl rfl rfl 0 rfl ?_
 refine w_ (b_ (h:=b_ (h:=a_ (h:=e_ (w_ (l_ (h:=l_ (h:=?_))))))))
 refine al_p rfl (q_call (Rnode s.files a hs.files) ?_)
 rintro r rfl
 skip
 refine m_ (h:=x_ (h:=x_ (h:=al_ (h:=s_ (h:=a_ (h:=e_ (w_ (l_ (h:=f_ (h:=l_ (h:=f_ (h:=l_ (h:=bd_ (h:=?_))))))))))))))
 refine al_p rfl (q_call (Rnode s.files (a.1,(nodG s.files a).parent) hs.files) ?_)
 rintro r rfl
 skip
 refine m_ (h:=x_ (h:=x_ (h:=al_ (h:=s_ (h:=a_ (h:=e_ (q_ (w_ (a_ (h:=e_ (aw_block (?_))))))))))))
 refine aw_loopW (fun m t=>∃j:Nat,j≤(abvL s a).entries.length∧m=(abvL s a).entries.length - j∧(∀i y,i<j→(abvL s a).entries[i]?=some y→decide (y.2=a.2)=false)∧t=⟨look [(3, .bp 1 0),(7, .bp 3 0),(9, .v (.int .i64 (j:Int)))],⟨[flsA s.files,filA a,nodA (nodG s.files a),nodA (abvL s a)],[]⟩⟩) ((abvL s a).entries.length) ((wk 4 0)) (⟨0,by omega,rfl,fun i y hi=>by omega,rfl⟩) ?_
 rintro m t ⟨j,hj,rfl,ha,rfl⟩
 refine q_ (w_ (m_ (h:=f_ (h:=l_ (h:=n_ (h:=lt_ (h:=e_ (?_))))))))
 refine aw_cond rfl (fun hb1=>?_) (fun hb1=>?_)
 ·have hc1:=bp hb1
  obtain⟨hlt,x,hy,hrow, -⟩:=row_at entA hc1
  refine kt_ (q_ (aw_block (q_ (yr_ 9 (h:=df_ 0 (h:=dl_ 1 (h:=dm_ 2 (h:=di_ 3 (h:=df_ 4 (h:=dl_ 5 (h:=df_ 6 (h:=dl_ 7 (h:=deq_ 8 (h:=z_ (h:=t_ (?_))))))))))))))))
  refine aw_cond rfl (fun hb2=>?_) (fun hb2=>?_)
  ·have hc2:=bp hb2
   refine w_ (f_ (h:=l_ (h:=m_ (h:=i_ (h:=f_ (h:=l_ (h:=a_ (h:=e_ (aw_ret (x_blockR (x_thenR (x_thenR (x_blockR (x_thenR (?_)))))))))))))))
   refine e_ret ?_
   rw[show nmoL s a=x.1 by simp only[nmoL];rw[find_at hy (by simpa using hc2) ha];rfl]
   rfl
  have hc2:=bp hb2
  refine aw_skip (x_blockN (t_ (aw_region (m_ (h:=ad_ (h:=a_ (h:=al_nil (?_))))))))
  refine x_then ?_
  refine⟨_,_,?_,⟨j+1,by omega,rfl,upto_snoc hy ha (by simpa using hc2),rfl⟩,(wk 4 0)⟩
  omega
 have hc1:=bp hb1
 have e3:=row_no entA hj hc1
 subst e3
 refine aw_exit (x_thenE (x_thenE (ABlock_out (t_ (w_ (a_ (h:=e_ (aw_ret (?_)))))))))
 refine e_ret ?_
 rw[show nmoL s a=⟨#[]⟩ by simp only[nmoL];rw[find_no ha];rfl]
 rfl
end
def strA(s:Str):List AV:=[.v (.string s)]
theorem st_sliceS{P:Program}{ev:Operand→Option AV}{h:AH}{R:AV→AH→Prop}{d:Option Tmp}{ty:TypeId}{pos:String}{af:Array Edge}{gd:Option (Nat×Bool)}{T:TypeId}{x lo hi:Operand}{s:ByteArray}{a k:Nat}{i j:Int}(hu:P.underlying T=some .string)
    (hx:ev x=some (.v (.string s))) (hl:ev lo=some (.v (.int .i64 i))) (hh:ev hi=some (.v (.int .i64 j))) (hi':i=(a:Int)) (hj:j=(k:Int)) (h1:a≤k) (h2:k≤s.size) (hR:R (.v (.string (s.extract a k))) h):AStep P ⟨d, .slice T x (some lo) (some hi) none,ty,pos,af,gd⟩ ev h R:=by
 refine st_val (fun _ G w ec _ he=>?_) hR
 have k1:=he x (by simp[Op.operands]) _ hx
 have k2:=he lo (by simp[Op.operands]) _ hl
 have k3:=he hi (by simp[Op.operands]) _ hh
 simp only[rep]at k1 k2 k3
 subst hi' hj
 refine⟨.string (s.extract a k),?_,by simp only[rep]⟩
 simp[execOp,k1,k2,k3,Instr.sliceAt,Instr.slice,Instr.sliceBounds,Instr.sliceBound,asIntOf,run_underlying hu,h1,h2]
def hdL(s:Str):Bool:=decide (s.data.toList.head?=some 47)
def lsL(s:Str):Bool:=decide (s.data.toList.getLast?=some 47)
theorem hd_pos{s:Str}(h:0<s.size):hdL s=decide (((s[0]'h).toNat:Int)=47):=by
 unfold hdL
 rw[head_dec s h,Bool.eq_iff_iff];simp
theorem ls_pos{s:Str}(h:0<s.size):lsL s=decide (((s[s.size - 1]'(by omega)).toNat:Int)=47):=by
 unfold lsL
 rw[last_dec s h,Bool.eq_iff_iff];simp
theorem hd_nil{s:Str}(h:¬0<s.size):hdL s=false:=by
 have:s.data.toList=[]:=List.eq_nil_of_length_eq_zero (by rw[←Lib.size_eq];omega)
 unfold hdL
 rw[this];rfl
theorem ls_nil{s:Str}(h:¬0<s.size):lsL s=false:=by
 have:s.data.toList=[]:=List.eq_nil_of_length_eq_zero (by rw[←Lib.size_eq];omega)
 unfold lsL
 rw[this];rfl
theorem byte_at{s:Str}{k:Nat}(h:k<s.size)(h47:((s[k]'h).toNat:Int)=47):s.data.toList[k]?=some 47:=by
 rw[Lib.data_getElem? s k h]
 congr 1
 refine UInt8.toNat_inj.1 ?_
 show _=47
 omega
theorem sp_cut{s:Str}{f k:Nat}{ps:List Str}(hI:SplitI s.data.toList f k (bsL ps))(h:k=s.size∨s.data.toList[k]?=some 47):SplitI s.data.toList (k+1) (k+1) (bsL ps++one_ ((s.data.toList.drop f).take (k - f))):=by
 rcases h with h|h
 ·rw[Lib.size_eq]at h
  subst h
  exact splitI_end hI
 exact splitI_slash hI h
theorem sp_app{s:Str}{f k:Nat}{ps:List Str}(hI:SplitI s.data.toList f k (bsL ps))(hk:k≤s.size)(h:k=s.size∨s.data.toList[k]?=some 47)(hf:f<k):SplitI s.data.toList (k+1) (k+1) (bsL (ps++[s.extract f k])):=splitI_app (sp_cut hI h) (one_pos (extract_ne s hf hk))
theorem sp_app0{s:Str}{f k:Nat}{ps:List Str}(hI:SplitI s.data.toList f k (bsL ps))(h:k=s.size∨s.data.toList[k]?=some 47)(hf:¬f<k):SplitI s.data.toList (k+1) (k+1) (bsL ps):=splitI_app0 (sp_cut hI h) (by omega)
theorem sp_next{s:Str}{f k:Nat}{ps:List Str}(hI:SplitI s.data.toList f k (bsL ps))(h:k<s.size)(h47:¬((s[k]'h).toNat:Int)=47):SplitI s.data.toList f (k+1) (bsL ps):=splitI_next hI (Lib.data_getElem? s k h) (fun e=>h47 (by rw[e];rfl))
theorem ps_len(ps:List Str):ps.length≤(flatS (bsL ps)).length:=by
 induction ps with
 |nil=>simp
 |cons p ps ih=>
   have:bsL (p::ps)=p.data.toList::bsL ps:=rfl
   rw[this,flatS_cons]
   simp
   omega
theorem piece_mem{s:Str}{ps:List Str}(h:bsL ps=pieces s.data.toList){i:Nat}{x:Str}(hx:ps[i]?=some x):x.size≤s.size:=by
 rw[Lib.size_eq,Lib.size_eq s]
 refine piece_len ?_
 rw[←h]
 exact List.mem_map.2 ⟨x,List.mem_of_getElem? hx,rfl⟩
theorem flat_next{ps:List Str}{j:Nat}{x t:Str}(hx:ps[j]?=some x)(h:t.data.toList=flatS ((bsL ps).take j)):(t++(⟨#[47]⟩++x)).data.toList=flatS ((bsL ps).take (j+1)):=by
 have e:(bsL ps)[j]?=some x.data.toList:=by unfold bsL;rw[List.getElem?_map,hx];rfl
 rw[List.take_add_one,e,flatS_append,←h]
 simp[flatS]
theorem str_eqS{a b:Str}(h:a.data.toList=b.data.toList):a=b:=ByteArray.ext (Array.toList_inj.1 h)
theorem clean_no{s:Str}{ps:List Str}(h:bsL ps=pieces s.data.toList){i:Nat}{x:Str}(hx:ps[i]?=some x)(hn:nameL x=false):cleanL s.data.toList=false:=by
 rw[←cleanR_eq]
 unfold cleanR
 rw[←h]
 have:(bsL ps).all nmL=false:=List.all_eq_false.2 ⟨x.data.toList,List.mem_map.2 ⟨x,List.mem_of_getElem? hx,rfl⟩,by rw[←nameL_eq,hn];simp⟩
 rw[this,Bool.false_and]
theorem clean_res{s t1:Str}{ps:List Str}(h:bsL ps=pieces s.data.toList)(ha:∀(i:Nat) (y:Str),i<ps.length→ps[i]?=some y→nameL y=true)(ht:t1.data.toList=flatS ((bsL ps).take ps.length))(h3:¬s=⟨#[47]⟩)(h0:0<ps.length):cleanL s.data.toList=decide (s=t1):=by
 have hl:(bsL ps).length=ps.length:=by simp[bsL]
 rw[List.take_of_length_le (by omega)]at ht
 rw[←cleanR_eq]
 unfold cleanR
 rw[←h,←ht]
 have h1:(bsL ps).all nmL=true:=List.all_eq_true.2 fun y hy=>by
  obtain⟨z,hz,rfl⟩:=List.mem_map.1 hy
  obtain⟨i,hi⟩:=List.getElem?_of_mem hz
  rw[←nameL_eq]
  exact ha i z (List.getElem?_eq_some_iff.1 hi).1 hi
 have h2:decide (s.data.toList=[47])=false:=decide_eq_false fun e=>h3 (str_eqS e)
 have h4:bsL ps≠[]:=fun e=>by rw[e]at hl;simp at hl;omega
 rw[h1,h2,decide_eq_true h4]
 simp only[Bool.true_and,Bool.false_or]
 rw[Bool.eq_iff_iff,decide_eq_true_iff,decide_eq_true_iff]
 exact⟨fun e=>str_eqS e,fun e=>by rw[e]⟩
theorem clean_nil{s:Str}{ps:List Str}(h:bsL ps=pieces s.data.toList)(h3:¬s=⟨#[47]⟩)(h0:ps.length=0):cleanL s.data.toList=false:=by
 have e:bsL ps=[]:=by rw[List.eq_nil_of_length_eq_zero h0];rfl
 rw[←cleanR_eq]
 unfold cleanR
 rw[←h,e]
 have h2:decide (s.data.toList=[47])=false:=decide_eq_false fun e=>h3 (str_eqS e)
 rw[h2]
 simp
section
set_option maxRecDepth 10000
set_option maxHeartbeats 1000000
theorem Rsplit(s:Str)(hs:s.size≤100000):AFn Tryz.prog 98 [.v (.string s)] (fun r=>∃ps:List Str,bsL ps=pieces s.data.toList∧r= .tup [.sl 1 (ps.map strA) none, .v (.bool (hdL s)), .v (.bool (lsL s))]):=by
 have hsz:=Lib.size_eq s
 refine enter Tryz.func98 rfl rfl rfl rfl rfl 0 rfl ?_
 refine w_ (a_ (h:=a_ (h:=a_ (h:=e_ (w_ (a_ (h:=e_ (w_ (a_ (h:=e_ (q_ (w_ (a_ (h:=e_ (aw_block (?_))))))))))))))))
 refine aw_nilTok 5 9 1 rfl (by repeat constructor) ?_
 refine aw_loopW (fun m t=>∃(f k:Nat) (ps:List Str),k≤s.size+1∧f≤k∧ps.length≤k∧m=s.size+1 - k∧SplitI s.data.toList f k (bsL ps)∧t=⟨look [(0, .v (.string s)),(5, .sl 1 (ps.map strA) (some 0)),(6, .v (.int .i64 (f:Int))),(7, .v (.int .i64 (k:Int)))],⟨[],[(9,1,ps.map strA)]⟩⟩) (s.size+1) ((wk 0 1)) (⟨0,0,[],by omega,by omega,by simp,rfl,splitI_start _,rfl⟩) ?_
 rintro m t ⟨f,k,ps,hk,hfk,hpl,rfl,hI,rfl⟩
 refine q_ (w_ (m_ (h:=m_ (h:=n_ (h:=le_ (h:=e_ (?_)))))))
 refine aw_cond rfl (fun hb1=>?_) (fun hb1=>?_)
 ·have hc1:=bp hb1
  refine kt_ (q_ (aw_block (w_ (m_ (h:=m_ (h:=n_ (h:=eq_ (h:=m_ (h:=?_)))))))))
  refine al_gs false rfl rfl (fun hb2=>?_) (fun hb2=>?_)
  ·have hc2:=bp hb2
   refine g0_ (h:=g0_ (h:=g0_ (h:=g0_ (h:=pt_ (h:=e_ (cy_ (h:=q_ (w_ (m_ (h:=m_ (h:=gt_ (h:=e_ (?_)))))))))))))
   refine aw_cond rfl (fun hb3=>?_) (fun hb3=>?_)
   ·have hc3:=bp hb3
    have hnx:=sp_app hI (by omega) (.inl (by omega)) (by omega)
    refine aw_region (m_ (h:=m_ (h:=m_ (h:=m_ (h:=?_)))))
    refine al_p rfl (st_sliceS (a:=f) (k:=k) Tryz.underlying9 rfl rfl rfl rfl rfl (by omega) (by omega) ?_)
    refine bs_ (h:=?_)
    first|refine al_p rfl (s_append rfl rfl rfl (by simp;omega) (by repeat constructor) ?_)|refine al_p rfl (s_append0 rfl rfl (by simp;omega) (by repeat constructor) ?_)
    refine a_ (h:=e_ (aw_region (m_ (h:=ad_ (h:=a_ (h:=al_nil (x_blockN (t_ (aw_region (m_ (h:=ad_ (h:=a_ (h:=al_nil (?_))))))))))))))
    refine x_then ?_
    refine⟨_,_,?_,⟨_,k+1,_,by omega,by omega,(by(try simp only[List.length_append,List.length_cons,List.length_nil]);omega),rfl,hnx,rfl⟩,(by(try simp only[List.map_append,List.map_cons,List.map_nil]);exact weak_of 0 1 rfl rfl rfl rfl ((by repeat (first|exact Sub.nil|refine Sub.cons _ _ _ rfl rfl ?_|refine Sub.any _ _ ?_|refine Sub.sl _ _ _ _ _ rfl ?_|refine Sub.slnil _ _ _ rfl ?_))))⟩
    omega
   have hc3:=bp hb3
   have hnx:=sp_app0 hI (.inl (by omega)) (by omega)
   refine kt_ (aw_region (m_ (h:=ad_ (h:=a_ (h:=al_nil (x_blockN (t_ (aw_region (m_ (h:=ad_ (h:=a_ (h:=al_nil (?_)))))))))))))
   refine x_then ?_
   refine⟨_,_,?_,⟨_,k+1,_,by omega,by omega,(by(try simp only[List.length_append,List.length_cons,List.length_nil]);omega),rfl,hnx,rfl⟩,(by(try simp only[List.map_append,List.map_cons,List.map_nil]);exact weak_of 0 1 rfl rfl rfl rfl ((by repeat (first|exact Sub.nil|refine Sub.cons _ _ _ rfl rfl ?_|refine Sub.any _ _ ?_|refine Sub.sl _ _ _ _ _ rfl ?_|refine Sub.slnil _ _ _ rfl ?_))))⟩
   omega
  have hc2:=bp hb2
  refine m_ (h:=m_ (h:=?_))
  refine g_y (st_strIdx (n:=k) Tryz.underlying9 rfl rfl rfl (by omega) ?_)
  refine eq_ (h:=pf_ (h:=e_ (?_)))
  refine aw_cond rfl (fun hb4=>?_) (fun hb4=>?_)
  ·have hc4:=bp hb4
   refine q_ (w_ (m_ (h:=m_ (h:=gt_ (h:=e_ (?_))))))
   refine aw_cond rfl (fun hb5=>?_) (fun hb5=>?_)
   ·have hc5:=bp hb5
    have hnx:=sp_app hI (by omega) (.inr (byte_at (by omega) hc4)) (by omega)
    refine aw_region (m_ (h:=m_ (h:=m_ (h:=m_ (h:=?_)))))
    refine al_p rfl (st_sliceS (a:=f) (k:=k) Tryz.underlying9 rfl rfl rfl rfl rfl (by omega) (by omega) ?_)
    refine bs_ (h:=?_)
    first|refine al_p rfl (s_append rfl rfl rfl (by simp;omega) (by repeat constructor) ?_)|refine al_p rfl (s_append0 rfl rfl (by simp;omega) (by repeat constructor) ?_)
    refine a_ (h:=e_ (aw_region (m_ (h:=ad_ (h:=a_ (h:=al_nil (x_blockN (t_ (aw_region (m_ (h:=ad_ (h:=a_ (h:=al_nil (?_))))))))))))))
    refine x_then ?_
    refine⟨_,_,?_,⟨_,k+1,_,by omega,by omega,(by(try simp only[List.length_append,List.length_cons,List.length_nil]);omega),rfl,hnx,rfl⟩,(by(try simp only[List.map_append,List.map_cons,List.map_nil]);exact weak_of 0 1 rfl rfl rfl rfl ((by repeat (first|exact Sub.nil|refine Sub.cons _ _ _ rfl rfl ?_|refine Sub.any _ _ ?_|refine Sub.sl _ _ _ _ _ rfl ?_|refine Sub.slnil _ _ _ rfl ?_))))⟩
    omega
   have hc5:=bp hb5
   have hnx:=sp_app0 hI (.inr (byte_at (by omega) hc4)) (by omega)
   refine kt_ (aw_region (m_ (h:=ad_ (h:=a_ (h:=al_nil (x_blockN (t_ (aw_region (m_ (h:=ad_ (h:=a_ (h:=al_nil (?_)))))))))))))
   refine x_then ?_
   refine⟨_,_,?_,⟨_,k+1,_,by omega,by omega,(by(try simp only[List.length_append,List.length_cons,List.length_nil]);omega),rfl,hnx,rfl⟩,(by(try simp only[List.map_append,List.map_cons,List.map_nil]);exact weak_of 0 1 rfl rfl rfl rfl ((by repeat (first|exact Sub.nil|refine Sub.cons _ _ _ rfl rfl ?_|refine Sub.any _ _ ?_|refine Sub.sl _ _ _ _ _ rfl ?_|refine Sub.slnil _ _ _ rfl ?_))))⟩
   omega
  have hc4:=bp hb4
  have hnx:=sp_next hI (by omega) hc4
  refine aw_skip (x_blockN (t_ (aw_region (m_ (h:=ad_ (h:=a_ (h:=al_nil (?_))))))))
  refine x_then ?_
  refine⟨_,_,?_,⟨_,k+1,_,by omega,by omega,(by(try simp only[List.length_append,List.length_cons,List.length_nil]);omega),rfl,hnx,rfl⟩,(by(try simp only[List.map_append,List.map_cons,List.map_nil]);exact weak_of 0 1 rfl rfl rfl rfl ((by repeat (first|exact Sub.nil|refine Sub.cons _ _ _ rfl rfl ?_|refine Sub.any _ _ ?_|refine Sub.sl _ _ _ _ _ rfl ?_|refine Sub.slnil _ _ _ rfl ?_))))⟩
  omega
 have hc1:=bp hb1
 refine aw_exit (x_thenE (x_thenE (ABlock_out (t_ (q_ (yr_ 23 (h:=dm_ 0 (h:=dm_ 1 (h:=dn_ 2 (h:=dgt_ 3 (h:=dm_ 4 (h:=?_))))))))))))
 refine aa_both (j:=4) rfl (fun hb6=>?_) (fun hb6=>?_)
 ·have hc6:=bp hb6
  refine dm_ 5 (h:=?_)
  refine r_y (i:=6) rfl (st_strIdx (n:=0) Tryz.underlying9 rfl rfl rfl (by omega) ⟨rfl,rfl⟩) ?_
  refine deq_ 7 (h:=dpt_ 8 (h:=dm_ 9 (h:=dn_ 10 (h:=dgt_ 11 (h:=dm_ 12 (h:=?_))))))
  refine aa_both (j:=12) rfl (fun hb7=>?_) (fun hb7=>?_)
  ·have hc7:=bp hb7
   refine dm_ 13 (h:=dm_ 14 (h:=dn_ 15 (h:=dsb_ 16 (h:=?_))))
   refine r_y (i:=17) rfl (st_strIdx (n:=s.size - 1) Tryz.underlying9 rfl rfl (by omega) (by omega) ⟨rfl,rfl⟩) ?_
   refine deq_ 18 (h:=dpt_ 19 (h:=da_ 20 (h:=da_ 21 (h:=da_ 22 (h:=z_ (h:=t_ (aw_ret (?_))))))))
   refine e_ret ?_
   refine⟨ps,splitI_done hI (by omega),?_⟩
   first|(rw[hd_pos (by omega),ls_pos (by omega)];rfl)|(rw[hd_nil (by omega),ls_nil (by omega)];rfl)|(exfalso;omega)
  have hc7:=bp hb7
  refine d0_ 13 (h:=d0_ 14 (h:=d0_ 15 (h:=d0_ 16 (h:=d0_ 17 (h:=d0_ 18 (h:=dpf_ 19 (h:=da_ 20 (h:=da_ 21 (h:=da_ 22 (h:=z_ (h:=t_ (aw_ret (?_)))))))))))))
  refine e_ret ?_
  refine⟨ps,splitI_done hI (by omega),?_⟩
  first|(rw[hd_pos (by omega),ls_pos (by omega)];rfl)|(rw[hd_nil (by omega),ls_nil (by omega)];rfl)|(exfalso;omega)
 have hc6:=bp hb6
 refine d0_ 5 (h:=d0_ 6 (h:=d0_ 7 (h:=dpf_ 8 (h:=dm_ 9 (h:=dn_ 10 (h:=dgt_ 11 (h:=dm_ 12 (h:=?_))))))))
 refine aa_both (j:=12) rfl (fun hb8=>?_) (fun hb8=>?_)
 ·have hc8:=bp hb8
  refine dm_ 13 (h:=dm_ 14 (h:=dn_ 15 (h:=dsb_ 16 (h:=?_))))
  refine r_y (i:=17) rfl (st_strIdx (n:=s.size - 1) Tryz.underlying9 rfl rfl (by omega) (by omega) ⟨rfl,rfl⟩) ?_
  refine deq_ 18 (h:=dpt_ 19 (h:=da_ 20 (h:=da_ 21 (h:=da_ 22 (h:=z_ (h:=t_ (aw_ret (?_))))))))
  refine e_ret ?_
  refine⟨ps,splitI_done hI (by omega),?_⟩
  first|(rw[hd_pos (by omega),ls_pos (by omega)];rfl)|(rw[hd_nil (by omega),ls_nil (by omega)];rfl)|(exfalso;omega)
 have hc8:=bp hb8
 refine d0_ 13 (h:=d0_ 14 (h:=d0_ 15 (h:=d0_ 16 (h:=d0_ 17 (h:=d0_ 18 (h:=dpf_ 19 (h:=da_ 20 (h:=da_ 21 (h:=da_ 22 (h:=z_ (h:=t_ (aw_ret (?_)))))))))))))
 refine e_ret ?_
 refine⟨ps,splitI_done hI (by omega),?_⟩
 first|(rw[hd_pos (by omega),ls_pos (by omega)];rfl)|(rw[hd_nil (by omega),ls_nil (by omega)];rfl)|(exfalso;omega)
theorem Rclean(s:Str)(hs:s.size≤50000):AFn Tryz.prog 55 [.v (.string s)] (fun r=>r= .v (.bool (cleanL s.data.toList))):=by
 have hsz:=Lib.size_eq s
 refine enter Tryz.func55 rfl rfl rfl rfl rfl 0 rfl ?_
 refine w_ (a_ (h:=e_ (w_ (m_ (h:=?_)))))
 refine al_p rfl (q_call (Rsplit s (by omega)) ?_)
 rintro r ⟨ps,hps,rfl⟩
 have hpl:(ps.map strA).length=ps.length:=by simp
 have hfl:=flat_pieces s.data.toList
 rw[←hps]at hfl
 have hpm:=ps_len ps
 refine m_ (h:=x_ (h:=x_ (h:=x_ (h:=a_ (h:=a_ (h:=a_ (h:=e_ (w_ (a_ (h:=e_ (q_ (w_ (a_ (h:=e_ (aw_block (?_))))))))))))))))
 refine aw_loopW (fun m t=>∃(j:Nat) (t1:Str),j≤ps.length∧m=ps.length - j∧(∀i y,i<j→ps[i]?=some y→nameL y=true)∧t1.data.toList=flatS ((bsL ps).take j)∧t=⟨look [(0, .v (.string s)),(3, .sl 1 (ps.map strA) none),(6, .v (.string t1)),(7, .v (.int .i64 (j:Int)))],⟨[],[]⟩⟩) (ps.length) ((wk 0 0)) (⟨0,⟨#[]⟩,by omega,rfl,fun i y hi=>by omega,rfl,rfl⟩) ?_
 rintro m t ⟨j,t1,hj,rfl,ha,ht1,rfl⟩
 refine q_ (w_ (m_ (h:=m_ (h:=n_ (h:=lt_ (h:=e_ (?_)))))))
 refine aw_cond rfl (fun hb1=>?_) (fun hb1=>?_)
 ·have hc1:=bp hb1
  obtain⟨hlt,x,hy,hrow, -⟩:=row_at strA hc1
  have ht2:t1.size≤s.size+1:=by rw[Lib.size_eq,ht1];exact Nat.le_trans (flat_take _ _) (by omega)
  refine kt_ (q_ (aw_block (q_ (w_ (m_ (h:=m_ (h:=?_)))))))
  refine al_p rfl (st_index (n:=j) rfl rfl rfl hrow ?_)
  refine l_ (h:=?_)
  refine al_p rfl (q_call (Rname x (by have:=piece_mem hps hy;omega)) ?_)
  rintro r rfl
  refine nt_ (h:=e_ (?_))
  refine aw_cond rfl (fun hb2=>?_) (fun hb2=>?_)
  ·have hc2:=bp hb2
   refine w_ (a_ (h:=e_ (aw_ret (x_thenR (x_blockR (x_thenR (x_thenR (x_blockR (x_thenR (?_))))))))))
   refine e_ret ?_
   exact vb (clean_no hps hy hc2).symm
  have hc2:=bp hb2
  refine kt_ (aw_region (m_ (h:=m_ (h:=m_ (h:=?_)))))
  refine al_p rfl (st_index (n:=j) rfl rfl rfl hrow ?_)
  refine l_ (h:=?_)
  refine al_p rfl (st_addS rfl rfl (by have:=piece_mem hps hy;show 1+x.size≤_;omega) ?_)
  refine al_p rfl (st_addS rfl rfl (by have:=piece_mem hps hy;rw[ByteArray.size_append];show t1.size+(1+x.size)≤_;omega) ?_)
  refine a_ (h:=al_nil (x_blockN (t_ (aw_region (m_ (h:=ad_ (h:=a_ (h:=al_nil (?_)))))))))
  refine x_then ?_
  refine⟨_,_,?_,⟨j+1,t1++(⟨#[47]⟩++x),by omega,rfl,upto_snoc hy ha hc2,flat_next hy ht1,rfl⟩,(wk 0 0)⟩
  omega
 have hc1:=bp hb1
 refine aw_exit (x_thenE (x_thenE (ABlock_out (t_ (w_ (m_ (h:=eq_ (h:=m_ (h:=?_)))))))))
 refine al_gs false rfl rfl (fun hb3=>?_) (fun hb3=>?_)
 ·have hc3:=bp hb3
  refine g0_ (h:=g0_ (h:=g0_ (h:=g0_ (h:=gu_ (h:=gu_ (h:=gu_ (h:=g0_ (h:=pt_ (h:=a_ (h:=e_ (aw_ret (?_))))))))))))
  refine e_ret ?_
  exact vb (by rw[hc3];rfl)
 have hc3:=bp hb3
 refine m_ (h:=n_ (h:=gt_ (h:=m_ (h:=?_))))
 refine al_gs true rfl rfl (fun hb4=>?_) (fun hb4=>?_)
 ·have hc4:=bp hb4
  refine m_ (h:=m_ (h:=eq_ (h:=pt_ (h:=pf_ (h:=a_ (h:=e_ (aw_ret (?_))))))))
  refine e_ret ?_
  have e:=row_no strA hj hc1
  subst e
  exact vb (clean_res hps ha ht1 hc3 (by omega)).symm
 have hc4:=bp hb4
 refine g0_ (h:=g0_ (h:=g0_ (h:=pf_ (h:=pf_ (h:=a_ (h:=e_ (aw_ret (?_))))))))
 refine e_ret ?_
 have e:=row_no strA hj hc1
 subst e
 exact vb (clean_nil hps hc3 (by omega)).symm
end
theorem dir_ino{f:Fls}{a:Fil}(h:dirL f a=true):(nodG f a).ino=a.2:=by
 obtain⟨q,d,m,_,_,_,h4,h5,_⟩:=dir_node (f:=f) (a:=a) (by rw[h];simp)
 rw[h5,h4]
theorem on_get{s:Spc}{d:Int}(h:(onL s d).isSome=true):onL s d=some ((onL s d).getD (0,0)):=by
 cases ho:onL s d with
 |none=>rw[ho]at h;cases h
 |some o=>rfl
theorem on_no{s:Spc}{d:Int}(h:(onL s d).isSome=false):onL s d=none:=by
 cases ho:onL s d with
 |none=>rfl
 |some o=>rw[ho]at h;cases h
theorem up_no{s:Spc}{a:Fil}(k:Nat)(h:dirL s.files a=false):upF s (k+1) a=(0,0):=by unfold upF;rw[h];rfl
theorem up_in{s:Spc}{a:Fil}(k:Nat)(h:dirL s.files a=true)(h1:¬a.2=1):upF s (k+1) a=(a.1,(nodG s.files a).parent):=by unfold upF;rw[if_pos h,if_pos h1]
theorem up_on{s:Spc}{a:Fil}(k:Nat)(h:dirL s.files a=true)(h1:a.2=1)(ho:(onL s a.1).isSome=true):upF s (k+1) a=upF s k ((onL s a.1).getD (0,0)):=by
 conv=>lhs;unfold upF
 rw[if_pos h,if_neg (by simpa using h1),on_get ho]
 rfl
theorem up_root{s:Spc}{a:Fil}(k:Nat)(h:dirL s.files a=true)(h1:a.2=1)(ho:(onL s a.1).isSome=false):upF s (k+1) a=a:=by
 conv=>lhs;unfold upF
 rw[if_pos h,if_neg (by simpa using h1),on_no ho]
section
set_option maxRecDepth 10000
set_option maxHeartbeats 1000000
theorem Rwhere_step{s:Spc}(hs:SpcB s)(hv:SpcV s)(a:Fil)
    (hrec:dirL s.files a=true→∀b,stepR s a=some b→AFn Tryz.prog 102 [.agg (spcA s), .agg (filA b)] (fun r=>r= .tup [.v (.string (whereP s b).1), .v (.bool (whereP s b).2)])):
    AFn Tryz.prog 102 [.agg (spcA s), .agg (filA a)] (fun r=>r= .tup [.v (.string (whereP s a).1), .v (.bool (whereP s a).2)]):=by
 have hnm:=nmo_size hv.files a
 have hwz:=where_size hv
 refine enter Tryz.func102 rfl rfl rfl rfl rfl 0 rfl ?_
 refine w_ (b_ (h:=b_ (h:=a_ (h:=a_ (h:=e_ (q_ (w_ (f_ (h:=l_ (h:=l_ (h:=?_)))))))))))
 refine al_p rfl (q_call (Rdir s.files a hs.files) ?_)
 rintro r rfl
 refine nt_ (h:=m_ (h:=?_))
 refine al_gs false rfl rfl (fun hb1=>?_) (fun hb1=>?_)
 ·have hc1:=bp hb1
  refine g0_ (h:=g0_ (h:=g0_ (h:=g0_ (h:=g0_ (h:=pt_ (h:=e_ (cy_ (h:=w_ (a_ (h:=a_ (h:=e_ (aw_ret (x_thenR (?_))))))))))))))
  refine e_ret ?_
  first|(rw[where_no hv (by simp_all)];rfl)|(rw[hw1];first|rfl|(rw[←hw2];rfl))|(rw[h00,where_root hv (by rw[←h00];exact hc1)];rfl)
 have hc1:=bp hb1
 refine l_ (h:=f_ (h:=l_ (h:=?_)))
 refine g_y (q_call (Rmounted s a.1 hs) ?_)
 rintro r rfl
 refine nt_ (h:=pf_ (h:=e_ (?_)))
 refine aw_cond rfl (fun hb2=>?_) (fun hb2=>?_)
 ·have hc2:=bp hb2
  refine w_ (a_ (h:=a_ (h:=e_ (aw_ret (x_thenR (?_))))))
  refine e_ret ?_
  first|(rw[where_no hv (by simp_all)];rfl)|(rw[hw1];first|rfl|(rw[←hw2];rfl))|(rw[h00,where_root hv (by rw[←h00];exact hc1)];rfl)
 have hc2:=bp hb2
 refine kt_ (q_ (w_ (f_ (h:=l_ (h:=eq_ (h:=e_ (?_)))))))
 refine aw_cond rfl (fun hb3=>?_) (fun hb3=>?_)
 ·have hc3:=bp hb3
  refine q_ (w_ (l_ (h:=f_ (h:=l_ (h:=?_)))))
  refine al_p rfl (q_call (Ron s a.1 hs) ?_)
  rintro r rfl
  refine m_ (h:=x_ (h:=x_ (h:=al_ (h:=s_ (h:=a_ (h:=e_ (w_ (m_ (h:=e_ (?_))))))))))
  refine aw_cond rfl (fun hb4=>?_) (fun hb4=>?_)
  ·have hc4:=bp hb4
   have hst:stepR s a=some ((onL s a.1).getD (0,0)):=by unfold stepR;rw[if_neg (by simpa using hc3)];exact on_get hc4
   obtain⟨hw1,hw2⟩:=where_step hv hc1 hc2 (fun e=>by rw[e,on_zero hv]at hc4;cases hc4) hst
   rw[if_pos hc3]at hw1
   refine w_ (l_ (h:=l_ (h:=?_)))
   refine al_p rfl (q_call (hrec hc1 _ hst) ?_)
   rintro r rfl
   skip
   refine x_ (h:=x_ (h:=a_ (h:=a_ (h:=e_ (aw_ret (x_thenR (x_thenR (?_))))))))
   refine e_ret ?_
   first|(rw[where_no hv (by simp_all)];rfl)|(rw[hw1];first|rfl|(rw[←hw2];rfl))|(rw[h00,where_root hv (by rw[←h00];exact hc1)];rfl)
  have hc4:=bp hb4
  have h00:a=(0,1):=by
   refine Prod.ext ?_ hc3
   have:=hc2
   unfold mtdL at this
   rw[hc4,Bool.false_or]at this
   exact of_decide_eq_true this
  refine kt_ (w_ (a_ (h:=a_ (h:=e_ (aw_ret (x_thenR (?_)))))))
  refine e_ret ?_
  first|(rw[where_no hv (by simp_all)];rfl)|(rw[hw1];first|rfl|(rw[←hw2];rfl))|(rw[h00,where_root hv (by rw[←h00];exact hc1)];rfl)
 have hc3:=bp hb3
 have hst:stepR s a=some (a.1,(nodG s.files a).parent):=if_pos hc3
 obtain⟨hw1,hw2⟩:=where_step hv hc1 hc2 (fun e=>hc3 (by rw[e])) hst
 rw[if_neg hc3]at hw1
 refine kt_ (w_ (f_ (h:=l_ (h:=l_ (h:=?_)))))
 refine al_p rfl (q_call (Rnode s.files a hs.files) ?_)
 rintro r rfl
 refine m_ (h:=x_ (h:=x_ (h:=al_ (h:=s_ (h:=a_ (h:=e_ (w_ (l_ (h:=f_ (h:=l_ (h:=f_ (h:=l_ (h:=bd_ (h:=?_))))))))))))))
 refine al_p rfl (q_call (hrec hc1 _ hst) ?_)
 rintro r rfl
 skip
 refine m_ (h:=x_ (h:=x_ (h:=a_ (h:=a_ (h:=e_ (w_ (m_ (h:=f_ (h:=l_ (h:=l_ (h:=?_)))))))))))
 refine al_p rfl (q_call (RnameR s a hs) ?_)
 rintro r rfl
 refine al_p rfl (q_call (RjoinR (whereP s (a.1,(nodG s.files a).parent)).1 (nmoL s a) (by have:=hwz (a.1,(nodG s.files a).parent);omega) (by omega)) ?_)
 rintro r rfl
 refine m_ (h:=a_ (h:=a_ (h:=e_ (aw_ret (?_)))))
 refine e_ret ?_
 first|(rw[where_no hv (by simp_all)];rfl)|(rw[hw1];first|rfl|(rw[←hw2];rfl))|(rw[h00,where_root hv (by rw[←h00];exact hc1)];rfl)
theorem Rwhere{s:Spc}(hs:SpcB s)(hv:SpcV s)(a:Fil):AFn Tryz.prog 102 [.agg (spcA s), .agg (filA a)] (fun r=>r= .tup [.v (.string (whereP s a).1), .v (.bool (whereP s a).2)]):=by
 have key:∀(k:Nat) (a:Fil),ends s k a→AFn Tryz.prog 102 [.agg (spcA s), .agg (filA a)] (fun r=>r= .tup [.v (.string (whereP s a).1), .v (.bool (whereP s a).2)]):=by
  intro k
  induction k with
  |zero=>intro a h;exact Rwhere_step hs hv a fun hd=>by rw[show dirL s.files a=false from h]at hd;cases hd
  |succ k ih=>intro a h;exact Rwhere_step hs hv a fun hd b hb=>ih b (h.resolve_left (by rw[hd];simp) b hb)
 exact key _ a (ends_most hv a)
theorem Rup_step{s:Spc}(hs:SpcB s)(a:Fil)(p:Nat)(hrec:(onL s a.1).isSome=true→AFn Tryz.prog 101 [.agg (spcA s), .agg (filA ((onL s a.1).getD (0,0)))] (fun r=>r= .agg (filA (upF s p ((onL s a.1).getD (0,0)))))):
    AFn Tryz.prog 101 [.agg (spcA s), .agg (filA a)] (fun r=>r= .agg (filA (upF s (p+1) a))):=by
 have hde:=dirL_eq s.files a
 refine enter Tryz.func101 rfl rfl rfl rfl rfl 0 rfl ?_
 refine w_ (b_ (h:=b_ (h:=al_ (h:=e_ (w_ (f_ (h:=l_ (h:=l_ (h:=?_)))))))))
 refine al_p rfl (q_call (Rnode s.files a hs.files) ?_)
 rintro r rfl
 refine m_ (h:=x_ (h:=x_ (h:=al_ (h:=s_ (h:=a_ (h:=e_ (q_ (w_ (m_ (h:=nt_ (h:=m_ (h:=?_))))))))))))
 refine al_gs false rfl rfl (fun hb1=>?_) (fun hb1=>?_)
 ·have hc1:=bp hb1
  refine g0_ (h:=g0_ (h:=g0_ (h:=pt_ (h:=e_ (cy_ (h:=w_ (bd_ (h:=s_ (h:=e_ (aw_ret (x_thenR (?_))))))))))))
  refine e_ret ?_
  rw[up_no p (by rw[hde,hc1];rfl)]
  rfl
 have hc1:=bp hb1
 refine f_ (h:=l_ (h:=nq_ (h:=pf_ (h:=e_ (?_)))))
 refine aw_cond rfl (fun hb2=>?_) (fun hb2=>?_)
 ·have hc2:=bp hb2
  refine w_ (bd_ (h:=s_ (h:=e_ (aw_ret (x_thenR (?_))))))
  refine e_ret ?_
  rw[up_no p (by rw[hde,decide_eq_false hc2,Bool.and_false])]
  rfl
 have hc2:=bp hb2
 refine kt_ (q_ (w_ (f_ (h:=l_ (h:=nq_ (h:=e_ (?_)))))))
 refine aw_cond rfl (fun hb3=>?_) (fun hb3=>?_)
 ·have hc3:=bp hb3
  refine w_ (f_ (h:=l_ (h:=f_ (h:=l_ (h:=bd_ (h:=s_ (h:=e_ (aw_ret (x_thenR (?_))))))))))
  refine e_ret ?_
  rw[up_in p (by rw[hde,hc1,decide_eq_true hc2];rfl) hc3]
  rfl
 have hc3:=bp hb3
 refine kt_ (q_ (w_ (l_ (h:=f_ (h:=l_ (h:=?_))))))
 refine al_p rfl (q_call (Ron s a.1 hs) ?_)
 rintro r rfl
 refine m_ (h:=x_ (h:=x_ (h:=al_ (h:=s_ (h:=a_ (h:=e_ (w_ (m_ (h:=e_ (?_))))))))))
 refine aw_cond rfl (fun hb4=>?_) (fun hb4=>?_)
 ·have hc4:=bp hb4
  refine w_ (l_ (h:=l_ (h:=?_)))
  refine al_p rfl (q_call (hrec hc4) ?_)
  rintro r rfl
  refine s_ (h:=e_ (aw_ret (x_thenR (?_))))
  refine e_ret ?_
  rw[up_on p (by rw[hde,hc1,decide_eq_true hc2];rfl) hc3 hc4]
  rfl
 have hc4:=bp hb4
 refine kt_ (w_ (l_ (h:=s_ (h:=e_ (aw_ret (?_))))))
 refine e_ret ?_
 rw[up_root p (by rw[hde,hc1,decide_eq_true hc2];rfl) hc3 hc4]
 rfl
theorem Rup{s:Spc}(hs:SpcB s)(hv:SpcV s):∀(p:Nat) (a:Fil),posM s a.1<p→AFn Tryz.prog 101 [.agg (spcA s), .agg (filA a)] (fun r=>r= .agg (filA (upF s p a))):=by
 intro p
 induction p with
 |zero=>intro a h;omega
 |succ p ih=>intro a hp;exact Rup_step hs a p fun ho=>ih _ (by have:=pos_on hv (on_get ho);omega)
theorem PupS{s:Spc}(hs:SpcB s)(hv:SpcV s)(a:Fil):AFn Tryz.prog 135 [.agg (spcA s), .agg (filA a)] (fun r=>r= .agg (filA (upF s (s.mounts.length+1) a))):=by
 have hfew:=hs.few
 have hml:(s.mounts.map mntA).length=s.mounts.length:=by simp
 refine enter Tryz.func135 rfl rfl rfl rfl rfl 0 rfl ?_
 refine w_ (b_ (h:=b_ (h:=al_ (h:=e_ (q_ (w_ (f_ (h:=l_ (h:=n_ (h:=ad_ (h:=m_ (h:=e_ (aw_block (?_))))))))))))))
 refine aw_loopW (fun m t=>∃(j:Nat) (b:Fil),j≤s.mounts.length+1∧m=s.mounts.length+1 - j∧upF s (s.mounts.length+1 - j) b=upF s (s.mounts.length+1) a∧t=⟨look [(2, .bp 0 0),(3, .bp 1 0),(4, .bp 2 0),(11, .v (.int .i64 (((s.mounts.map mntA).length:Int)+1))),(12, .v (.int .i64 (j:Int)))],⟨[spcA s,filA b,[.v (.int .i64 0), .v (.int .i64 0)]],[]⟩⟩) (s.mounts.length+1) ((wk 3 0)) (⟨0,a,by omega,rfl,rfl,rfl⟩) ?_
 rintro m t ⟨j,b,hj,rfl,hit,rfl⟩
 have hde:=dirL_eq s.files b
 refine w_ (lt_ (h:=e_ (q_ (?_))))
 refine aw_cond rfl (fun hb1=>?_) (fun hb1=>?_)
 ·have hc1:=bp hb1
  obtain⟨k,hk⟩:∃k,s.mounts.length+1 - j=k+1:=⟨s.mounts.length - j,by omega⟩
  rw[hk]at hit
  refine kt_ (q_ (aw_block (w_ (f_ (h:=l_ (h:=l_ (h:=?_)))))))
  refine al_p rfl (q_call (Pnode s.files b hs.files) ?_)
  rintro r rfl
  refine m_ (h:=x_ (h:=x_ (h:=al_ (h:=s_ (h:=a_ (h:=e_ (q_ (w_ (m_ (h:=nt_ (h:=m_ (h:=?_))))))))))))
  refine al_gs false rfl rfl (fun hb2=>?_) (fun hb2=>?_)
  ·have hc2:=bp hb2
   refine g0_ (h:=g0_ (h:=g0_ (h:=pt_ (h:=e_ (cy_ (h:=w_ (bd_ (h:=s_ (h:=e_ (aw_ret (x_thenR (x_blockR (x_thenR (x_thenR (x_blockR (x_thenR (?_)))))))))))))))))
   refine e_ret ?_
   rw[←hit,up_no k (by rw[hde,hc2];rfl)]
   rfl
  have hc2:=bp hb2
  refine f_ (h:=l_ (h:=nq_ (h:=pf_ (h:=e_ (?_)))))
  refine aw_cond rfl (fun hb3=>?_) (fun hb3=>?_)
  ·have hc3:=bp hb3
   refine w_ (bd_ (h:=s_ (h:=e_ (aw_ret (x_thenR (x_blockR (x_thenR (x_thenR (x_blockR (x_thenR (?_)))))))))))
   refine e_ret ?_
   rw[←hit,up_no k (by rw[hde,decide_eq_false hc3,Bool.and_false])]
   rfl
  have hc3:=bp hb3
  refine kt_ (q_ (w_ (f_ (h:=l_ (h:=nq_ (h:=e_ (?_)))))))
  refine aw_cond rfl (fun hb4=>?_) (fun hb4=>?_)
  ·have hc4:=bp hb4
   have hdd:dirL s.files b=true:=by rw[hde,hc2,decide_eq_true hc3];rfl
   have hb1:¬b.2=1:=by rw[←dir_ino hdd];exact hc4
   refine w_ (f_ (h:=l_ (h:=f_ (h:=l_ (h:=bd_ (h:=s_ (h:=e_ (aw_ret (x_thenR (x_blockR (x_thenR (x_thenR (x_blockR (x_thenR (?_)))))))))))))))
   refine e_ret ?_
   rw[←hit,up_in k hdd hb1]
   rfl
  have hc4:=bp hb4
  have hdd:dirL s.files b=true:=by rw[hde,hc2,decide_eq_true hc3];rfl
  have hb1:b.2=1:=by rw[←dir_ino hdd];exact hc4
  refine kt_ (w_ (l_ (h:=f_ (h:=l_ (h:=?_)))))
  refine al_p rfl (q_call (Pplace s b.1 hs) ?_)
  rintro r rfl
  refine m_ (h:=x_ (h:=x_ (h:=al_ (h:=s_ (h:=a_ (h:=e_ (q_ (w_ (m_ (h:=nt_ (h:=m_ (h:=?_))))))))))))
  refine al_gs false rfl rfl (fun hb5=>?_) (fun hb5=>?_)
  ·have hc5:=bp hb5
   refine g0_ (h:=g0_ (h:=g0_ (h:=pt_ (h:=e_ (cy_ (h:=w_ (l_ (h:=s_ (h:=e_ (aw_ret (x_thenR (x_blockR (x_thenR (x_thenR (x_blockR (x_thenR (?_)))))))))))))))))
   refine e_ret ?_
   rw[←hit,up_root k hdd hb1 hc5]
   rfl
  have hc5:=bp hb5
  refine f_ (h:=l_ (h:=eq_ (h:=pf_ (h:=e_ (?_)))))
  refine aw_cond rfl (fun hb6=>?_) (fun hb6=>?_)
  ·have hc6:=bp hb6
   refine w_ (l_ (h:=s_ (h:=e_ (aw_ret (x_thenR (x_blockR (x_thenR (x_thenR (x_blockR (x_thenR (?_)))))))))))
   refine e_ret ?_
   exfalso
   rw[hc6,on_zero hv]at hc5
   cases hc5
  have hc6:=bp hb6
  refine kt_ (aw_region (l_ (h:=s_ (h:=al_nil (x_blockN (t_ (aw_region (ad_ (h:=m_ (h:=al_nil (?_)))))))))))
  refine x_then ?_
  refine⟨_,_,?_,⟨j+1,((onL s b.1).getD (0,0)),by omega,rfl,(by rw[←hit,up_on k hdd hb1 hc5,show s.mounts.length+1 - (j+1)=k by omega]),rfl⟩,(wk 3 0)⟩
  omega
 have hc1:=bp hb1
 refine aw_exit (x_thenE (x_thenE (ABlock_out (t_ (w_ (l_ (h:=s_ (h:=e_ (aw_ret (?_))))))))))
 refine e_ret ?_
 have ej:s.mounts.length+1 - j=0:=by omega
 rw[ej]at hit
 rw[←hit]
 rfl
end
end Go.Proofs.YtbglbmnhgbgelaaGreatDoor
namespace Go.Proofs.YtbglbmnhgbgelaaGreatDoor
section
variable {s:Spc}(hv:SpcV s)
include hv
omit hv in
theorem where_ok{a:Fil}(h:(whereP s a).2=true):dirL s.files a=true∧mtdL s a.1=true:=by
 unfold whereP at h
 split at h
 ·rename_i c;exact⟨c.1,c.2.1⟩
 cases h
theorem root_dir{d:Int}(h0:0≤d)(h1:d<(s.files.length:Int)):dirL s.files (d,1)=true:=by
 obtain⟨q,rfl⟩:=Int.eq_ofNat_of_zero_le h0
 have hq:s.files[q]?=some s.files[q]:=List.getElem?_eq_getElem (by omega)
 obtain⟨r,rest,hr,h2,h3,_⟩:=(hv.files.vd _ (List.mem_of_getElem? hq)).root
 exact(dir_kind (node_in hv hq (by rw[hr];exact List.mem_cons_self ..) h2)).2 h3
end
end Go.Proofs.YtbglbmnhgbgelaaGreatDoor
namespace Go.Proofs.YtbglbmnhgbgelaaGreatDoor
structure Fnd where
 dir:Fil
 name:Str
 file:Fil
 ex:Bool
 slash:Bool
 path:Str
def fnd0:Fnd:=⟨(0,0),⟨#[]⟩,(0,0),false,false,⟨#[]⟩⟩
def fndA(x:Fnd):List AV:=[.v (.int .i64 x.dir.1), .v (.int .i64 x.dir.2), .v (.string x.name), .v (.int .i64 x.file.1), .v (.int .i64 x.file.2), .v (.bool x.ex), .v (.bool x.slash), .v (.string x.path)]
def splS(s:Str):List Str:=(pieces s.data.toList).map fun l=>⟨l.toArray⟩
theorem bls_splS(s:Str):bsL (splS s)=pieces s.data.toList:=by
 unfold bsL splS
 rw[List.map_map]
 have:((fun x:Str=>x.data.toList) ∘ fun l:Bs=>(⟨l.toArray⟩:Str))=id:=by funext l;simp
 rw[this,List.map_id]
theorem bls_inj:∀{a b:List Str},bsL a=bsL b→a=b
 |[],[],_=>rfl
 |[],_::_,h=>by simp[bsL]at h
 |_::_,[],h=>by simp[bsL]at h
 |x::a,y::b,h=>by
   simp only[bsL,List.map_cons,List.cons.injEq]at h
   rw[str_eqS h.1,bls_inj (a:=a) (b:=b) h.2]
theorem splS_of{s:Str}{ps:List Str}(h:bsL ps=pieces s.data.toList):ps=splS s:=bls_inj (h.trans (bls_splS s).symm)
theorem splS_len(s:Str):(splS s).length≤s.size+1:=by
 have h1:=ps_len (splS s)
 have h2:=flat_pieces s.data.toList
 rw[←bls_splS]at h2
 rw[Lib.size_eq]
 omega
def rootD(s:Spc):Fil:=itD s s.mounts.length (0,1)
structure Lk where
 ps:List Str
 dir:Fil
 name:Str
 file:Fil
 ex:Bool
 links:Nat
abbrev dot1:Str:=⟨#[46]⟩
abbrev dot2:Str:=⟨#[46,46]⟩
def lkS(s:Spc)(fl:Bool)(p:Str)(ps:List Str)(a:Fil)(lk:Nat):Int ⊕ Lk:=
 if dirL s.files a=false then .inl 20
 else if 12<p.size then .inl 36
 else if p=dot1 then .inr ⟨ps,a,⟨#[]⟩,a,true,lk⟩
 else if p=dot2 then .inr ⟨ps,itD s s.mounts.length (upF s (s.mounts.length+1) a),⟨#[]⟩,itD s s.mounts.length (upF s (s.mounts.length+1) a),true,lk⟩
 else if(lookL s.files a p).2≠0 then(if ps≠[]∨nameL p=false then .inl 2 else .inr ⟨[],a,p,(0,0),false,lk⟩)
 else if(nodG s.files (lookL s.files a p).1).kind=3∧(ps≠[]∨fl=true)then
  (if lk=8 then .inl 40 else
    .inr ⟨splS (nodG s.files (lookL s.files a p).1).target++ps,if hdL (nodG s.files (lookL s.files a p).1).target=true then rootD s else a,⟨#[]⟩,if hdL (nodG s.files (lookL s.files a p).1).target=true then rootD s else a,true,lk+1⟩)
 else .inr ⟨ps,a,p,itD s s.mounts.length (lookL s.files a p).1,true,lk⟩
def lkZ:Lk:=⟨[],(0,0),⟨#[]⟩,(0,0),false,0⟩
def lkG(s:Spc)(fl:Bool):Nat→Lk→Int×Lk
 |0,σ=>(0,σ)
 |k+1,σ=>match σ.ps with
   |[]=>(0,σ)
   |p::ps=>match lkS s fl p ps σ.file σ.links with
     | .inl e=>(e,lkZ)
     | .inr τ=>lkG s fl k τ
def lkM(σ:Lk):Nat:=(8 - σ.links) * 200+σ.ps.length
section
variable {s:Spc}(hv:FlsV s.files)
include hv
theorem lk_less{fl:Bool}{p:Str}{ps:List Str}{a:Fil}{lk:Nat}{τ:Lk}(h8:lk≤8)(h:lkS s fl p ps a lk= .inr τ):τ.links≤8∧lkM τ<(8 - lk) * 200+(ps.length+1):=by
 unfold lkS at h
 split at h
 ·cases h
 split at h
 ·cases h
 split at h
 ·injection h with h;subst h;exact⟨h8,by unfold lkM;simp only;omega⟩
 split at h
 ·injection h with h;subst h;exact⟨h8,by unfold lkM;simp only;omega⟩
 split at h
 ·split at h
  ·cases h
  injection h with h;subst h;exact⟨h8,by unfold lkM;simp only[List.length_nil];omega⟩
 split at h
 ·split at h
  ·cases h
  rename_i h9
  injection h with h
  subst h
  have ht:=nodG_target hv (lookL s.files a p).1
  have hl:=splS_len (nodG s.files (lookL s.files a p).1).target
  refine⟨by simp only;omega,?_⟩
  unfold lkM
  simp only[List.length_append]
  have:(8 - lk) * 200=(8 - (lk+1)) * 200+200:=by
   rw[show 8 - lk=(8 - (lk+1))+1 by omega,Nat.add_mul]
  omega
 injection h with h;subst h;exact⟨h8,by unfold lkM;simp only;omega⟩
theorem lk_irr(fl:Bool):∀(k k':Nat) (σ:Lk),σ.links≤8→lkM σ≤k→lkM σ≤k'→lkG s fl k σ=lkG s fl k' σ:=by
 intro k
 induction k with
 |zero=>
   intro k' σ h8 h h'
   have he:σ.ps=[]:=by
    unfold lkM at h
    exact List.eq_nil_of_length_eq_zero (by omega)
   cases k' with
   |zero=>rfl
   |succ k'=>unfold lkG;rw[he]
 |succ k ih=>
   intro k' σ h8 h h'
   cases hps:σ.ps with
   |nil=>cases k'<;>(unfold lkG;rw[hps])
   |cons p ps=>
     have hm:lkM σ=(8 - σ.links) * 200+(ps.length+1):=by unfold lkM;rw[hps];rfl
     cases k' with
     |zero=>rw[hm]at h';omega
     |succ k'=>
       unfold lkG
       rw[hps]
       simp only
       cases hs:lkS s fl p ps σ.file σ.links with
       |inl e=>rfl
       |inr τ=>
         simp only
         obtain⟨h1,h2⟩:=lk_less hv h8 hs
         exact ih k' τ h1 (by omega) (by omega)
end
def lkT(s:Spc)(fl:Bool)(σ:Lk):Int×Lk:=lkG s fl (lkM σ) σ
theorem lkT_nil{s:Spc}{fl:Bool}{σ:Lk}(h:σ.ps=[]):lkT s fl σ=(0,σ):=by
 unfold lkT
 cases lkM σ with
 |zero=>rfl
 |succ k=>unfold lkG;rw[h]
theorem lkT_cons{s:Spc}(hv:FlsV s.files){fl:Bool}{σ:Lk}{p:Str}{ps:List Str}(h8:σ.links≤8)(h:σ.ps=p::ps):lkT s fl σ=match lkS s fl p ps σ.file σ.links with
    | .inl e=>(e,lkZ)
    | .inr τ=>lkT s fl τ:=by
 have hm:lkM σ=((8 - σ.links) * 200+ps.length)+1:=by unfold lkM;rw[h];rfl
 unfold lkT
 rw[hm]
 conv=>lhs;unfold lkG
 rw[h]
 simp only
 cases hs:lkS s fl p ps σ.file σ.links with
 |inl e=>rfl
 |inr τ=>
   simp only
   obtain⟨h1,h2⟩:=lk_less hv h8 hs
   exact lk_irr hv fl _ _ τ h1 (by omega) (Nat.le_refl _)
def fndOf(s:Spc)(sl:Bool)(τ:Lk):Fnd:=⟨τ.dir,τ.name,τ.file,τ.ex,sl,if(whereP s τ.dir).2=true then(if τ.name=⟨#[]⟩then(whereP s τ.dir).1 else joinS (whereP s τ.dir).1 τ.name)else⟨#[]⟩⟩
def lk0(ps:List Str)(a:Fil):Lk:=⟨ps,a,⟨#[]⟩,a,true,0⟩
def findL(s:Spc)(start:Fil)(p:Str)(fl:Bool):Fnd×Int:=
 if p=⟨#[]⟩then(fnd0,2)else if 128<p.size then(fnd0,36)
 else if dirL s.files (if hdL p=true then rootD s else start)=false then(fnd0,2)
 else if(lkT s (fl||lsL p) (lk0 (splS p) (if hdL p=true then rootD s else start))).1≠0 then(fnd0,(lkT s (fl||lsL p) (lk0 (splS p) (if hdL p=true then rootD s else start))).1)
 else if lsL p=true∧(lkT s (fl||lsL p) (lk0 (splS p) (if hdL p=true then rootD s else start))).2.ex=true∧dirL s.files (lkT s (fl||lsL p) (lk0 (splS p) (if hdL p=true then rootD s else start))).2.file=false then(fnd0,20)
 else(fndOf s (lsL p) (lkT s (fl||lsL p) (lk0 (splS p) (if hdL p=true then rootD s else start))).2,0)
end Go.Proofs.YtbglbmnhgbgelaaGreatDoor
namespace Go.Proofs.YtbglbmnhgbgelaaGreatDoor
open Go.RowKit
structure Dsc where
 fd:Int
 file:Fil
 flags:Int
structure Prc where
 pid:Int
 ppid:Int
 uid:Int
 euid:Int
 gid:Int
 egid:Int
 auid:Int
 ses:Int
 cwd:Fil
 comm:Str
 exe:Str
 opens:List Dsc
 audited:Bool
structure Tab where
 next:Int
 nextS:Int
 ps:List Prc
structure Syst where
 spc:Spc
 tab:Tab
structure Cal where
 num:Int
 a0:Int
 a1:Int
 a2:Int
 a3:Int
 paths:List Str
 args:List Str
structure Res where
 exit:Int
 child:Int
 gone:Int
 items:List Itm
 changes:List Chg
structure Wrk where
 s:Syst
 p:Prc
 c:Cal
 found:List Fnd
 r:Res
def prc0:Prc:=⟨0,0,0,0,0,0,0,0,(0,0),⟨#[]⟩,⟨#[]⟩,[],false⟩
def tab0:Tab:=⟨0,0,[]⟩
def res0:Res:=⟨0,0,0,[],[]⟩
def tabN(cwd:Fil):Tab:=⟨2,1,[⟨1,0,0,0,0,0,4294967295,4294967295,cwd,⟨#[105,110,105,116]⟩,⟨#[47,105,110,105,116]⟩,[],true⟩]⟩
def getT(t:Tab)(pid:Int):Option Prc:=t.ps.find? fun p=>decide (p.pid=pid)
def hasT(t:Tab)(pid:Int):Bool:=(getT t pid).isSome
def gotT(t:Tab)(pid:Int):Prc:=(getT t pid).getD prc0
def putT(t:Tab)(p:Prc):Tab:=⟨t.next,t.nextS,t.ps.map fun x=>if x.pid=p.pid then p else x⟩
def forkT(t:Tab)(pid:Int):Tab×Int×Int:=
 if hasT t pid=false then(tab0,0,3)else if 16≤(t.ps.length:Int)∨t.next=1073741824 then(tab0,0,11)
 else(⟨t.next+1,t.nextS,t.ps++[{gotT t pid with pid:=t.next,ppid:=pid}]⟩,t.next,0)
def orphP(pid:Int)(p:Prc):Prc:=if p.ppid=pid then{p with ppid:=1}else p
def exitT(t:Tab)(pid:Int):Tab×Int:=
 if hasT t pid=false then(tab0,3)else if pid=1 then(tab0,1)
 else(⟨t.next,t.nextS,(t.ps.filter fun p=>decide (p.pid≠pid)).map (orphP pid)⟩,0)
def chgI(priv:Bool)(real eff n:Int):Int×Int×Int:=if priv=true then(n,n,0)else if n=real∨n=eff then(real,n,0)else(0,0,1)
def idK(n:Int):Bool:=decide (0≤n)&&decide (n<4294967295)
def setuidT(t:Tab)(pid u:Int):Tab×Int:=
 if hasT t pid=false then(tab0,3)else if idK u=false then(tab0,22)
 else if(chgI (decide ((gotT t pid).euid=0)) (gotT t pid).uid (gotT t pid).euid u).2.2≠0 then(tab0,(chgI (decide ((gotT t pid).euid=0)) (gotT t pid).uid (gotT t pid).euid u).2.2)
 else(putT t {gotT t pid with uid:=(chgI (decide ((gotT t pid).euid=0)) (gotT t pid).uid (gotT t pid).euid u).1,euid:=(chgI (decide ((gotT t pid).euid=0)) (gotT t pid).uid (gotT t pid).euid u).2.1},0)
def setgidT(t:Tab)(pid u:Int):Tab×Int:=
 if hasT t pid=false then(tab0,3)else if idK u=false then(tab0,22)
 else if(chgI (decide ((gotT t pid).euid=0)) (gotT t pid).gid (gotT t pid).egid u).2.2≠0 then(tab0,(chgI (decide ((gotT t pid).euid=0)) (gotT t pid).gid (gotT t pid).egid u).2.2)
 else(putT t {gotT t pid with gid:=(chgI (decide ((gotT t pid).euid=0)) (gotT t pid).gid (gotT t pid).egid u).1,egid:=(chgI (decide ((gotT t pid).euid=0)) (gotT t pid).gid (gotT t pid).egid u).2.1},0)
def loginT(t:Tab)(pid auid:Int):Tab×Int:=
 if hasT t pid=false then(tab0,3)else if idK auid=false then(tab0,22)
 else if(gotT t pid).auid≠4294967295∧(gotT t pid).euid≠0 then(tab0,1)else if t.nextS=1073741824 then(tab0,11)
 else(⟨t.next,t.nextS+1,(putT t {gotT t pid with auid:=auid,ses:=t.nextS}).ps⟩,0)
def fdG:Nat→List Dsc→Nat
 |k,[]=>k
 |k,d::r=>if d.fd=(k:Int)then fdG (k+1) r else k
def insD(l:List Dsc)(fd:Nat)(x:Dsc):List Dsc:=l.take fd++x::l.drop fd
def openT(t:Tab)(pid:Int)(a:Fil)(flags:Int):Tab×Int×Int:=
 if hasT t pid=false then(tab0,0,3)else if 8≤((gotT t pid).opens.length:Int)then(tab0,0,24)
 else(putT t {gotT t pid with opens:=insD (gotT t pid).opens (fdG 0 (gotT t pid).opens) ⟨(fdG 0 (gotT t pid).opens:Nat),a,flags⟩},(fdG 0 (gotT t pid).opens:Nat),0)
def closeT(t:Tab)(pid fd:Int):Tab×Int:=
 if hasT t pid=false then(tab0,3)else if(((gotT t pid).opens.filter fun d=>decide (d.fd≠fd)).length:Int)=((gotT t pid).opens.length:Int)then(tab0,9)
 else(putT t {gotT t pid with opens:=(gotT t pid).opens.filter fun d=>decide (d.fd≠fd)},0)
def chdirT(t:Tab)(pid:Int)(dir:Fil):Tab×Int:=if hasT t pid=false then(tab0,3)else(putT t {gotT t pid with cwd:=dir},0)
def execT(t:Tab)(pid:Int)(exe comm:Str):Tab×Int:=if hasT t pid=false then(tab0,3)else(putT t {gotT t pid with exe:=exe,comm:=comm},0)
def killT(t:Tab)(pid target:Int)(ends:Bool):Tab×Int:=
 if hasT t pid=false then(tab0,3)else if hasT t target=false then(tab0,3)
 else if target=1∨(gotT t pid).euid≠0∧(gotT t pid).euid≠(gotT t target).uid then(tab0,1)
 else if ends=true then exitT t target else(t,0)
def rowsK:List (Str×Int×Int×Int×Int):=[(⟨#[102,111,114,107]⟩,0,0,0,0),
 (⟨#[101,120,101,99,118,101]⟩,0,1,0,4),
 (⟨#[101,120,105,116]⟩,1,0,0,0),
 (⟨#[115,101,116,117,105,100]⟩,1,0,0,0),
 (⟨#[115,101,116,103,105,100]⟩,1,0,0,0),
 (⟨#[108,111,103,105,110]⟩,1,0,0,0),
 (⟨#[111,112,101,110]⟩,2,1,0,0),
 (⟨#[99,108,111,115,101]⟩,1,0,0,0),
 (⟨#[108,105,110,107]⟩,0,2,0,0),
 (⟨#[115,121,109,108,105,110,107]⟩,0,1,1,1),
 (⟨#[117,110,108,105,110,107]⟩,0,1,0,0),
 (⟨#[109,107,100,105,114]⟩,1,1,0,0),
 (⟨#[114,109,100,105,114]⟩,0,1,0,0),
 (⟨#[114,101,110,97,109,101]⟩,0,2,0,0),
 (⟨#[99,104,109,111,100]⟩,1,1,0,0),
 (⟨#[99,104,111,119,110]⟩,2,1,0,0),
 (⟨#[99,104,100,105,114]⟩,0,1,0,0),
 (⟨#[109,111,117,110,116]⟩,1,1,0,0),
 (⟨#[117,109,111,117,110,116]⟩,1,0,0,0),
 (⟨#[99,111,110,110,101,99,116]⟩,1,0,1,1),
 (⟨#[107,105,108,108]⟩,2,0,0,0),
 (⟨#[116,114,117,110,99,97,116,101]⟩,1,1,0,0)]
def rowK(n:Int):Str×Int×Int×Int×Int:=if n<0∨22≤n then(⟨#[]⟩,0,0,0,0)else(rowsK[n.toNat]?).getD (⟨#[]⟩,0,0,0,0)
def argsC(c:Cal):List Int:=[c.a0,c.a1,c.a2,c.a3]
def chkC(c:Cal):Int:=
 if(rowK c.num).1=⟨#[]⟩then 100 else if(((argsC c).drop (rowK c.num).2.1.toNat).any fun x=>decide (x≠0))=true then 101
 else if(c.paths.length:Int)≠(rowK c.num).2.2.1∨(c.args.length:Int)<(rowK c.num).2.2.2.1∨(rowK c.num).2.2.2.2<(c.args.length:Int)then 101
 else if(c.paths.any fun p=>decide (128<p.size))=true then 102 else if(c.args.any fun p=>decide (64<p.size))=true then 102 else 0
def bitsK(n:Nod)(euid egid:Int):Int:=
 if euid=n.uid then andI .i64 (shrI .i64 n.mode 6) 7 else if egid=n.gid then andI .i64 (shrI .i64 n.mode 3) 7 else andI .i64 n.mode 7
def mayK(n:Nod)(euid egid want:Int):Bool:=
 if want<0∨7<want then false
 else if euid=0 then decide (andI .i64 want 1=0)||decide (n.kind=2)||decide (andI .i64 n.mode 73≠0)
 else decide (andI .i64 (bitsK n euid egid) want=want)
def flg(a f:Int):Bool:=decide (andI .i64 a f≠0)
def permL(c:Cal):List Int:=
 if c.num=1 then[1]else if c.num=6 then[(if flg c.a0 1=true then 4 else 0)+(if flg c.a0 22=true then 2 else 0)]
 else if c.num=8 then[8,2]else if c.num=13 then[2,2]else if c.num=14∨c.num=15∨c.num=17 then[8]else if c.num=16 then[4]else[2]
def folK(c:Cal):Bool:=
 if c.num=6 then decide (andI .i64 c.a0 32=0)else decide (c.num=1∨c.num=14∨c.num=15∨c.num=16∨c.num=17∨c.num=21)
def modeK(n:Int):Bool:=decide (0≤n)&&decide (n≤511)
def arg0(c:Cal):Str:=c.args.headD ⟨#[]⟩
def befK(p:Prc)(c:Cal):Int:=
 if c.num=6 then(if c.a0<0∨63<c.a0∨andI .i64 c.a0 3=0∨modeK c.a1=false then 22 else if 8≤(p.opens.length:Int)then 24 else 0)
 else if c.num=9 then(if arg0 c=⟨#[]⟩then 2 else if(arg0 c).data.toList.any (fun b=>decide (b=0))=true then 22 else 0)
 else if c.num=11∨c.num=14 then(if modeK c.a0=false then 22 else 0)
 else if c.num=15 then(if c.a0<0∨4294967295<c.a0∨c.a1<0∨4294967295<c.a1 then 22 else 0)
 else if c.num=17 then(if p.euid≠0 then 1 else 0)
 else if c.num=21 then(if c.a0<0 then 22 else 0)else 0
def itemK(s:Spc)(given:Str)(perm:Int)(f:Fnd):Itm:=
 ⟨given,f.path,f.dir,f.name,f.file,1,(nodG s.files f.file).kind,(nodG s.files f.file).mode,(nodG s.files f.file).uid,(nodG s.files f.file).gid,perm⟩
def item0(given:Str)(perm:Int):Itm:=⟨given,⟨#[]⟩,(0,0),⟨#[]⟩,(0,0),1,0,0,0,0,perm⟩
def lookS(s:Spc)(cwd:Fil)(fl:Bool)(x:List Itm×List Fnd×Int)(g:Str×Int):List Itm×List Fnd×Int:=
 if x.2.2=0 then
  (if(findL s cwd g.1 fl).2=0 then(x.1++[itemK s g.1 g.2 (findL s cwd g.1 fl).1],x.2.1++[(findL s cwd g.1 fl).1],0)else(x.1++[item0 g.1 g.2],x.2.1++[(findL s cwd g.1 fl).1],(findL s cwd g.1 fl).2))
 else(x.1++[item0 g.1 g.2],x.2.1++[fnd0],x.2.2)
def lookK(s:Spc)(cwd:Fil)(fl:Bool)(l:List (Str×Int))(e:Int):List Itm×List Fnd×Int:=l.foldl (lookS s cwd fl) ([],[],e)
def fnK(w:Wrk)(i:Nat):Fnd:=(w.found[i]?).getD fnd0
def mayW(w:Wrk)(a:Fil)(want:Int):Bool:=mayK (nodG w.s.spc.files a) w.p.euid w.p.egid want
def dirW(w:Wrk)(i:Nat):Bool:=dirL w.s.spc.files (fnK w i).file
def usedW(w:Wrk)(a:Fil):Bool:=(covL w.s.spc a).isSome||w.s.tab.ps.any fun p=>decide (p.cwd=a)
def filesW(w:Wrk)(R:ChgRes):Wrk×Int:=if R.2.2=0 then({w with s:=⟨⟨R.1,w.s.spc.mounts⟩,w.s.tab⟩,r:={w.r with changes:=R.2.1}},0)else(w,R.2.2)
def tableW(w:Wrk)(R:Tab×Int):Wrk×Int:=if R.2=0 then({w with s:=⟨w.s.spc,R.1⟩},0)else(w,R.2)
def madeI(n:Nod)(a:Fil)(x:Itm):Itm:={x with role:=2,file:=a,kind:=n.kind,mode:=n.mode,uid:=n.uid,gid:=n.gid}
def madeW(w:Wrk)(i:Nat)(a:Fil):Wrk:={w with r:={w.r with items:=w.r.items.modify i (madeI (nodG w.s.spc.files a) a)}}
def chg0:Chg:=((0,0),⟨#[]⟩,(0,0),(0,0))
def newF(l:List Chg):Fil:=(l.headD chg0).2.2.2
def ownN(w:Wrk)(n:Nod):Nod:={n with uid:=w.p.euid,gid:=w.p.egid}
def makeW(w:Wrk)(i:Nat)(n:Nod):ChgRes:=mkL w.s.spc.files (fnK w i).dir (fnK w i).name (ownN w n)
def createW(w:Wrk)(i:Nat)(n:Nod):Wrk×Int:=
 if(makeW w i n).2.2=0 then(madeW (filesW w (makeW w i n)).1 i (newF (makeW w i n).2.1),0)else(w,(makeW w i n).2.2)
def roleW(w:Wrk)(i:Nat)(role:Int):Wrk:={w with r:={w.r with items:=w.r.items.modify i fun x=>{x with role:=role}}}
def exitW(w:Wrk)(n:Int):Wrk:={w with r:={w.r with exit:=n}}
def fileN(mode:Int):Nod:=⟨0,1,mode,0,0,0,⟨#[]⟩,[]⟩
def fdW(w:Wrk)(a:Fil):Wrk×Int:=tableW (exitW w (openT w.s.tab w.p.pid a w.c.a0).2.1) ((openT w.s.tab w.p.pid a w.c.a0).1,(openT w.s.tab w.p.pid a w.c.a0).2.2)
def wantK(a:Int):Int:=(if flg a 1=true then 4 else 0)+(if flg a 18=true then 2 else 0)
def openW(w:Wrk):Wrk×Int:=
 if(fnK w 0).ex=true then
  (if flg w.c.a0 4=true∧flg w.c.a0 8=true then(w,17)
  else if(nodG w.s.spc.files (fnK w 0).file).kind=3 then(w,40)
  else if(nodG w.s.spc.files (fnK w 0).file).kind=2∧flg w.c.a0 22=true then(w,21)
  else if mayW w (fnK w 0).file (wantK w.c.a0)=false then(w,13)
  else fdW w (fnK w 0).file)
 else
  (if flg w.c.a0 4=false then(w,2)else if(fnK w 0).slash=true then(w,21)else if mayW w (fnK w 0).dir 2=false then(w,13)
  else if(createW w 0 (fileN w.c.a1)).2≠0 then createW w 0 (fileN w.c.a1)
  else fdW (createW w 0 (fileN w.c.a1)).1 (newF (createW w 0 (fileN w.c.a1)).1.r.changes))
def linkW(w:Wrk):Wrk×Int:=
 if(fnK w 0).ex=false then(w,2)else if dirW w 0=true then(w,1)else if(fnK w 1).ex=true then(w,17)else if(fnK w 1).slash=true then(w,2)
 else if(fnK w 0).file.1≠(fnK w 1).dir.1 then(w,18)else if mayW w (fnK w 1).dir 2=false then(w,13)
 else if(linkL w.s.spc.files (fnK w 1).dir (fnK w 1).name (fnK w 0).file).2.2≠0 then(w,(linkL w.s.spc.files (fnK w 1).dir (fnK w 1).name (fnK w 0).file).2.2)
 else(madeW (filesW w (linkL w.s.spc.files (fnK w 1).dir (fnK w 1).name (fnK w 0).file)).1 1 (fnK w 0).file,0)
def delW(w:Wrk)(R:ChgRes):Wrk×Int:=if R.2.2≠0 then(w,R.2.2)else(roleW (filesW w R).1 0 3,0)
def removeW(w:Wrk):Wrk×Int:=
 if(fnK w 0).ex=false then(w,2)
 else if w.c.num=10 then
  (if(fnK w 0).name=⟨#[]⟩∨dirW w 0=true then(w,21)else if mayW w (fnK w 0).dir 2=false then(w,13)
  else delW w (unlinkL w.s.spc.files (fnK w 0).dir (fnK w 0).name))
 else
  (if(fnK w 0).name=⟨#[]⟩then(w,16)else if dirW w 0=false then(w,20)
  else if usedW w (lookL w.s.spc.files (fnK w 0).dir (fnK w 0).name).1=true then(w,16)else if mayW w (fnK w 0).dir 2=false then(w,13)
  else delW w (rmdirL w.s.spc.files (fnK w 0).dir (fnK w 0).name))
def movW(w:Wrk)(R:ChgRes)(x:Fil):Wrk×Int:=
 if R.2.2≠0 then(w,R.2.2)else if 0<(R.2.1.length:Int)then(madeW (roleW (filesW w R).1 0 3) 1 x,0)else((filesW w R).1,0)
def renameW(w:Wrk):Wrk×Int:=
 if(fnK w 0).ex=false then(w,2)else if(fnK w 0).name=⟨#[]⟩∨(fnK w 1).name=⟨#[]⟩then(w,16)
 else if(fnK w 1).slash=true∧dirW w 0=false then(w,20)else if(fnK w 0).dir.1≠(fnK w 1).dir.1 then(w,18)
 else if mayW w (fnK w 0).dir 2=false∨mayW w (fnK w 1).dir 2=false then(w,13)
 else if(lookL w.s.spc.files (fnK w 1).dir (fnK w 1).name).2=0∧(lookL w.s.spc.files (fnK w 1).dir (fnK w 1).name).1≠(lookL w.s.spc.files (fnK w 0).dir (fnK w 0).name).1∧dirL w.s.spc.files (lookL w.s.spc.files (fnK w 1).dir (fnK w 1).name).1=true∧usedW w (lookL w.s.spc.files (fnK w 1).dir (fnK w 1).name).1=true then(w,16)
 else movW w (renameL w.s.spc.files (fnK w 0).dir (fnK w 0).name (fnK w 1).dir (fnK w 1).name) (lookL w.s.spc.files (fnK w 0).dir (fnK w 0).name).1
def setW(w:Wrk)(R:Fls×Int):Wrk×Int:=filesW w (R.1,[],R.2)
def attrW(w:Wrk):Wrk×Int:=
 if(fnK w 0).ex=false then(w,2)
 else if w.c.num=14 then
  (if w.p.euid≠0∧w.p.euid≠(nodG w.s.spc.files (fnK w 0).file).uid then(w,1)
  else setW w (setL05 w.s.spc.files (fnK w 0).file w.c.a0 (nodG w.s.spc.files (fnK w 0).file).uid (nodG w.s.spc.files (fnK w 0).file).gid))
 else if w.p.euid≠0 then(w,1)else setW w (setL05 w.s.spc.files (fnK w 0).file (nodG w.s.spc.files (fnK w 0).file).mode w.c.a0 w.c.a1)
def spaceW(w:Wrk)(R:Spc×Int):Wrk×Int:=if R.2=0 then({w with s:=⟨R.1,w.s.tab⟩},0)else(w,R.2)
def reachW(w:Wrk):Wrk×Int:=
 if(fnK w 0).ex=false then(w,2)
 else if w.c.num=1 then(if dirW w 0=true∨mayW w (fnK w 0).file 1=false then(w,13)else tableW w (execT w.s.tab w.p.pid (fnK w 0).path (fnK w 0).name))
 else if w.c.num=16 then(if dirW w 0=false then(w,20)else if mayW w (fnK w 0).file 1=false then(w,13)else tableW w (chdirT w.s.tab w.p.pid (fnK w 0).file))
 else if w.c.num=17 then(if dirW w 0=false then(w,20)else spaceW w (addL w.s.spc w.c.a0 (fnK w 0).file))
 else if dirW w 0=true then(w,21)else if mayW w (fnK w 0).file 2=false then(w,13)else(w,0)
def linkN(t:Str):Nod:=⟨0,3,511,0,0,0,t,[]⟩
def dirN(mode:Int):Nod:=⟨0,2,mode,0,0,0,⟨#[]⟩,[]⟩
def placeW(w:Wrk):Wrk×Int:=
 if(fnK w 0).ex=true then(w,17)else if(fnK w 0).slash=true∧w.c.num=9 then(w,2)else if mayW w (fnK w 0).dir 2=false then(w,13)
 else if w.c.num=9 then createW w 0 (linkN (arg0 w.c))else createW w 0 (dirN w.c.a0)
def busyT(t:Tab)(dev:Int):Bool:=t.ps.any fun p=>decide (p.cwd.1=dev)||p.opens.any fun d=>decide (d.file.1=dev)
def goneW(w:Wrk)(R:Spc×Int):Wrk×Int:=if R.2=0 then({w with s:=⟨R.1,w.s.tab⟩,r:={w.r with gone:=w.c.a0}},0)else(w,R.2)
def umountW(w:Wrk):Wrk×Int:=
 if w.p.euid≠0 then(w,1)else if w.c.a0=0∨mtdL w.s.spc w.c.a0=false then(w,22)else if busyT w.s.tab w.c.a0=true then(w,16)
 else goneW w (remL w.s.spc w.c.a0)
def childW(w:Wrk)(n:Int):Wrk:={w with r:={w.r with exit:=n,child:=n}}
def otherW(w:Wrk):Wrk×Int:=
 if w.c.num=0 then tableW (childW w (forkT w.s.tab w.p.pid).2.1) ((forkT w.s.tab w.p.pid).1,(forkT w.s.tab w.p.pid).2.2)
 else if w.c.num=2 then tableW w (exitT w.s.tab w.p.pid)
 else if w.c.num=3 then tableW w (setuidT w.s.tab w.p.pid w.c.a0)
 else if w.c.num=4 then tableW w (setgidT w.s.tab w.p.pid w.c.a0)
 else if w.c.num=5 then tableW w (loginT w.s.tab w.p.pid w.c.a0)
 else if w.c.num=7 then tableW w (closeT w.s.tab w.p.pid w.c.a0)
 else if w.c.num=18 then umountW w
 else if w.c.num=19 then(if w.c.a0<0∨65535<w.c.a0∨arg0 w.c=⟨#[]⟩then(w,22)else if w.c.a0=0 then(w,111)else(w,0))
 else if w.c.a1<0∨64<w.c.a1 then(w,22)else tableW w (killT w.s.tab w.p.pid w.c.a0 (decide (w.c.a1≠0)))
def actW(w:Wrk):Wrk×Int:=
 if w.c.num=6 then openW w else if w.c.num=8 then linkW w else if w.c.num=10∨w.c.num=12 then removeW w else if w.c.num=13 then renameW w
 else if w.c.num=14∨w.c.num=15 then attrW w else if w.c.num=1∨w.c.num=16∨w.c.num=17∨w.c.num=21 then reachW w
 else if w.c.num=9∨w.c.num=11 then placeW w else otherW w
def lokC(s:Syst)(p:Prc)(c:Cal):List Itm×List Fnd×Int:=lookK s.spc p.cwd (folK c) (c.paths.zip (permL c)) (befK p c)
def wrkL(s:Syst)(pid:Int)(c:Cal):Wrk:=⟨s,gotT s.tab pid,c,(lokC s (gotT s.tab pid) c).2.1,{res0 with items:=(lokC s (gotT s.tab pid) c).1}⟩
def sysN(n:Int):Syst×Int:=if(newL n).2≠0 then(⟨⟨[],[]⟩,tab0⟩,(newL n).2)else(⟨⟨(newL n).1,[]⟩,tabN (0,1)⟩,0)
def dscA(d:Dsc):List AV:=[.v (.int .i64 d.fd), .v (.int .i64 d.file.1), .v (.int .i64 d.file.2), .v (.int .i64 d.flags)]
def prcA(p:Prc):List AV:=[.v (.int .i64 p.pid), .v (.int .i64 p.ppid), .v (.int .i64 p.uid), .v (.int .i64 p.euid), .v (.int .i64 p.gid), .v (.int .i64 p.egid), .v (.int .i64 p.auid), .v (.int .i64 p.ses), .v (.int .i64 p.cwd.1), .v (.int .i64 p.cwd.2), .v (.string p.comm), .v (.string p.exe), .sl 4 (p.opens.map dscA) none, .v (.bool p.audited)]
def tabA(t:Tab):List AV:=[.v (.int .i64 t.next), .v (.int .i64 t.nextS), .sl 14 (t.ps.map prcA) none]
def sysA(s:Syst):List AV:=[.sl 2 (s.spc.files.map dvcA) none, .sl 3 (s.spc.mounts.map mntA) none, .v (.int .i64 s.tab.next), .v (.int .i64 s.tab.nextS), .sl 14 (s.tab.ps.map prcA) none]
def stK(s:Str):List AV:=[.v (.string s)]
def calA(c:Cal):List AV:=[.v (.int .i64 c.num), .v (.int .i64 c.a0), .v (.int .i64 c.a1), .v (.int .i64 c.a2), .v (.int .i64 c.a3), .sl 1 (c.paths.map stK) none, .sl 1 (c.args.map stK) none]
def itmK(y:Itm):List AV:=[.v (.string y.given), .v (.string y.path), .v (.int .i64 y.dir.1), .v (.int .i64 y.dir.2), .v (.string y.name), .v (.int .i64 y.file.1), .v (.int .i64 y.file.2), .v (.int .i64 y.role), .v (.int .i64 y.kind), .v (.int .i64 y.mode), .v (.int .i64 y.uid), .v (.int .i64 y.gid), .v (.int .i64 y.perm)]
def resK(r:Res):List AV:=[.v (.int .i64 r.exit), .v (.int .i64 r.child), .v (.int .i64 r.gone), .sl 13 (r.items.map itmK) none, .sl 7 (r.changes.map chgA) none]
def wrkA(w:Wrk)(fnd its:AV):List AV:=
 [.sl 2 (w.s.spc.files.map dvcA) none, .sl 3 (w.s.spc.mounts.map mntA) none, .v (.int .i64 w.s.tab.next), .v (.int .i64 w.s.tab.nextS), .sl 14 (w.s.tab.ps.map prcA) none,
 .v (.int .i64 w.p.pid), .v (.int .i64 w.p.ppid), .v (.int .i64 w.p.uid), .v (.int .i64 w.p.euid), .v (.int .i64 w.p.gid), .v (.int .i64 w.p.egid), .v (.int .i64 w.p.auid), .v (.int .i64 w.p.ses), .v (.int .i64 w.p.cwd.1), .v (.int .i64 w.p.cwd.2), .v (.string w.p.comm), .v (.string w.p.exe), .sl 4 (w.p.opens.map dscA) none, .v (.bool w.p.audited),
 .v (.int .i64 w.c.num), .v (.int .i64 w.c.a0), .v (.int .i64 w.c.a1), .v (.int .i64 w.c.a2), .v (.int .i64 w.c.a3), .sl 1 (w.c.paths.map stK) none, .sl 1 (w.c.args.map stK) none,fnd,
 .v (.int .i64 w.r.exit), .v (.int .i64 w.r.child), .v (.int .i64 w.r.gone),its, .sl 7 (w.r.changes.map chgA) none]
structure TabB(t:Tab):Prop where
 few:t.ps.length≤16
 opens:∀p∈t.ps,p.opens.length≤8
 next:t.next≤1073741824
 nextS:t.nextS≤1073741824
structure RowF(sz:Nat){α:Type}(F:α→List AV):Prop where
 len:∀x,(F x).length=sz
 flat:∀x,∀y∈F x,(∃v,y= .v v)∨∃s r,y= .sl s r none
 pos:0<sz
def LB(sz:Nat){α:Type}(F:α→List AV)(l:List α)(cap:Nat):List AV:=rowsB sz cap (l.map F)
section
variable {α:Type}{sz:Nat}{F:α→List AV}(hF:RowF sz F)
include hF
theorem LB_rows(l:List α):∀r∈l.map F,r.length=sz:=by
 intro r hr
 obtain⟨x,_,rfl⟩:=List.mem_map.1 hr
 exact hF.len x
theorem LB_len{l:List α}{cap:Nat}(h:l.length≤cap):(LB sz F l cap).length=cap * sz:=rowsB_len (LB_rows hF l) (by simpa using h)
theorem row_map{g:AV→AV}(hv:∀x,g (.v x)= .v x)(hs:∀sz rows,g (.sl sz rows none)= .sl sz rows none)(x:α):(F x).map g=F x:=by
 conv=>rhs;rw[←List.map_id (F x)]
 apply List.map_congr_left
 intro y hy
 rcases hF.flat x y hy with⟨v,rfl⟩|⟨s,r,rfl⟩
 ·exact hv v
 exact hs s r
theorem map_LB{g:AV→AV}(hany:g .any= .any)(hv:∀x,g (.v x)= .v x)(hs:∀sz rows,g (.sl sz rows none)= .sl sz rows none)(l:List α)(cap:Nat):(LB sz F l cap).map g=LB sz F l cap:=by
 unfold LB
 rw[rowsB_map g hany,List.map_map]
 congr 1
 apply List.map_congr_left
 intro x _
 exact row_map hF hv hs x
theorem ren_LB(g:Nat→Option Nat)(l:List α)(cap:Nat):renL g (LB sz F l cap)=LB sz F l cap:=by
 rw[renL_map];exact map_LB hF rfl (fun _=>rfl) (fun _ _=>rfl) l cap
theorem renK_LB(g:Nat→Option Nat)(l:List α)(cap:Nat):renKL g (LB sz F l cap)=LB sz F l cap:=by
 rw[renKL_map];exact map_LB hF rfl (fun _=>rfl) (fun _ _=>rfl) l cap
theorem low_LB(g:Nat→Option (List AV))(l:List α)(cap:Nat):lowGL g (LB sz F l cap)=LB sz F l cap:=by
 rw[lowGL_map];exact map_LB hF rfl (fun _=>rfl) (fun _ _=>rfl) l cap
theorem bp_row{n m:Nat}(x:α):bpLtL n m (F x)=true:=by
 refine bpLtL_all.2 fun y hy=>?_
 rcases hF.flat x y hy with⟨v,rfl⟩|⟨s,r,rfl⟩<;>rfl
theorem bp_LB{n m:Nat}{l:List α}{cap:Nat}:bpLtL n m (LB sz F l cap)=true:=by
 refine bpLt_rowsB fun r hr=>?_
 obtain⟨x,_,rfl⟩:=List.mem_map.1 hr
 exact bp_row hF x
theorem frz_LB{n:Nat}{bx:List (List AV)}{k j:Nat}{l:List α}{cap:Nat}(hn:n≤j)(hj:bx[j]?=some (LB sz F l cap)):frzG n bx (k+1) j=some (LB sz F l cap):=by
 have:Nat.blt j n=false:=by rw[←Bool.not_eq_true,Nat.blt_eq];omega
 simp only[frzG,this,hj,Option.map_some,low_LB hF]
theorem low_bsv{n:Nat}{bx:List (List AV)}{k j:Nat}{l:List α}{cap cap0:Nat}(hn:Nat.ble n j=true)(hj:bx[j]?=some (LB sz F l cap))(hc:l.length≤cap):liv n (frzG n bx (k+1)) (.bs j 0 sz l.length cap0)= .sl sz (l.map F) none:=
 liv_rows (Nat.le_of_ble_eq_true hn) (frz_LB hF (Nat.le_of_ble_eq_true hn) hj) (LB_rows hF l) (by simp) (by simpa using hc)
theorem LB_get{l:List α}{cap i k:Nat}{x:α}{y:AV}(h:l[i]?=some x)(hx:(F x)[k]?=some y):(LB sz F l cap)[0+i * sz+k]?=some y:=rowsB_get (LB_rows hF l) (by rw[List.getElem?_map,h];rfl) hx
theorem LB_set{l:List α}{cap i k:Nat}{x x':α}{cs:List AV}(h:l[i]?=some x)(hs:SetAt (F x) k cs (F x'))(hne:cs≠[]):SetAt (LB sz F l cap) (0+i * sz+k) cs (LB sz F (l.set i x') cap):=by
 have key:=rowsB_set (cap:=cap) (LB_rows hF l) (by rw[List.getElem?_map,h];rfl) hs hne
 rw[←List.map_set]at key
 exact key
theorem LB_put{l:List α}{cap i:Nat}{x x':α}(h:l[i]?=some x):SetAt (LB sz F l cap) (0+i * sz) (F x') (LB sz F (l.set i x') cap):=by
 have hne:F x'≠[]:=fun e=>by have h1:=hF.len x';have h2:=hF.pos;rw[e]at h1;simp at h1;omega
 have hs:SetAt (F x) 0 (F x') (F x'):=by
  have:=SetAt.whole (xs:=F x') (l:=F x) (b:=[]) (by rw[hF.len,hF.len])
  simpa using this
 have key:=LB_set hF (cap:=cap) h hs hne
 simpa using key
theorem LB_first(x:α)(cap:Nat):F x++List.replicate ((cap - 1) * sz) .any=LB sz F [x] cap:=by
 have _:=hF
 unfold LB rowsB
 simp
theorem LB_new(acc:List α)(x:α)(cap0 cap:Nat):((LB sz F acc cap0).drop 0).take (acc.length * sz)++F x++List.replicate ((cap - (acc.length+1)) * sz) .any=LB sz F (acc++[x]) cap:=by
 unfold LB
 rw[rowsB_new (LB_rows hF acc) (by simp),List.map_append]
 rfl
theorem LB_push{acc:List α}{x:α}{cap:Nat}{row:List AV}(hs:SetAt (LB sz F acc cap) (0+acc.length * sz) (F x) row)(hc:acc.length+1≤cap):row=LB sz F (acc++[x]) cap:=by
 have key:=rowsB_push (rows:=acc.map F) (sz:=sz) (cap:=cap) (r:=F x) (row':=row) (LB_rows hF acc) (hF.len x) hF.pos (by simpa using hc) (by rw[List.length_map];exact hs)
 rw[key]
 unfold LB
 rw[List.map_append]
 rfl
end
theorem prcF:RowF 14 prcA:=⟨fun _=>rfl,fun x y h=>by simp[prcA]at h;rcases h with h|h|h|h|h|h|h|h|h|h|h|h|h|h<;>first|exact .inl ⟨_,h⟩|exact .inr ⟨_,_,h⟩,by decide⟩
theorem itmF:RowF 13 itmK:=⟨fun _=>rfl,fun x y h=>by simp[itmK]at h;rcases h with h|h|h|h|h|h|h|h|h|h|h|h|h<;>exact .inl ⟨_,h⟩,by decide⟩
end Go.Proofs.YtbglbmnhgbgelaaGreatDoor
namespace Go.Proofs.YtbglbmnhgbgelaaGreatDoor
open Go.RowKit
theorem wc_{f:Nat→Option AV}{bx:List (List AV)}{tk:List (Nat×Nat×List (List AV))}{l:List (Nat×AV)}{N:Dim}(n m:Nat){bx':List (List AV)}{tk':List (Nat×Nat×List (List AV))}(hbp:bpLtB n m bx'=true)(hn:Nat.ble N.ni n=true:=by rfl)(hb:bx.take n=bx':=by rfl)(ht:tk.take m=tk':=by rfl)(hl:Sub n m f l:=by repeat (first|exact Sub.nil|refine Sub.cons _ _ _ rfl rfl ?_|refine Sub.any _ _ ?_|refine Sub.sl _ _ _ _ _ rfl ?_|refine Sub.slnil _ _ _ rfl ?_|(apply Sub.of;(focus exact rfl);(focus exact LeA.of_eq (vb (by simp[*])));(focus exact rfl)))):Weak N ⟨f,⟨bx,tk⟩⟩ ⟨look l,⟨bx',tk'⟩⟩:=weak_of n m hn hb ht hbp hl
def backF(bx:List (List AV))(g:Nat→Option Nat):List Nat→List (List AV)→List (List AV)
 |[],bc=>bx++bc.map (renL g)
 |i::is,[]=>backF bx g is []
 |i::is,r::bc=>backF (bx.set i (renL g r)) g is bc
theorem backF_len{g:Nat→Option Nat}:∀(is:List Nat) (bx bc:List (List AV)),is.length≤bc.length→(backF bx g is bc).length=bx.length+(bc.length - is.length)
 |[],bx,bc,_=>by simp[backF]
 |i::is,bx,[],h=>by simp at h
 |i::is,bx,r::bc,h=>by
   unfold backF
   rw[backF_len is _ bc (by simpa using h)]
   simp
theorem backF_out{g:Nat→Option Nat}:∀(is:List Nat) (bx bc:List (List AV)) (i:Nat),i∉is→i<bx.length→(backF bx g is bc)[i]?=bx[i]?
 |[],bx,bc,i,_,hi=>by unfold backF;rw[List.getElem?_append_left hi]
 |j::is,bx,[],i,h,hi=>by
   unfold backF
   exact backF_out is bx [] i (fun hm=>h (List.mem_cons_of_mem _ hm)) hi
 |j::is,bx,r::bc,i,h,hi=>by
   unfold backF
   rw[backF_out is _ bc i (fun hm=>h (List.mem_cons_of_mem _ hm)) (by simpa using hi),List.getElem?_set_ne (fun e=>h (by rw[e];exact List.mem_cons_self ..))]
theorem backF_ins{g:Nat→Option Nat}:∀(is:List Nat) (bx bc:List (List AV)) (k i:Nat) (row:List AV),is.Nodup→i<bx.length→is[k]?=some i→bc[k]?=some row→(backF bx g is bc)[i]?=some (renL g row)
 |[],_,_,_,_,_,_,_,h,_=>by simp at h
 |j::is,bx,[],k,i,row,_,_,_,h=>by simp at h
 |j::is,bx,r::bc,0,i,row,hn,hi,h1,h2=>by
   simp at h1 h2
   subst h1 h2
   unfold backF
   rw[backF_out is _ bc j (List.nodup_cons.1 hn).1 (by simpa using hi),List.getElem?_set_self hi]
 |j::is,bx,r::bc,k+1,i,row,hn,hi,h1,h2=>by
   unfold backF
   exact backF_ins is _ bc k i row (List.nodup_cons.1 hn).2 (by simpa using hi) (by simpa using h1) (by simpa using h2)
theorem backF_new{g:Nat→Option Nat}:∀(is:List Nat) (bx bc:List (List AV)) (k:Nat) (row:List AV),bc[is.length+k]?=some row→(backF bx g is bc)[bx.length+k]?=some (renL g row)
 |[],bx,bc,k,row,h=>by
   unfold backF
   rw[List.getElem?_append_right (by omega),show bx.length+k - bx.length=k by omega,List.getElem?_map]
   simp at h
   rw[h];rfl
 |j::is,bx,[],k,row,h=>by simp at h
 |j::is,bx,r::bc,k,row,h=>by
   unfold backF
   have:=backF_new (g:=g) is (bx.set j (renL g r)) bc k row (by simpa[Nat.add_right_comm]using h)
   simpa using this
theorem back_F{bx:List (List AV)}{is:List Nat}{bc:List (List AV)}(hn:is.Nodup)(hi:∀i∈is,i<bx.length)(hl:is.length≤bc.length):Back bx is bc (backF bx (backS is bx.length) is bc):=by
 refine⟨backF_len is bx bc hl,fun i row h1 h2=>?_,fun k i row h1 h2=>?_,fun k row h=>backF_new is bx bc k row h⟩
 ·rw[backF_out is bx bc i h1 (List.getElem?_eq_some_iff.1 h2).1];exact h2
 exact backF_ins is bx bc k i row hn (hi i (List.mem_of_getElem? h1)) h1 h2
end Go.Proofs.YtbglbmnhgbgelaaGreatDoor
