/-
  Part 18 of the proof of FilterSilentP: what the statement's proof uses of the texts in wip/tpl.
-/
import Derived.Test.YtbgnigjfkbmceaaGreatDoorQe17
open Go.Proofs.Tryz (prog)
set_option maxRecDepth 10000
set_option maxHeartbeats 4000000
set_option linter.unusedVariables false
set_option linter.unusedSimpArgs false
namespace Go.Proofs.YtbgnigjfkbmceaaGreatDoor
open Go.RowKit
def GZ(ns:List Nod)(i:Int):Option Int:=(ns.find? fun n:Nod=>n.ino==i).map (·.kind)
def Lz(f:AR)(a:AB):Option Int:=match Fj f a.1 with
 |none=>none
 |some d=>GZ d.nodes a.2
theorem qA(f:AR)(a:AB):Af f a=decide (Lz f a=some 2):=by
 have key:∀o:Option Nod,(match o with|none=>false|some n=>n.kind==2)=decide (o.map (·.kind)=some 2):=by
  intro o
  cases o with
  |none=>rfl
  |some n=>by_cases h:n.kind=2<;>simp[h]
 unfold Af Lz CE
 cases Fj f a.1 with
 |none=>rfl
 |some d=>exact key _
theorem Rg{j:Int}{g:Nod→Nod}(hi:∀n,(g n).ino=n.ino)(hk:∀n,(g n).kind=n.kind)(i:Int):∀ns:List Nod,GZ (Cv ns j g) i=GZ ns i
 |[]=>rfl
 |n::ns=>by
   have ih:=Rg hi hk (j:=j) i ns;unfold GZ Cv at ih ⊢;rw[List.map_cons,List.find?_cons,List.find?_cons];have e1:(if n.ino=j then g n else n).ino=n.ino:=by split<;>simp[hi]
   have e2:(if n.ino=j then g n else n).kind=n.kind:=by split<;>simp[hk]
   rw[e1]
   cases n.ino==i with
   |true=>simp[e2]
   |false=>exact ih
theorem ZJ{ns:List Nod}{i j:Int}(h:i≠j):GZ (C3 ns j) i=GZ ns i:=by
 unfold GZ C3;rw[List.find?_filter]
 congr 2
 funext n
 by_cases e:n.ino=i
 ·subst e;simp[h]
 simp[e]
theorem NL(ns:List Nod)(p:Int)(name:AE)(ino i:Int):GZ (Bc ns p name ino) i=GZ ns i:=Rg (g:=Nu name ino) (j:=p) (fun _=>rfl) (fun _=>rfl) i ns
theorem qB(ns:List Nod)(a p:Int)(b:Bool)(i:Int):GZ (LH ns a p b) i=GZ ns i:=by
 unfold LH;split
 ·exact Rg (g:=fun n=>{n with parent:=p}) (j:=a) (fun _=>rfl) (fun _=>rfl) i ns
 rfl
theorem qC{ns:List Nod}{i k:Int}(h:GZ ns i=some k)(m:Nod):GZ (ns++[m]) i=some k:=by
 unfold GZ at h ⊢;rw[List.find?_append]
 cases e:ns.find? fun n:Nod=>n.ino==i with
 |none=>rw[e]at h;simp at h
 |some n=>rw[e]at h;simpa using h
theorem ZK{f:AR}{q:Nat}{d d':Dvc}(hq:f[q]?=some d){a:AB}{k:Int}(h:Lz f a=some k)(hd:a.1=(q:Int)→GZ d.nodes a.2=some k→GZ d'.nodes a.2=some k):Lz (f.set q d') a=some k:=by
 unfold Lz at h ⊢;unfold Fj at h ⊢;by_cases c:a.1<0
 ·rw[if_pos c]at h;cases h
 rw[if_neg c]at h ⊢;rw[List.getElem?_set];by_cases e:q=a.1.toNat
 ·subst e;have hl:=(Ab.1 hq).1;rw[if_pos rfl,if_pos hl];rw[hq]at h;exact hd (by omega) h
 rw[if_neg e];exact h
theorem Rh{f:AR}{q:Nat}{g:List Nod→List Nod}{a:AB}{k:Int}(h:Lz f a=some k)(hd:∀ns,a.1=(q:Int)→GZ ns a.2=some k→GZ (g ns) a.2=some k):Lz (JR f q g) a=some k:=by
 cases e:f[q]? with
 |none=>
   have:JR f q g=f:=by
    unfold JR;apply List.ext_getElem?;intro i;rw[List.getElem?_modify];by_cases c:q=i
    ·subst c;rw[e];rfl
    cases f[i]?<;>simp[c]
   rw[this];exact h
 |some d=>
   rw[Ju e];exact ZK e h (hd d.nodes)
theorem Pe{f g:AR}{a:AB}(h:Af f a=true)(hk:Lz f a=some 2→Lz g a=some 2):Af g a=true:=by
 rw[qA,decide_eq_true_iff]at h ⊢;exact hk h
theorem qD{f:AR}{dir:AB}{name:AE}{n:Nod}(h0:(Ez f dir name n).2.2=0){a:AB}(h:Af f a=true):Af (Ez f dir name n).1 a=true:=by
 unfold Ez at h0 ⊢;split at h0
 ·rename_i c;exact absurd h0 c
 rename_i c1;rw[if_neg c1];split at h0
 ·exact absurd h0 (by decide)
 rename_i c2;rw[if_neg c2];split at h0
 ·exact absurd h0 (by decide)
 rename_i c3;rw[if_neg c3]
 cases e:Fj f dir.1 with
 |none=>rw[e]at h0;exact absurd h0 (by simp)
 |some d=>
   rw[e]at h0;simp only at h0 ⊢;split at h0
   ·exact absurd h0 (by decide)
   rename_i c4;rw[if_neg c4]
   have hq:f[dir.1.toNat]?=some d:=by
    unfold Fj at e;split at e
    ·cases e
    exact e
   refine Pe h fun hk=>ZK hq hk fun _ hk=>qC ?_ _;rw[NL];exact hk
theorem qE{f:AR}{dir:AB}{name:AE}{b:AB}(h0:(El f dir name b).2.2=0){a:AB}(h:Af f a=true):Af (El f dir name b).1 a=true:=by
 revert h0;unfold El
 repeat' split
 all_goals first|exact fun h0=>absurd h0 (by assumption)|exact fun h0=>absurd h0 (by decide)|skip
 exact fun _=>Pe h fun hk=>Rh hk fun ns _ hn=>(NL ns dir.2 name b.2 a.2).trans hn
theorem ZL{f:AR}{dir:AB}{name:AE}{o:AB}(ho:o.1=dir.1){a:AB}(h:Af f a=true)(hne:a≠o)(h0:0≤dir.1):Af (JR f dir.1.toNat fun ns=>C3 (Bc ns dir.2 name 0) o.2) a=true:=
 Pe h fun hk=>Rh hk fun ns ha hn=>by
  rw[ZJ (fun e=>hne (Prod.ext (by rw[ha,ho];omega) e)),NL];exact hn
theorem UK{f:AR}{dir:AB}{name:AE}(h:(AK f dir name).2=0):(AK f dir name).1.1=dir.1:=by
 unfold AK at h ⊢;split
 ·rename_i e;rw[e]at h;exact absurd h (by simp)
 rename_i n e;rw[e]at h;simp only at h;split at h
 ·rename_i c;rw[if_pos c];split
  ·rename_i e2;rw[e2]at h;exact absurd h (by simp)
  rfl
 exact absurd h (by decide)
theorem UL{f:AR}{dir:AB}{name:AE}(h:Cb f dir name=0):0≤dir.1:=by
 unfold Cb CE Fj at h;by_cases c:dir.1<0
 ·rw[if_pos c]at h;exact absurd h (by simp)
 omega
theorem qG{f:AR}{dir:AB}{name:AE}(h0:(Hh f dir name).2.2=0){a:AB}(h:Af f a=true):Af (Hh f dir name).1 a=true:=by
 unfold Hh at h0 ⊢;split at h0
 ·rename_i c;exact absurd h0 c
 rename_i c1;rw[if_neg c1];split at h0
 ·rename_i c;exact absurd h0 c
 rename_i c2;rw[if_neg c2];split at h0
 ·exact absurd h0 (by decide)
 rename_i c3;rw[if_neg c3];exact ZL (UK (by omega)) h (fun e=>c3 (by rw[←e];exact h)) (UL (f:=f) (name:=name) (by omega))
theorem qH{f:AR}{dir:AB}{name:AE}(h0:(GP f dir name).2.2=0){a:AB}(h:Af f a=true)(hne:a≠(AK f dir name).1):Af (GP f dir name).1 a=true:=by
 unfold GP at h0 ⊢;split at h0
 ·rename_i c;exact absurd h0 c
 rename_i c1;rw[if_neg c1];split at h0
 ·rename_i c;exact absurd h0 c
 rename_i c2;rw[if_neg c2];split at h0
 ·exact absurd h0 (by decide)
 rename_i c3;rw[if_neg c3];split at h0
 ·exact absurd h0 (by decide)
 rename_i c4;rw[if_neg c4];exact ZL (UK (by omega)) h hne (UL (f:=f) (name:=name) (by omega))
theorem qJ{f:AR}{b:AB}{m u g:Int}(h0:(Fm f b m u g).2=0){a:AB}(h:Af f a=true):Af (Fm f b m u g).1 a=true:=by
 unfold Fm at h0 ⊢;split at h0
 ·exact absurd h0 (by decide)
 rename_i c1;rw[if_neg c1];split at h0
 ·exact absurd h0 (by decide)
 rename_i c2;rw[if_neg c2];exact Pe h fun hk=>Rh hk fun ns _ hn=>(Rg (g:=G4 m u g) (j:=b.2) (fun _=>rfl) (fun _=>rfl) a.2 ns).trans hn
theorem qK{f:AR}{src to:AB}{name name2:AE}(h0:(Fn f src name to name2).2.2=0){a:AB}(h:Af f a=true)
    (hne:(AK f to name2).2=0→(AK f to name2).1≠(AK f src name).1→a≠(AK f to name2).1):Af (Fn f src name to name2).1 a=true:=by
 unfold Fn at h0 ⊢;split at h0
 ·rename_i c;exact absurd h0 c
 rename_i c1;rw[if_neg c1];split at h0
 ·rename_i c;exact absurd h0 c
 rename_i c2;rw[if_neg c2];split at h0
 ·exact absurd h0 (by decide)
 rename_i c3;rw[if_neg c3];split at h0
 ·exact absurd h0 (by decide)
 rename_i c4;rw[if_neg c4];split at h0
 ·rename_i c5;rw[if_pos c5];exact h
 rename_i c5;rw[if_neg c5];split at h0
 ·rename_i c;exact absurd h0 c
 rename_i c6;rw[if_neg c6];refine Pe h fun hk=>?_;dsimp only;refine Rh hk fun ns ha hn=>?_;rw[qB];unfold NC;split
 ·rename_i e0;have hd:=UK e0;have hne':=hne e0 fun e=>c5 ⟨e0,e⟩;have hto:=UL (Ta (f:=f) (x:=src) (y:=to) (name:=name) (name2:=name2) (by omega)).2;have hk2:a.2≠(AK f to name2).1.2:=fun e=>hne' (Prod.ext (by rw[ha,hd];omega) e);rw[ZJ hk2,NL,NL];exact hn
 rw[NL,NL];exact hn
theorem SpcV.keep{s:Spc}(hs:SpcV s){g:AR}(hv:FlsV g)(hl:g.length=s.files.length)(hd:∀a,(Di s a).isSome=true→Af s.files a=true→Af g a=true):SpcV ⟨g,s.mounts⟩:=by
 refine⟨hv,by show 0<g.length;rw[hl];exact hs.pos,fun i m hm=>?_⟩;have h:=hs.mnt i m hm;refine⟨h.dev1,by rw[hl];exact h.dev2,h.fresh,hd _ ?_ h.dir,h.there,h.free⟩;unfold Di;rw[Option.isSome_map,List.find?_isSome];exact⟨m,Aj hm,by simp⟩
structure SysV(s:Syst)(m:Nat):Prop where
 spc:SpcV s.spc
 few:s.spc.mounts.length≤m
 tab:TabB s.tab
 num:DW s.tab
theorem SysV.mono{s:Syst}{m n:Nat}(h:SysV s m)(hm:m≤n):SysV s n:=⟨h.spc,Nat.le_trans h.few hm,h.tab,h.num⟩
def FA(w w':Syst):Prop:=∀m,SysV w m→SysV w' (m+1)
theorem OJ{t:Tab}(ht:TabB t){p:Prc}(hp:p.opens.length≤8):TabB (J5 t p):=by
 refine⟨by simpa[J5]using ht.few,fun q hq=>?_,ht.next,ht.nextS⟩;simp only[J5,List.mem_map]at hq;obtain⟨x,hx,rfl⟩:=hq;split
 ·exact hp
 exact ht.opens x hx
theorem qL{t:Tab}(ht:TabB t)(pid:Int):TabB (GU t pid).1:=by
 unfold GU;split
 ·exact K4
 split
 ·exact K4
 rename_i c;refine⟨?_,fun q hq=>?_,?_,ht.nextS⟩
 ·show(t.ps++[_]).length≤16;rw[List.length_append,List.length_singleton];omega
 ·rcases List.mem_append.1 hq with hq|hq
  ·exact ht.opens q hq
  rw[List.mem_singleton]at hq;subst hq;exact Jb ht pid
 have:=ht.next;show t.next+1≤1073741824;omega
theorem ZM{t:Tab}(ht:TabB t)(pid:Int):TabB (JU t pid).1:=by
 unfold JU;split
 ·exact K4
 split
 ·exact K4
 refine⟨?_,fun q hq=>?_,ht.next,ht.nextS⟩
 ·show((t.ps.filter _).map _).length≤16;rw[List.length_map];exact Nat.le_trans (List.length_filter_le _ _) ht.few
 have hq:q∈(t.ps.filter fun p=>decide (p.pid≠pid)).map (JT pid):=hq;rw[List.mem_map]at hq;obtain⟨x,hx,rfl⟩:=hq;have h8:=ht.opens x (List.mem_filter.1 hx).1;unfold JT;split
 ·exact h8
 exact h8
theorem qM{t:Tab}(ht:TabB t)(pid u:Int):TabB (JV t pid u).1:=by
 unfold JV
 repeat' split
 all_goals first|exact K4|exact OJ ht (Jb ht pid)
theorem qN{t:Tab}(ht:TabB t)(pid u:Int):TabB (JW t pid u).1:=by
 unfold JW
 repeat' split
 all_goals first|exact K4|exact OJ ht (Jb ht pid)
theorem qO{t:Tab}(ht:TabB t)(pid u:Int):TabB (G9 t pid u).1:=by
 unfold G9
 repeat' split
 all_goals first|exact K4|skip
 rename_i c;have h:=OJ ht (p:={AN t pid with auid:=u,ses:=t.nextS}) (Jb ht pid);refine⟨h.few,h.opens,h.next,?_⟩;have:=ht.nextS;show t.nextS+1≤1073741824;omega
theorem qP{t:Tab}(ht:TabB t)(pid fd:Int):TabB (KR t pid fd).1:=by
 unfold KR
 repeat' split
 all_goals first|exact K4|skip
 exact OJ ht (Nat.le_trans (List.length_filter_le _ _) (Jb ht pid))
theorem qQ{t:Tab}(ht:TabB t)(pid:Int)(a:AB):TabB (Kt t pid a).1:=by
 unfold Kt;split
 ·exact K4
 exact OJ ht (Jb ht pid)
theorem qR{t:Tab}(ht:TabB t)(pid:Int)(a b:AE):TabB (Ku t pid a b).1:=by
 unfold Ku;split
 ·exact K4
 exact OJ ht (Jb ht pid)
theorem qT{t:Tab}(ht:TabB t)(pid target:Int)(b:Bool):TabB (J6 t pid target b).1:=by
 unfold J6
 repeat' split
 all_goals first|exact K4|exact ZM ht _|exact ht
theorem LU:DW EC:=⟨Int.le_refl _,Int.le_refl _⟩
theorem qU{t:Tab}(ht:DW t)(pid:Int):DW (GU t pid).1:=by
 unfold GU
 repeat' split
 all_goals first|exact LU|(have h1:=ht.1;have h2:=ht.2;exact⟨by show 0≤t.next+1;omega,h2⟩)
theorem ZN{t:Tab}(ht:DW t)(pid:Int):DW (JU t pid).1:=by
 unfold JU
 repeat' split
 all_goals first|exact LU|exact ht
theorem qV{t:Tab}(ht:DW t)(pid u:Int):DW (JV t pid u).1:=by
 unfold JV
 repeat' split
 all_goals first|exact LU|exact ht
theorem qW{t:Tab}(ht:DW t)(pid u:Int):DW (JW t pid u).1:=by
 unfold JW
 repeat' split
 all_goals first|exact LU|exact ht
theorem qX{t:Tab}(ht:DW t)(pid u:Int):DW (G9 t pid u).1:=by
 unfold G9
 repeat' split
 all_goals first|exact LU|(have h1:=ht.1;have h2:=ht.2;exact⟨h1,by show 0≤t.nextS+1;omega⟩)
theorem qY{t:Tab}(ht:DW t)(pid fd:Int):DW (KR t pid fd).1:=by
 unfold KR
 repeat' split
 all_goals first|exact LU|exact ht
theorem qZ{t:Tab}(ht:DW t)(pid:Int)(a:AB):DW (Kt t pid a).1:=by
 unfold Kt
 repeat' split
 all_goals first|exact LU|exact ht
theorem r8{t:Tab}(ht:DW t)(pid:Int)(a b:AE):DW (Ku t pid a b).1:=by
 unfold Ku
 repeat' split
 all_goals first|exact LU|exact ht
theorem r9{t:Tab}(ht:DW t)(pid target:Int)(b:Bool):DW (J6 t pid target b).1:=by
 unfold J6
 repeat' split
 all_goals first|exact LU|exact ZN ht _|exact ht
theorem rA{t:Tab}(ht:DW t)(pid:Int)(a:AB)(fl:Int):DW (GA t pid a fl).1:=by
 unfold GA
 repeat' split
 all_goals first|exact LU|exact ht
theorem ZO{w:Wrk}{R:Tab×Int}(h:DW w.s.tab)(hR:DW R.1):DW (CB w R).1.s.tab:=by
 unfold CB;split
 ·exact hR
 exact h
theorem K7(s:Syst):FA s s:=fun _ h=>h.mono (Nat.le_succ _)
theorem M0{w:Wrk}{R:Tab×Int}(hR:∀m,SysV w.s m→TabB R.1∧DW R.1):FA w.s (CB w R).1.s:=by
 intro m h;refine⟨by rw[UB];exact h.spc,by rw[UB];exact Nat.le_trans h.few (Nat.le_succ _),Yn h.tab (hR m h).1,ZO h.num (hR m h).2⟩
theorem OK{w:Wrk}{R:Ex}(hO:SpcV w.s.spc→ND w.s.spc.files R)(hd:R.2.2=0→SpcV w.s.spc→∀a,(Di w.s.spc a).isSome=true→Af w.s.spc.files a=true→Af R.1 a=true):FA w.s (BZ w R).1.s:=by
 intro m h;unfold BZ;split
 ·rename_i h0;obtain⟨k1,k2⟩:=hO h.spc h0;exact⟨h.spc.keep k1 k2 (hd h0 h.spc),Nat.le_trans h.few (Nat.le_succ _),h.tab,h.num⟩
 exact h.mono (Nat.le_succ _)
theorem UM(w:Wrk)(i:Nat)(n:Nod):FA w.s (Cw w i n).1.s:=by
 unfold Cw;split
 ·rename_i h0;exact OK (w:=w) (R:=FZ w i n) (fun h=>XB h.files _ _ _) fun h0 _ a _ ha=>qD h0 ha
 exact K7 _
theorem rB(w:Wrk)(i:Nat)(n:Nod):(Cw w i n).1.s.spc.mounts=w.s.spc.mounts:=by
 unfold Cw;split
 ·show(BZ w _).1.s.spc.mounts=_;unfold BZ;split<;>rfl
 rfl
theorem ZP{w w':Wrk}(hw:FA w'.s w.s)(hmnt:w.s.spc.mounts=w'.s.spc.mounts)(a:AB):FA w'.s (Kv w a).1.s:=by
 intro m h;have h2:=hw m h;have hspc:(Kv w a).1.s.spc=w.s.spc:=UB _ _;refine⟨by rw[hspc];exact h2.spc,by rw[hspc,hmnt];exact Nat.le_trans h.few (Nat.le_succ _),?_,?_⟩
 ·unfold Kv;exact Yn (w:=RM w _) h2.tab (nE h2.tab _ _ _)
 unfold Kv;exact ZO (w:=RM w _) h2.num (rA h2.num _ _ _)
theorem rC(w:Wrk):FA w.s (Ck w).1.s:=by
 unfold Ck
 repeat' split
 all_goals first|exact K7 _|exact UM w _ _|exact ZP (K7 _) rfl _|exact ZP (UM w _ _) (rB _ _ _) _
theorem rD(w:Wrk):FA w.s (Fp w).1.s:=by
 unfold Fp
 repeat' split
 all_goals first|exact K7 _|skip
 exact OK (w:=w) (R:=El w.s.spc.files _ _ _) (fun h=>X9 h.files _ _ _) fun h0 _ a _ ha=>qE h0 ha
theorem ZQ{w:Wrk}{R:Ex}(h:FA w.s (BZ w R).1.s):FA w.s (Jy w R).1.s:=by
 unfold Jy;split
 ·exact K7 _
 exact h
theorem rE(w:Wrk):FA w.s (Em w).1.s:=by
 unfold Em
 repeat' split
 all_goals first|exact K7 _|skip
 ·exact ZQ (OK (fun h=>gP h.files _ _) fun h0 _ a _ ha=>qG h0 ha)
 rename_i c _;refine ZQ (OK (fun h=>gQ h.files _ _) fun h0 _ a hc ha=>qH h0 ha ?_);rintro rfl;refine c ?_;unfold JY;rw[hc];rfl
theorem rF{w:Wrk}{R:Ex}{x:AB}(h:FA w.s (BZ w R).1.s):FA w.s (LL w R x).1.s:=by
 unfold LL
 repeat' split
 all_goals first|exact K7 _|exact h
theorem rG(w:Wrk):FA w.s (Fq w).1.s:=by
 unfold Fq
 repeat' split
 all_goals first|exact K7 _|skip
 rename_i c;refine rF (OK (fun h=>XD h.files _ _ _ _) fun h0 _ a hc ha=>qK h0 ha fun e1 e2 e3=>c ⟨e1,e2,?_,?_⟩)
 ·rw[←e3];exact ha
 rw[←e3];unfold JY;rw[hc];rfl
theorem rH{w:Wrk}(b:AB)(x y z:Int):FA w.s (LM w (Fm w.s.spc.files b x y z)).1.s:=by
 unfold LM;exact OK (fun h=>gR h.files _ _ _ _) fun h0 _ a _ ha=>qJ h0 ha
theorem rJ(w:Wrk):FA w.s (GB w).1.s:=by
 unfold GB
 repeat' split
 all_goals first|exact K7 _|exact rH _ _ _ _
theorem rK(w:Wrk)(dev:Int)(a:AB):FA w.s (LN w (EN w.s.spc dev a)).1.s:=by
 intro m h;unfold LN;split
 ·rename_i h0;obtain⟨k1,k2⟩:=hC h.spc dev a h0;refine⟨k1,?_,h.tab,h.num⟩;show(EN w.s.spc dev a).1.mounts.length≤m+1;rw[k2];have:=h.few;simp only[List.length_append,List.length_singleton];omega
 exact h.mono (Nat.le_succ _)
theorem rL(w:Wrk)(dev:Int):FA w.s (LO w (Hi w.s.spc dev)).1.s:=by
 intro m h;unfold LO;split
 ·rename_i h0;obtain⟨k1,k2⟩:=kT h.spc dev h0;refine⟨k1,?_,h.tab,h.num⟩;show(Hi w.s.spc dev).1.mounts.length≤m+1;rw[k2];exact Nat.le_trans (List.length_filter_le _ _) (Nat.le_trans h.few (Nat.le_succ _))
 exact h.mono (Nat.le_succ _)
theorem rM(w:Wrk):FA w.s (Dv w).1.s:=by
 unfold Dv
 repeat' split
 all_goals first|exact K7 _|exact rK w _ _|exact M0 (fun m h=>⟨qR h.tab _ _ _,r8 h.num _ _ _⟩)|exact M0 (fun m h=>⟨qQ h.tab _ _,qZ h.num _ _⟩)
theorem rN(w:Wrk):FA w.s (GC w).1.s:=by
 unfold GC
 repeat' split
 all_goals first|exact K7 _|exact UM w _ _
theorem rO(w:Wrk):FA w.s (H5 w).1.s:=by
 unfold H5
 repeat' split
 all_goals first|exact K7 _|exact rL w _
theorem rP(w:Wrk):FA w.s (F8 w).1.s:=by
 unfold F8
 repeat' split
 all_goals first
  |exact K7 _
  |exact rO w
  |exact M0 (w:=O9 w _) (R:=((GU w.s.tab w.p.pid).1,(GU w.s.tab w.p.pid).2.2)) (fun m h=>⟨qL h.tab _,qU h.num _⟩)
  |exact M0 (fun m h=>⟨ZM h.tab _,ZN h.num _⟩)
  |exact M0 (fun m h=>⟨qM h.tab _ _,qV h.num _ _⟩)
  |exact M0 (fun m h=>⟨qN h.tab _ _,qW h.num _ _⟩)
  |exact M0 (fun m h=>⟨qO h.tab _ _,qX h.num _ _⟩)
  |exact M0 (fun m h=>⟨qP h.tab _ _,qY h.num _ _⟩)
  |exact M0 (fun m h=>⟨qT h.tab _ _ _,r9 h.num _ _ _⟩)
theorem rQ(w:Wrk):FA w.s (BR w).1.s:=by
 unfold BR
 repeat' split
 all_goals first|exact rC w|exact rD w|exact rE w|exact rG w|exact rJ w|exact rM w|exact rN w|exact rP w
theorem Ri{s:Syst}{m:Nat}(h:SysV s m)(pid:Int)(c:Cal):SysV (Cx s pid c).1 (m+1):=by
 have ha:=rQ (Jz s pid c) m h;unfold Cx
 repeat' split
 all_goals first|exact h.mono (Nat.le_succ _)|exact ha
theorem rR(a:AB):TabB (O3 a):=⟨by show(1:Nat)≤16;decide,fun p hp=>by
 simp only[O3,List.mem_singleton]at hp;subst hp
 exact BH _,by show(2:Int)≤1073741824;decide,by show(1:Int)≤1073741824;decide⟩
theorem rT(a:AB):DW (O3 a):=⟨by show(0:Int)≤2;decide,by show(0:Int)≤1;decide⟩
theorem rU{n:Int}(h1:1≤n)(h2:n≤3):SysV (K0 n).1 0:=by
 unfold K0;have h:=XH h1 h2;split
 ·rename_i c;exfalso;refine c ?_;unfold G0;split
  ·omega
  rfl
 exact⟨⟨h.1,h.2,fun i m hm=>by cases hm⟩,BH _,rR _,rT _⟩
theorem rV{a b:Nat}(h:a<b):Nat.blt a b=true:=by rw[Nat.blt_eq];exact h
theorem SetAt.sym{α:Type}{x:α}:∀{row:List α} {o:Nat},o<row.length→SetAt row o [x] (row.set o x)
 |[],_,h=>by simp at h
 |y::ys,0,_=>SetAt.here y x ys [] ys (SetAt.nil ys 0)
 |y::ys,o+1,h=>SetAt.there y x ys [] (ys.set o x) o (SetAt.sym (by simpa using h))
theorem rW(n:Int):0≤(Bv n).2.1∧(Bv n).2.1≤2∧0≤(Bv n).2.2.1∧(Bv n).2.2.1≤2∧0≤(Bv n).2.2.2.1∧(Bv n).2.2.2.1≤(Bv n).2.2.2.2∧(Bv n).2.2.2.2≤100:=by
 unfold Bv;split
 ·decide
 rename_i h;obtain⟨m,rfl⟩:=Int.eq_ofNat_of_zero_le (show 0≤n by omega);have hm:m<22:=by omega
 have key:∀m,m<22→0≤((FY[m]?).getD (⟨#[]⟩,0,0,0,0)).2.1∧((FY[m]?).getD (⟨#[]⟩,0,0,0,0)).2.1≤2∧0≤((FY[m]?).getD (⟨#[]⟩,0,0,0,0)).2.2.1∧((FY[m]?).getD (⟨#[]⟩,0,0,0,0)).2.2.1≤2∧0≤((FY[m]?).getD (⟨#[]⟩,0,0,0,0)).2.2.2.1∧((FY[m]?).getD (⟨#[]⟩,0,0,0,0)).2.2.2.1≤((FY[m]?).getD (⟨#[]⟩,0,0,0,0)).2.2.2.2∧((FY[m]?).getD (⟨#[]⟩,0,0,0,0)).2.2.2.2≤100:=by decide
 exact key m hm
def Pg(p:Prc)(c:Cal)(r:Res):List AV:=[.v (.int .i64 2), .v (.int .i64 p.pid), .v (.int .i64 p.ppid), .v (.int .i64 p.uid), .v (.int .i64 p.euid), .v (.int .i64 p.gid), .v (.int .i64 p.egid), .v (.int .i64 p.auid), .v (.int .i64 p.ses), .v (.int .i64 p.cwd.1), .v (.int .i64 p.cwd.2), .v (.string p.comm), .v (.string p.exe), .sl 4 (p.opens.map GX) none, .v (.bool p.audited),
 .v (.int .i64 c.num), .v (.int .i64 c.a0), .v (.int .i64 c.a1), .v (.int .i64 c.a2), .v (.int .i64 c.a3), .sl 1 (c.paths.map DE) none, .sl 1 (c.args.map DE) none, .v (.int .i64 r.exit), .sl 13 (r.items.map CV) none, .v (.int .i64 0)]
def rX:List AV:=[.v (.int .i64 0), .v (.int .i64 0), .v (.int .i64 0), .v (.int .i64 0), .v (.int .i64 0), .v (.int .i64 0), .v (.int .i64 0), .v (.int .i64 0), .v (.int .i64 0), .v (.int .i64 0), .v (.int .i64 0), .v (.string ⟨#[]⟩), .v (.string ⟨#[]⟩), .v (.slice none 0 0), .v (.bool false), .v (.int .i64 0), .v (.int .i64 0), .v (.int .i64 0), .v (.int .i64 0), .v (.int .i64 0), .v (.slice none 0 0), .v (.slice none 0 0), .v (.int .i64 0), .v (.slice none 0 0), .v (.int .i64 0)]
theorem rY(s:Syst)(pid:Int)(c:Cal):(Cx s pid c).2.items.length≤c.paths.length:=by
 have hw:=(YX s pid c).2.2;have hz:(c.paths.zip (D6 c)).length≤c.paths.length:=by rw[List.length_zip];omega
 have h1:(GW s (AN s.tab pid) c).1.length≤c.paths.length:=by
  have:(Jz s pid c).r.items=(GW s (AN s.tab pid) c).1:=rfl;rw[this]at hw;omega
 have h2:(BR (Jz s pid c)).1.r.items.length≤c.paths.length:=by rw[UJ];omega
 unfold Cx
 repeat' split
 all_goals first|exact BH _|exact h1|exact h2
section
theorem rZ(n:Int):AFn prog 99 [.v (.int .i64 n)] (fun r=>r= .tup [.v (.int .i64 (Bv n).2.1), .v (.int .i64 (Bv n).2.2.1), .v (.int .i64 (Bv n).2.2.2.1), .v (.int .i64 (Bv n).2.2.2.2)]):=by
 refine enter Tryz.func99 rfl rfl rfl rfl rfl 0 rfl ?_;refine w_ (a_ (h:=a_ (h:=a_ (h:=Bu (h:=?_)))));refine A3 rfl (A8 (Y0 n) ?_);rintro r rfl;refine CY (h:=s_ (h:=e_ (q_ (Dd 12 (h:=AD 0 (h:=A9 1 (h:=AD 2 (h:=A9 3 (h:=AD 4 (h:=A9 5 (h:=AD 6 (h:=A9 7 (h:=BB 8 (h:=BB 9 (h:=BB 10 (h:=BB 11 (h:=z_ (h:=t_ (B5 (?_))))))))))))))))))));refine A6 ?_;rfl
theorem Ph(l:List Int)(a:Nat)(ha:a≤10000000000):GenF prog 51 l a [] 300 (fun r=>∃c:Cal,c.paths.length≤1000∧c.args.length≤1000∧r= .agg (FM c)):=by
 refine enter Tryz.func51 rfl rfl rfl rfl rfl 1 rfl ?_;refine w_ (CY (h:=e_ (AX (h:=BY (h:=?_)))));refine A3 rfl (Ax 0 (hc:=GQ l _ _ (fun _=>true) (by omega) (by rfl) (by rfl) (by rfl)) (hR:=?_));rintro r a1 ha1 ⟨k1,rfl,p1⟩;refine Ay ?_;refine Bi (h:=Dz (h:=B0 (h:=?_)));refine A3 rfl (A8 (rZ _) ?_);rintro r rfl;obtain⟨q1,q2,q3,q4,q5,q6,q7⟩:=rW k1;generalize (Bv k1).2.1=la at q1 q2 q3 q4 q5 q6 q7 ⊢;generalize (Bv k1).2.2.1=lb at q1 q2 q3 q4 q5 q6 q7 ⊢;generalize (Bv k1).2.2.2.1=lc at q1 q2 q3 q4 q5 q6 q7 ⊢;generalize (Bv k1).2.2.2.2=ld at q1 q2 q3 q4 q5 q6 q7 ⊢;obtain⟨na,rfl⟩:=Int.eq_ofNat_of_zero_le q1;obtain⟨nb,rfl⟩:=Int.eq_ofNat_of_zero_le q3;refine GF (h:=Kg (h:=a_ (h:=a_ (h:=a_ (h:=B4 (h:=Ca (h:=?_)))))));refine BU (fun n s=>∃(j b1:Nat) (n0 y0 y1 y2 y3:Int),j≤na∧n=na - j∧b1≤a+1+j∧s=⟨look [(0, .bp 0 0),(2, .bp 1 0),(3, .bp 2 0),(4, .v (.int .i64 (na:Int))),(5, .v (.int .i64 (nb:Int))),(6, .v (.int .i64 lc)),(7, .v (.int .i64 ld)),(8, .v (.int .i64 (j:Int)))],⟨[E4 l b1,[.v (.int .i64 0), .v (.int .i64 0), .v (.int .i64 0), .v (.int .i64 0), .v (.int .i64 0), .v (.slice none 0 0), .v (.slice none 0 0)],[.v (.int .i64 n0), .v (.int .i64 y0), .v (.int .i64 y1), .v (.int .i64 y2), .v (.int .i64 y3), .v (.slice none 0 0), .v (.slice none 0 0)]],[]⟩⟩) (na) ((wk 3 0)) (⟨0,_,_,_,_,_,_,by omega,rfl,by omega,rfl⟩) ?_;rintro n s ⟨j,b1,n0,y0,y1,y2,y3,hj,rfl,hb1,rfl⟩;refine Dq (h:=D2 (h:=?_));refine A4 rfl (fun hb1 hc1=>?_) (fun hb1 hc1=>?_)
 ·refine C0 (h:=EQ (h:=BY (h:=?_)));refine A3 rfl (Ax 0 (hc:=GQ l _ _ (fun _=>true) (by omega) (by rfl) (by rfl) (by rfl)) (hR:=?_));rintro r a2 ha2 ⟨k2,rfl,p2⟩;refine Ay ?_;refine f_ (h:=?_);refine A3 rfl (Bw (len:=4) (sz:=1) (n:=j) (by kernel_rfl) rfl rfl rfl (rV (by omega)) ?_);refine ME (Ed rfl rfl rfl rfl rfl rfl (SetAt.sym (by simp;omega)) (by repeat constructor) ?_);refine C4 (Eg (h:=?_));have hj2:j=0∨j=1:=by omega
  rcases hj2 with rfl|rfl
  ·refine⟨_,_,?_,⟨1,_,_,_,_,_,_,by omega,rfl,?_,rfl⟩,(wk 3 0)⟩<;>omega
  refine⟨_,_,?_,⟨2,_,_,_,_,_,_,by omega,rfl,?_,rfl⟩,(wk 3 0)⟩<;>omega
 refine CJ (h:=?_);refine B9 (fun s=>∃(b2:Nat) (n1 x0 x1 x2 x3:Int),b2≤a+20∧s=⟨look [(0, .bp 0 0),(2, .bp 1 0),(3, .bp 2 0),(5, .v (.int .i64 (nb:Int))),(6, .v (.int .i64 lc)),(7, .v (.int .i64 ld))],⟨[E4 l b2,[.v (.int .i64 0), .v (.int .i64 0), .v (.int .i64 0), .v (.int .i64 0), .v (.int .i64 0), .v (.slice none 0 0), .v (.slice none 0 0)],[.v (.int .i64 n1), .v (.int .i64 x0), .v (.int .i64 x1), .v (.int .i64 x2), .v (.int .i64 x3), .v (.slice none 0 0), .v (.slice none 0 0)]],[]⟩⟩) ?_ ?_
 ·skip
  refine B0 (h:=e_ (BK (Ar (h:=?_))));refine A4 rfl (fun hb2 hc2=>?_) (fun hb2 hc2=>?_)
  ·refine Bt (h:=BY (h:=?_));refine A3 rfl (Ax 0 (hc:=GQ l _ _ (fun _=>true) (by omega) (by rfl) (by rfl) (by rfl)) (hR:=?_));rintro r a3 ha3 ⟨k3,rfl,p3⟩;refine Ay ?_;refine m_ (h:=BY (h:=?_));refine A3 rfl (Ax 0 (hc:=GQ l _ _ (fun _=>true) (by omega) (by rfl) (by rfl) (by rfl)) (hR:=?_));rintro r a4 ha4 ⟨k4,rfl,p4⟩;refine Ay ?_;refine Bi (h:=CS (h:=C4 (BE (AT (?_)))));refine⟨_,⟨_,_,_,_,_,_,?_,rfl⟩,(wk 3 0)⟩<;>omega
  refine Ar (h:=?_);refine A4 rfl (fun hb3 hc3=>?_) (fun hb3 hc3=>?_)
  ·refine Bt (h:=BY (h:=?_));refine A3 rfl (Ax 0 (hc:=GQ l _ _ (fun _=>true) (by omega) (by rfl) (by rfl) (by rfl)) (hR:=?_));rintro r a5 ha5 ⟨k5,rfl,p5⟩;refine Ay ?_;refine f_ (h:=?_);refine A3 rfl (Bw (len:=4) (sz:=1) (n:=0) (by kernel_rfl) rfl rfl rfl rfl ?_);refine s_ (h:=C4 (BE (AT (?_))));refine⟨_,⟨_,_,_,_,_,_,?_,rfl⟩,(wk 3 0)⟩<;>omega
  refine q_ (Ar (h:=?_));refine A4 rfl (fun hb4 hc4=>?_) (fun hb4 hc4=>?_)
  ·refine AF (CX (h:=Bt (h:=?_)));refine A3 rfl (Ax 0 (hc:=Gn l _ (3) (by omega) (by omega)) (hR:=?_));rintro r a6 ha6 ⟨k6,rfl,p6,q6,o6⟩;refine Ay ?_;refine f_ (h:=?_);refine A3 rfl (Bw (len:=4) (sz:=1) (n:=0) (by kernel_rfl) rfl rfl rfl rfl ?_);refine s_ (h:=C4 (BE (AT (?_))));refine⟨_,⟨_,_,_,_,_,_,?_,rfl⟩,(wk 3 0)⟩<;>omega
  refine Aw (EW (h:=?_));refine A4 rfl (fun hb5 hc5=>?_) (fun hb5 hc5=>?_)
  ·refine Bt (h:=?_);refine A3 rfl (Ax 0 (hc:=Gn l _ (3) (by omega) (by omega)) (hR:=?_));rintro r a7 ha7 ⟨k7,rfl,p7,q7,o7⟩;refine Ay ?_;refine f_ (h:=?_);refine A3 rfl (Bw (len:=4) (sz:=1) (n:=0) (by kernel_rfl) rfl rfl rfl rfl ?_);refine s_ (h:=C4 (BE (AT (?_))));refine⟨_,⟨_,_,_,_,_,_,?_,rfl⟩,(wk 3 0)⟩<;>omega
  refine Ar (h:=?_);refine A4 rfl (fun hb6 hc6=>?_) (fun hb6 hc6=>?_)
  ·refine Bt (h:=?_);refine A3 rfl (Ax 0 (hc:=E1 l _ (1) (4) (by omega) (by omega) (by omega) (by omega)) (hR:=?_));rintro r a8 ha8 ⟨k8,rfl,p8,q8⟩;refine Ay ?_;refine m_ (h:=BY (h:=?_));refine A3 rfl (Ax 0 (hc:=GQ l _ _ (fun _=>true) (by omega) (by rfl) (by rfl) (by rfl)) (hR:=?_));rintro r a9 ha9 ⟨k9,rfl,p9⟩;refine Ay ?_;refine Bi (h:=CS (h:=C4 (BE (AT (?_)))));refine⟨_,⟨_,_,_,_,_,_,?_,rfl⟩,(wk 3 0)⟩<;>omega
  refine BD (BE (AT (?_)));refine⟨_,⟨_,_,_,_,_,_,?_,rfl⟩,(wk 3 0)⟩<;>omega
 rintro s ⟨b2,n1,x0,x1,x2,x3,hb2,rfl⟩;refine Ca (h:=?_);refine LY 2 5 9 1 rfl rfl (by repeat constructor) (by repeat constructor) (by repeat constructor) ?_;refine BU (fun n s=>∃(j b1:Nat) (ps:List AE),j≤nb∧n=nb - j∧b1≤b2+20 * j∧ps.length=j∧s=⟨look [(0, .bp 0 0),(2, .bp 1 0),(3, .bp 2 0),(5, .v (.int .i64 (nb:Int))),(6, .v (.int .i64 lc)),(7, .v (.int .i64 ld)),(9, .v (.int .i64 (j:Int)))],⟨[E4 l b1,[.v (.int .i64 0), .v (.int .i64 0), .v (.int .i64 0), .v (.int .i64 0), .v (.int .i64 0), .v (.slice none 0 0), .v (.slice none 0 0)],[.v (.int .i64 n1), .v (.int .i64 x0), .v (.int .i64 x1), .v (.int .i64 x2), .v (.int .i64 x3), .sl 1 (ps.map DE) (some 0), .v (.slice none 0 0)]],[(9,1,ps.map DE)]⟩⟩) (nb) ((wk 3 1)) (⟨0,b2,[],by omega,rfl,by omega,by simp,rfl⟩) ?_;rintro n s ⟨j,b1,ps,hj,rfl,hb1,hps,rfl⟩;refine Dq (h:=D2 (h:=?_));refine A4 rfl (fun hb7 hc7=>?_) (fun hb7 hc7=>?_)
 ·refine AF (q_ (BK (BO ([(1,[.v (.int .i64 0), .v (.int .i64 0), .v (.int .i64 0), .v (.int .i64 0), .v (.int .i64 0), .v (.slice none 0 0), .v (.slice none 0 0)]),(2,[.v (.int .i64 n1), .v (.int .i64 x0), .v (.int .i64 x1), .v (.int .i64 x2), .v (.int .i64 x3), .sl 1 (ps.map DE) (some 0), .v (.slice none 0 0)])]) 7 (h:=AD 0 (h:=A9 1 (h:=AG 2 (h:=?_)))))));refine c_ 3 rfl (Ax 0 (hc:=gY l _ (by omega)) (hR:=?_));rintro r a10 ha10 ⟨k10,rfl,p10⟩;refine Ay ?_;refine o_ (h:=Jk 4 (h:=?_));refine c_ 5 rfl (EF rfl rfl rfl (by simp<;>omega) (by repeat constructor) ?_);refine o_ (h:=AD 6 (h:=?_));refine B6 7 (h:=z_ (h:=BE (t_ (Aw (m_ (h:=Fc (h:=a_ (h:=C4 (AT (?_))))))))));refine⟨_,_,?_,⟨j+1,_,ps++[_],by omega,rfl,?_,?_,rfl⟩,(by rw[List.map_append];exact Ao 3 1 rfl rfl rfl rfl ((by repeat (first|exact Sub.nil|refine Ap rfl rfl ?_|refine At ?_|refine Au rfl ?_|refine Av rfl ?_))))⟩
  ·omega
  ·omega
  simp;omega
 refine CJ (h:=Dq (h:=m_ (h:=?_)));refine A3 rfl (Ax 0 (hc:=E1 l _ lc ld (by omega) (by omega) (by omega) (by omega)) (hR:=?_));rintro r a11 ha11 ⟨k0,rfl,p0,p1⟩;refine Ay ?_;obtain⟨m,rfl⟩:=Int.eq_ofNat_of_zero_le (show 0≤k0 by omega);refine B4 (h:=BK (?_));refine LY 2 6 9 1 rfl rfl (by repeat constructor) (by repeat constructor) (by repeat constructor) ?_;refine BU (fun n s=>∃(j b3:Nat) (rs:List AE),j≤m∧n=j∧b3≤b1+1+(m - j)∧rs.length=m - j∧s=⟨look [(0, .bp 0 0),(2, .bp 1 0),(3, .bp 2 0),(10, .v (.int .i64 (j:Int)))],⟨[E4 l b3,[.v (.int .i64 0), .v (.int .i64 0), .v (.int .i64 0), .v (.int .i64 0), .v (.int .i64 0), .v (.slice none 0 0), .v (.slice none 0 0)],[.v (.int .i64 n1), .v (.int .i64 x0), .v (.int .i64 x1), .v (.int .i64 x2), .v (.int .i64 x3), .sl 1 (ps.map DE) (some 0), .sl 1 (rs.map DE) (some 1)]],[(9,1,ps.map DE),(9,1,rs.map DE)]⟩⟩) (m) ((wk 3 2)) (⟨m,_,[],by omega,rfl,by omega,by simp,rfl⟩) ?_;rintro n s ⟨j,b3,rs,hj,hn,hb3,hrs,rfl⟩;subst n;refine Bk (h:=E6 (h:=e_ (?_)));refine A4 rfl (fun hb8 hc8=>?_) (fun hb8 hc8=>?_)
 ·refine AF (q_ (BK (BO ([(1,[.v (.int .i64 0), .v (.int .i64 0), .v (.int .i64 0), .v (.int .i64 0), .v (.int .i64 0), .v (.slice none 0 0), .v (.slice none 0 0)]),(2,[.v (.int .i64 n1), .v (.int .i64 x0), .v (.int .i64 x1), .v (.int .i64 x2), .v (.int .i64 x3), .sl 1 (ps.map DE) (some 0), .sl 1 (rs.map DE) (some 1)])]) 8 (h:=AD 0 (h:=A9 1 (h:=AG 2 (h:=Jk 3 (h:=?_))))))));refine c_ 4 rfl (Ax 0 (hc:=MW l _ _ (fun _=>true) (by omega) (by rfl) (by rfl) (by rfl)) (hR:=?_));rintro r a12 ha12 ⟨k12,rfl,p12⟩;refine Ay ?_;refine o_ (h:=Jk 5 (h:=?_));refine c_ 6 rfl (EF rfl rfl rfl (by simp<;>omega) (by repeat constructor) ?_);refine o_ (h:=AD 7 (h:=?_));refine B6 8 (h:=z_ (h:=BE (t_ (Aw (m_ (h:=Kf (h:=a_ (h:=C4 (AT (?_))))))))));obtain⟨j,rfl⟩:∃i,j=i+1:=⟨j - 1,by omega⟩;refine⟨_,_,?_,⟨j,_,rs++[_],by omega,rfl,?_,?_,rfl⟩,(by rw[List.map_append];exact Ao 3 2 rfl rfl rfl rfl (by repeat (first|exact Sub.nil|refine Ap rfl rfl ?_|(apply Sub.of;(focus exact rfl);(focus exact LeA.of_eq (vi (by omega)));(focus exact rfl)))))⟩
  ·omega
  ·omega
  simp;omega
 refine CJ (h:=?_);refine B9 (fun S=>∃(b9:Nat) (n2 w0 w1 w2 w3:Int),b9≤a+300∧S=⟨look [(2, .bp 1 0),(3, .bp 2 0)],⟨[E4 l b9,[.v (.int .i64 0), .v (.int .i64 0), .v (.int .i64 0), .v (.int .i64 0), .v (.int .i64 0), .v (.slice none 0 0), .v (.slice none 0 0)],[.v (.int .i64 n2), .v (.int .i64 w0), .v (.int .i64 w1), .v (.int .i64 w2), .v (.int .i64 w3), .sl 1 (ps.map DE) (some 0), .sl 1 (rs.map DE) (some 1)]],[(9,1,ps.map DE),(9,1,rs.map DE)]⟩⟩) ?_ ?_
 ·skip
  refine AX (h:=?_);refine A3 rfl (Ax 0 (hc:=Gn l _ (40) (by omega) (by omega)) (hR:=?_));rintro r a13 ha13 ⟨k13,rfl,p13,q13,o13⟩;refine Ay ?_;refine BN (h:=?_);refine A4 rfl (fun hb9 hc9=>?_) (fun hb9 hc9=>?_)
  ·refine Bt (h:=?_);refine A3 rfl (Ax 0 (hc:=Gn l _ (2) (by omega) (by omega)) (hR:=?_));rintro r a14 ha14 ⟨k14,rfl,p14,q14,o14⟩;refine Ay ?_;refine m_ (h:=?_);refine A3 rfl (Ax 0 (hc:=E1 l _ (-1) (33) (by omega) (by omega) (by omega) (by omega)) (hR:=?_));rintro r a15 ha15 ⟨k15,rfl,p15,q15⟩;refine Ay ?_;refine f_ (h:=?_);refine A3 rfl (Bw (len:=4) (sz:=1) (n:=3) (by kernel_rfl) rfl rfl rfl rfl ?_);refine s_ (h:=CS (h:=DC (h:=?_)));refine⟨_,⟨_,_,_,_,_,_,?_,rfl⟩,(wk 3 2)⟩;omega
  refine BD (AT (?_));refine⟨_,⟨_,_,_,_,_,_,?_,rfl⟩,(wk 3 2)⟩;omega
 rintro S ⟨b9,n2,w0,w1,w2,w3,hb9,rfl⟩;refine Dr (h:=e_ (B5 (?_)));refine AU (r:= .agg (FM ⟨n2,w0,w1,w2,w3,ps,rs⟩)) none (h5:=?_) (h6:=⟨_,rfl,rfl,b9,by omega,rfl,⟨n2,w0,w1,w2,w3,ps,rs⟩,(by show ps.length≤1000;omega),(by show rs.length≤1000;omega),rfl⟩);exact LeA.agg (.cons (A7 _) (.cons (A7 _) (.cons (A7 _) (.cons (A7 _) (.cons (A7 _) (.cons (LeA.tok _ _ _) (.cons (LeA.tok _ _ _) .nil)))))))
theorem Rj(l:List Int)(a:Nat)(t:Tab)(ha:a≤10000000000)(ht:TabB t):GenF prog 50 l a [.agg (Ai t)] 3 (fun r=>∃p:Int,r= .v (.int .i64 p)):=by
 have hfew:=ht.few;have hpl:(t.ps.map Am).length=t.ps.length:=List.length_map _;refine enter Tryz.func50 rfl rfl rfl rfl rfl 1 rfl ?_;refine Ef (h:=B4 (h:=q_ (?_)));refine B9 (fun S=>∃(b:Nat) (q:Bool),b≤a+1∧(q=false→0<t.ps.length)∧S=⟨look [(0, .bp 0 0),(3, .bp 1 0),(13, .v (.bool q))],⟨[E4 l b,Ai t],[]⟩⟩) ?_ ?_
 ·skip
  refine Aw (GG (h:=Dy (h:=?_)));refine AJ false rfl rfl (fun hb1 hc1=>?_) (fun hb1 hc1=>?_)
  ·refine J2 (h:=?_);refine⟨_,⟨_,_,?_,?_,rfl⟩,Ao 2 0 rfl rfl rfl rfl ((by repeat (first|exact Sub.nil|refine Ap rfl rfl ?_|refine At ?_|refine Au rfl ?_|refine Av rfl ?_)))⟩
   ·omega
   intro q
   (cases q;done)
  refine m_ (h:=?_);refine Aq (Ax 0 (hc:=Gn l _ (24) (by omega) (by omega)) (hR:=?_));rintro r a1 ha1 ⟨k1,rfl,p1,q1,o1⟩;refine Ay ?_;refine EG (h:=Fi (h:=?_));refine⟨_,⟨_,_,?_,?_,rfl⟩,Ao 2 0 rfl rfl rfl rfl ((by repeat (first|exact Sub.nil|refine Ap rfl rfl ?_|refine At ?_|refine Au rfl ?_|refine Av rfl ?_)))⟩
  ·omega
  intro q
  first|(cases q;done)|omega
 rintro S ⟨b,q,hb,hq,rfl⟩;refine A4 rfl (fun hb2 hc2=>?_) (fun hb2 hc2=>?_)
 ·refine AX (h:=?_);refine A3 rfl (Ax 0 (hc:=E1 l _ (0) (9) (by omega) (by omega) (by omega) (by omega)) (hR:=?_));rintro r a2 ha2 ⟨k2,rfl,p2,q2⟩;refine Ay ?_;refine E8 (h:=?_);refine AU none (h5:=(A7 _)) (h6:=⟨_,rfl,rfl,_,?_,rfl,_,rfl⟩)<;>omega
 have hq0:0<t.ps.length:=hq (by assumption);refine AF (q_ (BO ([(1,Ai t)]) 11 (h:=AD 0 (h:=A9 1 (h:=AG 2 (h:=AD 3 (h:=A9 4 (h:=MH 5 (h:=?_)))))))));refine c_ 6 rfl (Ax 0 (hc:=Gn l _ ((t.ps.map Am).length:Int) (by omega) (by rw[hpl];omega)) (hR:=?_));rintro r a3 ha3 ⟨kn,rfl,p0,q0, -⟩;refine Ay ?_;obtain⟨m,rfl⟩:=Int.eq_ofNat_of_zero_le p0;have hm:m<t.ps.length:=by have:=q0 (by rw[hpl];omega);rw[hpl]at this;omega
 obtain⟨x,hx⟩:∃x,t.ps[m]?=some x:=⟨_,B2 hm⟩;have hrow:(t.ps.map Am)[m]?=some (Am x):=by rw[List.getElem?_map,hx];rfl
 refine o_ (h:=?_);refine By 7 rfl (fun _ hS=>D7 (n:=m) rfl rfl rfl hrow ⟨rfl,rfl⟩) ?_;refine AD 8 (h:=A9 9 (h:=BB 10 (h:=z_ (h:=t_ (B5 (?_))))));refine AU none (h5:=(A7 _)) (h6:=⟨_,rfl,rfl,_,?_,rfl,_,rfl⟩)<;>omega
theorem s6(l:List Int)(a:Nat)(ha:a≤10000000):GenF prog 14 l a [] 6000 (fun r=>∃s,r= .agg (CP s)∧SysV s 14):=by
 refine enter Tryz.func14 rfl rfl rfl rfl rfl 1 rfl ?_;refine w_ (CY (h:=e_ (AX (h:=?_))));refine A3 rfl (Ax 0 (hc:=E1 l _ (1) (3) (by omega) (by omega) (by omega) (by omega)) (hR:=?_));rintro r a1 ha1 ⟨k1,rfl,p1,q1⟩;refine Ay ?_;refine A3 rfl (A8 (YK k1) ?_);rintro r rfl;refine JG (h:=?_);refine A3 rfl (Ax 0 (hc:=E1 l _ (3) (14) (by omega) (by omega) (by omega) (by omega)) (hR:=?_));rintro r a2 ha2 ⟨k2,rfl,p2,q2⟩;refine Ay ?_;refine B4 (h:=BK (?_));have hs0:=rU p1 q1;obtain⟨M,rfl⟩:=Int.eq_ofNat_of_zero_le (show 0≤k2 by omega);refine BU (fun n S=>∃(j b:Nat) (s:Syst),j≤M∧n=j∧b+400 * j≤a+2+400 * M∧SysV s (14 - j)∧S=⟨look [(0, .bp 0 0),(2, .bp 1 0),(3, .bp 2 0),(5, .v (.int .i64 (j:Int)))],⟨[E4 l b,K3,CP s],[]⟩⟩) (M) ((wk 3 0)) (⟨M,_,_,B3 _,rfl,by omega,hs0.mono (BH _),rfl⟩) ?_;rintro n S ⟨j,b,s,hj,rfl,hb,hs,rfl⟩;refine Bk (h:=E6 (h:=e_ (?_)));refine A4 rfl (fun hb1 hc1=>?_) (fun hb1 hc1=>?_)
 ·refine AF (q_ (BK (BO ([(1,K3)]) 12 (h:=AG 1 (h:=AD 2 (h:=AG 5 (h:=?_)))))));refine Fb 0 3 rfl rfl ?_ ?_
  ·refine KE rfl rfl rfl ?_;refine o_ (h:=?_);refine c_ 3 rfl (M5 rfl rfl rfl ?_);refine o_ (h:=?_);refine c_ 4 rfl (Ax 0 (hc:=Rj l _ s.tab (by omega) hs.tab) (hR:=?_));rintro r a3 ha3 ⟨pid,rfl⟩;refine Ay ?_;refine o_ (h:=?_);refine c_ 6 rfl (Ax 0 (hc:=Ph l _ (by omega)) (hR:=?_));rintro r a4 ha4 ⟨c,hcp,hca,rfl⟩;refine Ay ?_;refine o_ (h:=?_);refine c_ 7 rfl (A8 (Pd s pid c hs.spc (by have:=hs.few;omega) hs.tab hs.num hcp hca) ?_);rintro r rfl;refine o_ (h:=AG 8 (h:=BF 9 (h:=BF 10 (h:=?_))));refine B6 11 (h:=z_ (h:=BE (t_ (Aw (m_ (h:=?_))))));refine A3 rfl (M7 rfl rfl (by omega) ?_);refine Ch (h:=?_);refine⟨n - 1,_,by omega,⟨n - 1,_,(Cx s pid c).1,by omega,rfl,?_,(Ri hs pid c).mono (by omega),rfl⟩,(by rw[show((n - 1:Nat):Int)=(n:Int) - 1 by omega];exact Ao 3 0 rfl rfl rfl rfl ((by repeat (first|exact Sub.nil|refine Ap rfl rfl ?_|refine At ?_|refine Au rfl ?_|refine Av rfl ?_))))⟩;omega
  refine M5 rfl rfl rfl ?_;refine o_ (h:=?_);refine Fb 0 4 rfl rfl ?_ ?_
  ·refine KE rfl rfl rfl ?_;refine o_ (h:=?_);refine c_ 4 rfl (Ax 0 (hc:=Rj l _ s.tab (by omega) hs.tab) (hR:=?_));rintro r a5 ha5 ⟨pid,rfl⟩;refine Ay ?_;refine o_ (h:=?_);refine c_ 6 rfl (Ax 0 (hc:=Ph l _ (by omega)) (hR:=?_));rintro r a6 ha6 ⟨c,hcp,hca,rfl⟩;refine Ay ?_;refine o_ (h:=?_);refine c_ 7 rfl (A8 (Pd s pid c hs.spc (by have:=hs.few;omega) hs.tab hs.num hcp hca) ?_);rintro r rfl;refine o_ (h:=AG 8 (h:=BF 9 (h:=BF 10 (h:=?_))));refine B6 11 (h:=z_ (h:=BE (t_ (Aw (m_ (h:=?_))))));refine A3 rfl (M7 rfl rfl (by omega) ?_);refine Ch (h:=?_);refine⟨n - 1,_,by omega,⟨n - 1,_,(Cx s pid c).1,by omega,rfl,?_,(Ri hs pid c).mono (by omega),rfl⟩,(by rw[show((n - 1:Nat):Int)=(n:Int) - 1 by omega];exact Ao 3 0 rfl rfl rfl rfl ((by repeat (first|exact Sub.nil|refine Ap rfl rfl ?_|refine At ?_|refine Au rfl ?_|refine Av rfl ?_))))⟩;omega
  refine Ax 0 (hc:=Rj l _ s.tab (by omega) hs.tab) (hR:=?_);rintro r a7 ha7 ⟨pid,rfl⟩;refine Ay ?_;refine o_ (h:=?_);refine Fb 0 6 rfl rfl ?_ ?_
  ·refine KE rfl rfl rfl ?_;refine o_ (h:=?_);refine c_ 6 rfl (Ax 0 (hc:=Ph l _ (by omega)) (hR:=?_));rintro r a8 ha8 ⟨c,hcp,hca,rfl⟩;refine Ay ?_;refine o_ (h:=?_);refine c_ 7 rfl (A8 (Pd s pid c hs.spc (by have:=hs.few;omega) hs.tab hs.num hcp hca) ?_);rintro r rfl;refine o_ (h:=AG 8 (h:=BF 9 (h:=BF 10 (h:=?_))));refine B6 11 (h:=z_ (h:=BE (t_ (Aw (m_ (h:=?_))))));refine A3 rfl (M7 rfl rfl (by omega) ?_);refine Ch (h:=?_);refine⟨n - 1,_,by omega,⟨n - 1,_,(Cx s pid c).1,by omega,rfl,?_,(Ri hs pid c).mono (by omega),rfl⟩,(by rw[show((n - 1:Nat):Int)=(n:Int) - 1 by omega];exact Ao 3 0 rfl rfl rfl rfl ((by repeat (first|exact Sub.nil|refine Ap rfl rfl ?_|refine At ?_|refine Au rfl ?_|refine Av rfl ?_))))⟩;omega
  refine Ax 0 (hc:=Ph l _ (by omega)) (hR:=?_);rintro r a9 ha9 ⟨c,hcp,hca,rfl⟩;refine Ay ?_;refine o_ (h:=?_);refine c_ 0 rfl (KE rfl rfl rfl ?_);refine o_ (h:=?_);refine c_ 7 rfl (A8 (Pd s pid c hs.spc (by have:=hs.few;omega) hs.tab hs.num hcp hca) ?_);rintro r rfl;refine o_ (h:=AG 8 (h:=BF 9 (h:=BF 10 (h:=?_))));refine B6 11 (h:=z_ (h:=BE (t_ (Aw (m_ (h:=?_))))));refine A3 rfl (M7 rfl rfl (by omega) ?_);refine Ch (h:=?_);refine⟨n - 1,_,by omega,⟨n - 1,_,(Cx s pid c).1,by omega,rfl,?_,(Ri hs pid c).mono (by omega),rfl⟩,(by rw[show((n - 1:Nat):Int)=(n:Int) - 1 by omega];exact Ao 3 0 rfl rfl rfl rfl ((by repeat (first|exact Sub.nil|refine Ap rfl rfl ?_|refine At ?_|refine Au rfl ?_|refine Av rfl ?_))))⟩;omega
 refine CJ (h:=Dr (h:=e_ (B5 (?_))));refine AU none (h5:=(A7 _)) (h6:=⟨_,rfl,rfl,b,by omega,rfl,s,rfl,hs.mono (by omega)⟩)
theorem s7(l:List Int)(a:Nat)(s:Syst)(ha:a≤100000000)(hs:SysV s 900):GenF prog 13 l a [.agg (CP s)] 400 (fun r=>∃(pid:Int) (c:Cal) (p:Prc),c.paths.length≤1000∧c.args.length≤1000∧r= .tup [.agg (Pg p c (Cx s pid c).2), .agg (CP (Cx s pid c).1), .agg (K1 (Cx s pid c).2)]):=by
 have hfew:=hs.tab.few;refine enter Tryz.func13 rfl rfl rfl rfl rfl 1 rfl ?_;refine EH (h:=CY (h:=CY (h:=e_ (AX (h:=Aa (h:=?_))))));refine A3 rfl (Ax 0 (hc:=Rj l _ s.tab (by omega) hs.tab) (hR:=?_));rintro r a1 ha1 ⟨pid,rfl⟩;refine Ay ?_;refine m_ (h:=?_);refine A3 rfl (Ax 0 (hc:=Ph l _ (by omega)) (hR:=?_));rintro r a2 ha2 ⟨c,hcp,hca,rfl⟩;refine Ay ?_;refine CY (h:=a_ (h:=s_ (h:=e_ (FR (h:=l_ (h:=?_))))));refine A3 rfl (A8 (Pd s pid c hs.spc (by have:=hs.few;omega) hs.tab hs.num hcp hca) ?_);rintro r rfl;refine GF (h:=CY (h:=La (h:=s_ (h:=e_ (C5 (h:=JM (h:=?_)))))));refine A3 rfl (Gi (y:= .agg (Pg Tt c (Cx s pid c).2)) (Dn ⟨rfl,rfl⟩) ?_);refine Dz (h:=Ca (h:=?_));obtain⟨b1,hb1⟩:∃b,b=a2:=⟨_,rfl⟩;subst hb1;refine BU (fun n S=>∃(j:Nat) (p:Prc),j≤s.tab.ps.length∧n=s.tab.ps.length - j∧S=⟨look [(0, .bp 0 0),(3, .bp 1 0),(4, .bp 2 0),(5, .bp 3 0),(6, .bp 4 0),(7, .v (.int .i64 pid)),(9, .bp 6 0),(10, .bp 7 0),(11, .bp 8 0),(12, .v (.int .i64 (j:Int)))],⟨[E4 l b1,CP s,rX,K3,Ky,FM c,CP (Cx s pid c).1,K1 (Cx s pid c).2,Pg p c (Cx s pid c).2],[]⟩⟩) (s.tab.ps.length) ((wk 9 0)) (⟨0,Tt,BH _,rfl,rfl⟩) ?_;rintro n S ⟨j,p,hj,rfl,rfl⟩;refine Bk (h:=Dp (h:=Gm (h:=?_)));refine A4 rfl (fun hb1 hc1=>?_) (fun hb1 hc1=>?_)
 ·obtain⟨hlt,x,hy,hrow, -⟩:=C1 Am hc1;refine C0 (h:=w_ (Dp (h:=Fw (h:=Fx (h:=BN (h:=?_))))));refine A4 rfl (fun hb2 hc2=>?_) (fun hb2 hc2=>?_)
  ·refine Aw (Dp (h:=Fw (h:=l_ (h:=CS (h:=C4 (Eg (h:=?_)))))));exact⟨s.tab.ps.length - (j+1),_,by omega,⟨j+1,x,by omega,rfl,rfl⟩,Ao 9 0 rfl rfl rfl rfl ((by repeat (first|exact Sub.nil|refine Ap rfl rfl ?_|refine At ?_|refine Au rfl ?_|refine Av rfl ?_)))⟩
  refine DH (h:=?_)
  first|exact⟨s.tab.ps.length - (j+1),_,by omega,⟨j+1,x,by omega,rfl,rfl⟩,Ao 9 0 rfl rfl rfl rfl ((by repeat (first|exact Sub.nil|refine Ap rfl rfl ?_|refine At ?_|refine Au rfl ?_|refine Av rfl ?_)))⟩|exact⟨s.tab.ps.length - (j+1),_,by omega,⟨j+1,p,by omega,rfl,rfl⟩,Ao 9 0 rfl rfl rfl rfl ((by repeat (first|exact Sub.nil|refine Ap rfl rfl ?_|refine At ?_|refine Au rfl ?_|refine Av rfl ?_)))⟩
 refine Mi (Ke (Ke (LW (t_ (q_ (BO ([(0,E4 l b1),(1,CP s),(5,FM c),(6,CP (Cx s pid c).1),(7,K1 (Cx s pid c).2),(8,Pg p c (Cx s pid c).2)]) 6 (h:=A9 0 (h:=A9 1 (h:=A9 2 (h:=?_))))))))));refine B6 3 (h:=?_);refine B6 4 (h:=?_);refine B6 5 (h:=z_ (h:=t_ (B5 (?_))));refine AU none (h5:=(A7 _)) (h6:=⟨_,rfl,rfl,_,?_,rfl,pid,c,p,hcp,hca,rfl⟩);omega
end
def OL(v:Vdt):List Value:=[.bool v.sel, .int .i64 v.rule, .string v.key]
set_option maxRecDepth 10000 in
set_option maxHeartbeats 1000000 in
theorem ZR(op:BinOp)(x:Vdt)(w:World)(h:op= .eql∨op= .neq):(binOp op 67 (.agg (OL x).toArray) (.agg (OL x).toArray)).run prog w= .ok (.bool (decide (op= .eql))) w:=by
 have u3:=Tryz.underlying3;have a3:=Tryz.isAgg3;have z3:=Tryz.sizeOf3;have u4:=Tryz.underlying4;have a4:=Tryz.isAgg4;have z4:=Tryz.sizeOf4;have u9:=Tryz.underlying9;have a9:=Tryz.isAgg9;have z9:=Tryz.sizeOf9;have hS:prog.underlying 67=some (.struct (prog.fieldsOf 67)):=by kernel_rfl
 have hp:prog.stoodInHeld 67=false:=by kernel_rfl
 have e:∀w,(Op.equalIn 10000 67 (.agg (OL x).toArray) (.agg (OL x).toArray)).run prog w= .ok true w:=by
  intro w;rw[show(10000:Nat)=9999+1 from rfl,run_equalIn_agg w 9999 67 _ _ hS hp];simp only[Program.fieldsOf,Tryz.underlying67,OL]
  go_simp
 rcases h with rfl|rfl
 ·rw[run_eql_struct,e];rfl
 rw[run_neq_struct,e];rfl
theorem Rk(x:Vdt):AllV (H6 x) (OL x):=by repeat constructor
theorem ZS{ev:Operand→Option AV}{h:AH}{R:AV→AH→Prop}{d:Option Tmp}{ty:TypeId}{pos:String}{af:Array Edge}{gd:Option (Nat×Bool)}{yT:TypeId}{x y:Operand}(z:Vdt)(hx:ev x=some (.agg (H6 z)))(hy:ev y=some (.agg (H6 z)))(hR:R (.v (.bool true)) h):AStep prog ⟨d, .binOp .eql 67 x y yT,ty,pos,af,gd⟩ ev h R:=
 JB hx hy (Rk z) (Rk z) (fun w=>ZR .eql z w (.inl rfl)) (by kernel_rfl) hR
theorem ZT{ev:Operand→Option AV}{h:AH}{R:AV→AH→Prop}{d:Option Tmp}{ty:TypeId}{pos:String}{af:Array Edge}{gd:Option (Nat×Bool)}{yT:TypeId}{x y:Operand}(z:Vdt)(hx:ev x=some (.agg (H6 z)))(hy:ev y=some (.agg (H6 z)))(hR:R (.v (.bool false)) h):AStep prog ⟨d, .binOp .neq 67 x y yT,ty,pos,af,gd⟩ ev h R:=
 JB hx hy (Rk z) (Rk z) (fun w=>ZR .neq z w (.inr rfl)) (by kernel_rfl) hR
theorem s8(p:Prc)(c:Cal)(r:Res):∃(c':Ctx) (k':Cxs),Pg p c r=D5 c' k'∧c'.items.length=r.items.length:=
 ⟨⟨2,p.pid,p.ppid,p.uid,p.euid,p.gid,p.egid,p.auid,p.ses,p.cwd,p.comm,p.exe,p.audited,c.num,c.a0,c.a1,c.a2,c.a3,r.exit,r.items,0⟩,⟨p.opens.map GX,c.paths.map DE,c.args.map DE⟩,rfl,rfl⟩
theorem s9(l:List Int)(a:Nat)(s:Syst)(ha:a≤100000000)(hs:SysV s 900):GenF prog 13 l a [.agg (CP s)] 400 (fun r=>∃(c:Ctx) (k:Cxs) (s1:Syst) (r1:Res),c.items.length≤1000∧r= .tup [.agg (D5 c k), .agg (CP s1), .agg (K1 r1)]):=
 (s7 l a s ha hs).mono (B3 _) fun r ⟨pid,c,p,hp,_,e⟩=>by
   obtain⟨c',k',e1,e2⟩:=s8 p c (Cx s pid c).2;exact⟨c',k',_,_,by rw[e2];exact Nat.le_trans (rY s pid c) hp,by rw[e,e1]⟩
def cF(c:Ctx):Ctx:={c with audited:=false}
def cT(c:Ctx):Ctx:={c with audited:=true}
def T4:List Int:=[1331,1305,1320,1200]
theorem sA{z:Int}{j:Nat}(h:T4[j]?=some z):Lx z=false:=by
 have:=Aj h;simp[T4]at this;rcases this with rfl|rfl|rfl|rfl<;>rfl
section
theorem sB(l:List Int):AFn prog 6 [.sl 1 (l.map C7) none] (fun r=>r= .v (.bool true)):=by
 have hT4:T4.length≤1000:=by decide
 have hnt:∀r∈Fa.rules,r.tests.length≤1000:=by simp[Fa]
 have hent:∀(c:Ctx) (k:Cxs),AFn prog 22 [.agg [.sl 8 [] none, .sl 6 [] none], .agg (D5 c k)] (fun r=>r= .tup [.agg (H6 J8), .v (.bool false)]):=fun c k=>(Yy Fa c k (by decide) hnt).mono fun r hr=>by rw[hr];rfl
 have hexi:∀(s:Spc) (c:Ctx) (k:Cxs),SpcB s→c.items.length≤1000→AFn prog 24 [.agg [.sl 8 [] none, .sl 6 [] none], .agg (AY s), .agg (D5 c k)] (fun r=>r= .agg (H6 J8)):=fun s c k hs hi=>(Z6 s Fa c k hs (by decide) rfl hnt hi).mono fun r hr=>by rw[hr];rfl
 have htsk:∀(c:Ctx) (k:Cxs),c.items.length≤1000→AFn prog 28 [.agg [.sl 8 [] none, .sl 6 [] none], .agg (D5 c k)] (fun r=>r= .v (.bool true)):=fun c k hi=>(oQ Fa c k (by decide) hnt hi _ rfl).mono fun r hr=>by rw[hr];rfl
 have husr:∀(c:Ctx) (k:Cxs),c.items.length≤1000→AFn prog 30 [.agg [.sl 8 [] none, .sl 6 [] none], .agg (D5 (cT c) k)] (fun r=>r= .agg (H6 ⟨true, -1,⟨#[]⟩⟩)):=fun c k hi=>(Z9 Fa (cT c) k (by decide) hnt hi _ rfl).mono fun r hr=>by rw[hr];rfl
 refine enter Tryz.func6 rfl rfl rfl rfl rfl 0 rfl ?_;refine EX (h:=?_);refine A3 rfl (aH rfl (by repeat (first|exact Args.nil|refine Args.cons _ _ _ _ _ rfl (L5 rfl) ?_|refine Args.cons _ _ _ _ _ rfl (MB _) ?_|refine Args.cons _ _ _ _ _ rfl (LX _) ?_|refine Args.cons _ _ _ _ _ rfl (MF rfl (by repeat (first|exact A7 _|exact LeA.nil _|exact LeL.refl _|refine LeA.agg ?_|refine LeA.tup ?_|exact LeL.nil|refine LeL.cons ?_ ?_|exact LeA.any _))) ?_)) rfl (gX l) (by repeat constructor) ?_)
 skip
 refine Bu (h:=?_);refine A3 rfl (Ax 0 (hc:=s6 l _ (by omega)) (hR:=?_));rintro r a1 ha1 ⟨s,rfl,hs⟩;refine Ay ?_;have hv:=hs.spc;have hmm:s.spc.mounts.length≤1000:=by have:=hs.few;omega
 have hsb:=hv.b hmm;refine Dz (h:=AX (h:=Aa (h:=?_)));refine A3 rfl (Ax 0 (hc:=nP l _ 8 s.spc (by omega) (by omega) hv hmm) (hR:=?_));rintro r a2 ha2 ⟨p,hp,rfl⟩;refine Ay ?_;have sp:=hp.sm (by decide);have hpw:=hp.len;refine Dz (h:=AX (h:=l_ (h:=?_)));refine A3 rfl (Ax 0 (hc:=s9 l _ s (by omega) (hs.mono (by omega))) (hR:=?_));rintro r a3 ha3 ⟨c,k,s1,r1,hit,rfl⟩;refine Ay ?_;refine GF (h:=x_ (h:=CY (h:=CY (h:=La (h:=s_ (h:=s_ (h:=e_ (w_ (f_ (h:=Ct (h:=?_)))))))))));refine B9 (fun S=>∃b:Nat,S=⟨look [(4, .bp 1 0),(5, .bp 2 0),(6, .bp 3 0),(9, .bp 6 0)],⟨[E4 l b,CP s,CL p,D5 (cF c) k,CP s1,K1 r1,H6 J8],[]⟩⟩) ?_ ?_
 ·skip
  refine Aw (Bi (h:=La (h:=DC (h:=?_))));exact⟨_,⟨_,rfl⟩,Ao 7 0 rfl rfl rfl rfl ((by repeat (first|exact Sub.nil|refine Ap rfl rfl ?_|refine At ?_|refine Au rfl ?_|refine Av rfl ?_)))⟩
 rintro S ⟨b,rfl⟩;refine q_ (q_ (Dd 14 (h:=A9 0 (h:=AD 1 (h:=A9 2 (h:=A9 3 (h:=A9 5 (h:=?_))))))));refine c_ 4 rfl (A8 (UF s.spc p (cF c) k hsb sp.rl hpw sp.ts hit) ?_);rintro r rfl;rw[show Lv s.spc p (cF c)=J8 from if_pos rfl];refine o_ (h:=?_);refine FO (i:=6) rfl (ZT J8 rfl rfl ⟨rfl,rfl⟩) ?_;refine AG 7 (h:=?_);refine JA (j:=7) rfl (fun hb1=>?_) (fun hb1=>?_)
 ·have hc1:=bp hb1;exact Df
 have hc1:=bp hb1;refine A9 8 (h:=A9 9 (h:=A9 11 (h:=?_)));refine c_ 10 rfl (A8 (Z9 p (cF c) k sp.rl sp.ts hit _ rfl) ?_);rintro r rfl;rw[show Pc p.rules (cF c).audited (Yx p (cF c))=J8 from if_pos rfl];refine o_ (h:=?_);refine FO (i:=12) rfl (ZT J8 rfl rfl ⟨rfl,rfl⟩) ?_;refine Jl 13 (h:=z_ (h:=t_ (?_)));refine A4 rfl (fun hb2 hc2=>?_) (fun hb2 hc2=>?_)
 ·exact Df
 refine AF (w_ (BY (h:=B4 (h:=Ca (h:=?_)))));refine BU (fun n S=>∃j:Nat,j≤T4.length∧n=T4.length - j∧S=⟨look [(4, .bp 1 0),(5, .bp 2 0),(6, .bp 3 0),(9, .bp 6 0),(10, .sl 1 (T4.map C7) none),(11, .v (.int .i64 (j:Int)))],⟨[E4 l b,CP s,CL p,D5 (cF c) k,CP s1,K1 r1,H6 J8],[]⟩⟩) (T4.length) ((wk 7 0)) (⟨0,BH _,rfl,rfl⟩) ?_;rintro n S ⟨j,hj,rfl,rfl⟩;refine Dq (h:=Gm (h:=?_));refine A4 rfl (fun hb3 hc3=>?_) (fun hb3 hc3=>?_)
 ·obtain⟨hlt,z,hy,hrow, -⟩:=C1 C7 hc3;refine AF (q_ (BK (q_ (Dd 7 (h:=A9 0 (h:=A9 1 (h:=AG 2 (h:=AG 3 (h:=De 4 (h:=A9 5 (h:=?_)))))))))));refine c_ 6 rfl (A8 (oR p (cF c) k sp.rl sp.ts hit z _ rfl) ?_);rintro r rfl;rw[show Ly p.rules z (Z8 p (cF c) z)=false by simp[Ly,sA hy]];refine GJ (h:=t_ (?_));refine A4 rfl (fun hb4 hc4=>?_) (fun hb4 hc4=>?_)
  ·exact Df
  refine DH (h:=?_);refine⟨_,_,?_,⟨j+1,by omega,rfl,rfl⟩,Ao 7 0 rfl rfl rfl rfl ((by repeat (first|exact Sub.nil|refine Ap rfl rfl ?_|refine At ?_|refine Au rfl ?_|refine Av rfl ?_)))⟩;omega
 have e:=CF C7 hj hc3;subst e;refine CJ (h:=w_ (f_ (h:=Ct (h:=w_ (Bi (h:=l_ (h:=?_)))))));refine A3 rfl (A8 (hent (cT c) k) ?_);rintro r rfl;refine m_ (h:=x_ (h:=x_ (h:=CY (h:=s_ (h:=a_ (h:=e_ (q_ (Dd 27 (h:=AG 0 (h:=aZ 1 (h:=AG 2 (h:=?_))))))))))));refine JA (j:=2) rfl (fun hb5=>?_) (fun hb5=>?_)
 ·have hc5:=bp hb5;refine JE 3 (h:=AD 4 (h:=A9 5 (h:=A9 6 (h:=A9 8 (h:=?_)))));refine c_ 7 rfl (A8 (hexi s.spc (cT c) k hsb hit) ?_);rintro r rfl;refine o_ (h:=?_);refine FO (i:=9) rfl (ZS J8 rfl rfl ⟨rfl,rfl⟩) ?_;refine JF 10 (h:=AG 11 (h:=?_));refine JA (j:=11) rfl (fun hb6=>?_) (fun hb6=>?_)
  ·have hc6:=bp hb6;refine JE 12 (h:=A9 13 (h:=?_));refine c_ 14 rfl (A8 (htsk (cT c) k hit) ?_);rintro r rfl;refine o_ (h:=JF 15 (h:=AG 16 (h:=?_)));refine JA (j:=16) rfl (fun hb7=>?_) (fun hb7=>?_)
   ·have hc7:=bp hb7;refine JE 17 (h:=A9 18 (h:=JE 20 (h:=?_)));refine c_ 19 rfl (A8 (husr c k hit) ?_);rintro r rfl;refine o_ (h:=?_);refine FO (i:=21) rfl (ZS ⟨true, -1,⟨#[]⟩⟩ rfl rfl ⟨rfl,rfl⟩) ?_;refine JF 22 (h:=AG 23 (h:=?_));refine JA (j:=23) rfl (fun hb8=>?_) (fun hb8=>?_)
    ·have hc8:=bp hb8;refine c_ 24 rfl (A8 (oP) ?_);rintro r rfl;refine o_ (h:=JF 25 (h:=BB 26 (h:=z_ (h:=t_ (B5 (?_))))));refine A6 ?_
     first|rfl|(exfalso;first|contradiction|omega|(simp_all;done))
    have hc8:=bp hb8;exact Df
   have hc7:=bp hb7;exact Df
  have hc6:=bp hb6;exact Df
 have hc5:=bp hb5;exact Df
end
theorem FilterSilent_walk{H:Type}{enc:TypeId×Value→H}{sp:Nat→Bool}{held:Bool}{base:Nat}(a:Option Addr)(n c:Nat)(w:World){d:DataW H}{p:List MemPlace}(h:DataW.Trod enc prog w base sp held 22 (.slice a n c) d p):
    Calls prog 6 #[.slice a n c] w fun e w'=>e= .returned (.bool true)∧Below w.heap.size w w':=iJ sB a n c w h
end Go.Proofs.YtbgnigjfkbmceaaGreatDoor
