/-
  Part 18 of the proof of WatchTreesP: what the statement's proof uses of the texts in wip/tpl.
-/
import Derived.Test.YtbglbmnhgbgelaaGreatDoorQg17
set_option maxRecDepth 10000
set_option maxHeartbeats 4000000
set_option linter.unusedVariables false
set_option linter.unusedSimpArgs false
namespace Go.Proofs.YtbglbmnhgbgelaaGreatDoor
open Go.RowKit
def Eh(ns:List Nod)(i:Int):Option Int:=(ns.find? fun n:Nod=>n.ino==i).map (·.kind)
def JO(f:AZ)(a:A9):Option Int:=match EE f a.1 with
 |none=>none
 |some d=>Eh d.nodes a.2
theorem iV(f:AZ)(a:A9):AX f a=decide (JO f a=some 2):=by
 have key:∀o:Option Nod,(match o with|none=>false|some n=>n.kind==2)=decide (o.map (·.kind)=some 2):=by
  intro o
  cases o with
  |none=>rfl
  |some n=>by_cases h:n.kind=2<;>simp[h]
 unfold AX JO Bk
 cases EE f a.1 with
 |none=>rfl
 |some d=>exact key _
theorem Oo{j:Int}{g:Nod→Nod}(hi:∀n,(g n).ino=n.ino)(hk:∀n,(g n).kind=n.kind)(i:Int):∀ns:List Nod,Eh (CX ns j g) i=Eh ns i
 |[]=>rfl
 |n::ns=>by
   have ih:=Oo hi hk (j:=j) i ns
   unfold Eh CX at ih ⊢
   rw[List.map_cons,List.find?_cons,List.find?_cons]
   have e1:(if n.ino=j then g n else n).ino=n.ino:=by split<;>simp[hi]
   have e2:(if n.ino=j then g n else n).kind=n.kind:=by split<;>simp[hk]
   rw[e1]
   cases n.ino==i with
   |true=>simp[e2]
   |false=>exact ih
theorem Wd{ns:List Nod}{i j:Int}(h:i≠j):Eh (Br ns j) i=Eh ns i:=by
 unfold Eh Br
 rw[List.find?_filter]
 congr 2
 funext n
 by_cases e:n.ino=i
 ·subst e;simp[h]
 simp[e]
theorem Kb(ns:List Nod)(p:Int)(name:AE)(ino i:Int):Eh (BW ns p name ino) i=Eh ns i:=Oo (g:=L6 name ino) (j:=p) (fun _=>rfl) (fun _=>rfl) i ns
theorem iW(ns:List Nod)(a p:Int)(b:Bool)(i:Int):Eh (Hh ns a p b) i=Eh ns i:=by
 unfold Hh
 split
 ·exact Oo (g:=fun n=>{n with parent:=p}) (j:=a) (fun _=>rfl) (fun _=>rfl) i ns
 rfl
theorem iX{ns:List Nod}{i k:Int}(h:Eh ns i=some k)(m:Nod):Eh (ns++[m]) i=some k:=by
 unfold Eh at h ⊢
 rw[List.find?_append]
 cases e:ns.find? fun n:Nod=>n.ino==i with
 |none=>rw[e]at h;simp at h
 |some n=>rw[e]at h;simpa using h
theorem We{f:AZ}{q:Nat}{d d':Dvc}(hq:f[q]?=some d){a:A9}{k:Int}(h:JO f a=some k)(hd:a.1=(q:Int)→Eh d.nodes a.2=some k→Eh d'.nodes a.2=some k):JO (f.set q d') a=some k:=by
 unfold JO at h ⊢
 unfold EE at h ⊢
 by_cases c:a.1<0
 ·rw[if_pos c]at h;cases h
 rw[if_neg c]at h ⊢
 rw[List.getElem?_set]
 by_cases e:q=a.1.toNat
 ·subst e
  have hl:=(Ar.1 hq).1
  rw[if_pos rfl,if_pos hl]
  rw[hq]at h
  exact hd (by omega) h
 rw[if_neg e];exact h
theorem Oq{f:AZ}{q:Nat}{g:List Nod→List Nod}{a:A9}{k:Int}(h:JO f a=some k)(hd:∀ns,a.1=(q:Int)→Eh ns a.2=some k→Eh (g ns) a.2=some k):JO (FY f q g) a=some k:=by
 cases e:f[q]? with
 |none=>
   have:FY f q g=f:=by
    unfold FY
    apply List.ext_getElem?
    intro i
    rw[List.getElem?_modify]
    by_cases c:q=i
    ·subst c;rw[e];rfl
    cases f[i]?<;>simp[c]
   rw[this];exact h
 |some d=>
   rw[Fz e]
   exact We e h (hd d.nodes)
theorem N6{f g:AZ}{a:A9}(h:AX f a=true)(hk:JO f a=some 2→JO g a=some 2):AX g a=true:=by
 rw[iV,decide_eq_true_iff]at h ⊢
 exact hk h
theorem iY{f:AZ}{dir:A9}{name:AE}{n:Nod}(h0:(Dn f dir name n).2.2=0){a:A9}(h:AX f a=true):AX (Dn f dir name n).1 a=true:=by
 unfold Dn at h0 ⊢
 split at h0
 ·rename_i c;exact absurd h0 c
 rename_i c1
 rw[if_neg c1]
 split at h0
 ·exact absurd h0 (by decide)
 rename_i c2
 rw[if_neg c2]
 split at h0
 ·exact absurd h0 (by decide)
 rename_i c3
 rw[if_neg c3]
 cases e:EE f dir.1 with
 |none=>rw[e]at h0;exact absurd h0 (by simp)
 |some d=>
   rw[e]at h0
   simp only at h0 ⊢
   split at h0
   ·exact absurd h0 (by decide)
   rename_i c4
   rw[if_neg c4]
   have hq:f[dir.1.toNat]?=some d:=by
    unfold EE at e
    split at e
    ·cases e
    exact e
   refine N6 h fun hk=>We hq hk fun _ hk=>iX ?_ _
   rw[Kb];exact hk
theorem iZ{f:AZ}{dir:A9}{name:AE}{b:A9}(h0:(Dc f dir name b).2.2=0){a:A9}(h:AX f a=true):AX (Dc f dir name b).1 a=true:=by
 revert h0
 unfold Dc
 repeat' split
 all_goals first|exact fun h0=>absurd h0 (by assumption)|exact fun h0=>absurd h0 (by decide)|skip
 exact fun _=>N6 h fun hk=>Oq hk fun ns _ hn=>(Kb ns dir.2 name b.2 a.2).trans hn
theorem Wf{f:AZ}{dir:A9}{name:AE}{o:A9}(ho:o.1=dir.1){a:A9}(h:AX f a=true)(hne:a≠o)(h0:0≤dir.1):AX (FY f dir.1.toNat fun ns=>Br (BW ns dir.2 name 0) o.2) a=true:=
 N6 h fun hk=>Oq hk fun ns ha hn=>by
  rw[Wd (fun e=>hne (Prod.ext (by rw[ha,ho];omega) e)),Kb];exact hn
theorem Re{f:AZ}{dir:A9}{name:AE}(h:(AM f dir name).2=0):(AM f dir name).1.1=dir.1:=by
 unfold AM at h ⊢
 split
 ·rename_i e;rw[e]at h;exact absurd h (by simp)
 rename_i n e
 rw[e]at h
 simp only at h
 split at h
 ·rename_i c
  rw[if_pos c]
  split
  ·rename_i e2;rw[e2]at h;exact absurd h (by simp)
  rfl
 exact absurd h (by decide)
theorem Rf{f:AZ}{dir:A9}{name:AE}(h:CF f dir name=0):0≤dir.1:=by
 unfold CF Bk EE at h
 by_cases c:dir.1<0
 ·rw[if_pos c]at h;exact absurd h (by simp)
 omega
theorem j0{f:AZ}{dir:A9}{name:AE}(h0:(FB f dir name).2.2=0){a:A9}(h:AX f a=true):AX (FB f dir name).1 a=true:=by
 unfold FB at h0 ⊢
 split at h0
 ·rename_i c;exact absurd h0 c
 rename_i c1
 rw[if_neg c1]
 split at h0
 ·rename_i c;exact absurd h0 c
 rename_i c2
 rw[if_neg c2]
 split at h0
 ·exact absurd h0 (by decide)
 rename_i c3
 rw[if_neg c3]
 exact Wf (Re (by omega)) h (fun e=>c3 (by rw[←e];exact h)) (Rf (f:=f) (name:=name) (by omega))
theorem j1{f:AZ}{dir:A9}{name:AE}(h0:(Eb f dir name).2.2=0){a:A9}(h:AX f a=true)(hne:a≠(AM f dir name).1):AX (Eb f dir name).1 a=true:=by
 unfold Eb at h0 ⊢
 split at h0
 ·rename_i c;exact absurd h0 c
 rename_i c1
 rw[if_neg c1]
 split at h0
 ·rename_i c;exact absurd h0 c
 rename_i c2
 rw[if_neg c2]
 split at h0
 ·exact absurd h0 (by decide)
 rename_i c3
 rw[if_neg c3]
 split at h0
 ·exact absurd h0 (by decide)
 rename_i c4
 rw[if_neg c4]
 exact Wf (Re (by omega)) h hne (Rf (f:=f) (name:=name) (by omega))
theorem j2{f:AZ}{b:A9}{m u g:Int}(h0:(EJ f b m u g).2=0){a:A9}(h:AX f a=true):AX (EJ f b m u g).1 a=true:=by
 unfold EJ at h0 ⊢
 split at h0
 ·exact absurd h0 (by decide)
 rename_i c1
 rw[if_neg c1]
 split at h0
 ·exact absurd h0 (by decide)
 rename_i c2
 rw[if_neg c2]
 exact N6 h fun hk=>Oq hk fun ns _ hn=>(Oo (g:=ET m u g) (j:=b.2) (fun _=>rfl) (fun _=>rfl) a.2 ns).trans hn
theorem j4{f:AZ}{src to:A9}{name name2:AE}(h0:(EK f src name to name2).2.2=0){a:A9}(h:AX f a=true)
    (hne:(AM f to name2).2=0→(AM f to name2).1≠(AM f src name).1→a≠(AM f to name2).1):AX (EK f src name to name2).1 a=true:=by
 unfold EK at h0 ⊢
 split at h0
 ·rename_i c;exact absurd h0 c
 rename_i c1
 rw[if_neg c1]
 split at h0
 ·rename_i c;exact absurd h0 c
 rename_i c2
 rw[if_neg c2]
 split at h0
 ·exact absurd h0 (by decide)
 rename_i c3
 rw[if_neg c3]
 split at h0
 ·exact absurd h0 (by decide)
 rename_i c4
 rw[if_neg c4]
 split at h0
 ·rename_i c5;rw[if_pos c5];exact h
 rename_i c5
 rw[if_neg c5]
 split at h0
 ·rename_i c;exact absurd h0 c
 rename_i c6
 rw[if_neg c6]
 refine N6 h fun hk=>?_
 dsimp only
 refine Oq hk fun ns ha hn=>?_
 rw[iW]
 unfold KP
 split
 ·rename_i e0
  have hd:=Re e0
  have hne':=hne e0 fun e=>c5 ⟨e0,e⟩
  have hto:=Rf (QZ (f:=f) (x:=src) (y:=to) (name:=name) (name2:=name2) (by omega)).2
  have hk2:a.2≠(AM f to name2).1.2:=fun e=>hne' (Prod.ext (by rw[ha,hd];omega) e)
  rw[Wd hk2,Kb,Kb]
  exact hn
 rw[Kb,Kb];exact hn
theorem SpcV.keep{s:Spc}(hs:SpcV s){g:AZ}(hv:FlsV g)(hl:g.length=s.files.length)(hd:∀a,(Bo s a).isSome=true→AX s.files a=true→AX g a=true):SpcV ⟨g,s.mounts⟩:=by
 refine⟨hv,by show 0<g.length;rw[hl];exact hs.pos,fun i m hm=>?_⟩
 have h:=hs.mnt i m hm
 refine⟨h.dev1,by rw[hl];exact h.dev2,h.fresh,hd _ ?_ h.dir,h.there,h.free⟩
 unfold Bo
 rw[Option.isSome_map,List.find?_isSome]
 exact⟨m,Au hm,by simp⟩
structure SysV(s:Syst)(m:Nat):Prop where
 spc:SpcV s.spc
 few:s.spc.mounts.length≤m
 tab:TabB s.tab
 num:Cv s.tab
theorem SysV.mono{s:Syst}{m n:Nat}(h:SysV s m)(hm:m≤n):SysV s n:=⟨h.spc,Nat.le_trans h.few hm,h.tab,h.num⟩
def Du(w w':Syst):Prop:=∀m,SysV w m→SysV w' (m+1)
theorem Lb{t:Tab}(ht:TabB t){p:Prc}(hp:p.opens.length≤8):TabB (FN t p):=by
 refine⟨by simpa[FN]using ht.few,fun q hq=>?_,ht.next,ht.nextS⟩
 simp only[FN,List.mem_map]at hq
 obtain⟨x,hx,rfl⟩:=hq
 split
 ·exact hp
 exact ht.opens x hx
theorem j5{t:Tab}(ht:TabB t)(pid:Int):TabB (Ed t pid).1:=by
 unfold Ed
 split
 ·exact GC
 split
 ·exact GC
 rename_i c
 refine⟨?_,fun q hq=>?_,?_,ht.nextS⟩
 ·show(t.ps++[_]).length≤16
  rw[List.length_append,List.length_singleton]
  omega
 ·rcases List.mem_append.1 hq with hq|hq
  ·exact ht.opens q hq
  rw[List.mem_singleton]at hq
  subst hq
  exact Fi ht pid
 have:=ht.next
 show t.next+1≤1073741824
 omega
theorem Wg{t:Tab}(ht:TabB t)(pid:Int):TabB (Fb t pid).1:=by
 unfold Fb
 split
 ·exact GC
 split
 ·exact GC
 refine⟨?_,fun q hq=>?_,ht.next,ht.nextS⟩
 ·show((t.ps.filter _).map _).length≤16
  rw[List.length_map]
  exact Nat.le_trans (List.length_filter_le _ _) ht.few
 have hq:q∈(t.ps.filter fun p=>decide (p.pid≠pid)).map (Fa pid):=hq
 rw[List.mem_map]at hq
 obtain⟨x,hx,rfl⟩:=hq
 have h8:=ht.opens x (List.mem_filter.1 hx).1
 unfold Fa
 split
 ·exact h8
 exact h8
theorem j6{t:Tab}(ht:TabB t)(pid u:Int):TabB (Fc t pid u).1:=by
 unfold Fc
 repeat' split
 all_goals first|exact GC|exact Lb ht (Fi ht pid)
theorem j7{t:Tab}(ht:TabB t)(pid u:Int):TabB (Fd t pid u).1:=by
 unfold Fd
 repeat' split
 all_goals first|exact GC|exact Lb ht (Fi ht pid)
theorem j8{t:Tab}(ht:TabB t)(pid u:Int):TabB (EV t pid u).1:=by
 unfold EV
 repeat' split
 all_goals first|exact GC|skip
 rename_i c
 have h:=Lb ht (p:={AU t pid with auid:=u,ses:=t.nextS}) (Fi ht pid)
 refine⟨h.few,h.opens,h.next,?_⟩
 have:=ht.nextS
 show t.nextS+1≤1073741824
 omega
theorem j9{t:Tab}(ht:TabB t)(pid fd:Int):TabB (GW t pid fd).1:=by
 unfold GW
 repeat' split
 all_goals first|exact GC|skip
 exact Lb ht (Nat.le_trans (List.length_filter_le _ _) (Fi ht pid))
theorem jA{t:Tab}(ht:TabB t)(pid:Int)(a:A9):TabB (Gy t pid a).1:=by
 unfold Gy
 split
 ·exact GC
 exact Lb ht (Fi ht pid)
theorem jB{t:Tab}(ht:TabB t)(pid:Int)(a b:AE):TabB (Gz t pid a b).1:=by
 unfold Gz
 split
 ·exact GC
 exact Lb ht (Fi ht pid)
theorem jC{t:Tab}(ht:TabB t)(pid target:Int)(b:Bool):TabB (FO t pid target b).1:=by
 unfold FO
 repeat' split
 all_goals first|exact GC|exact Wg ht _|exact ht
theorem Hs:Cv DH:=⟨Int.le_refl _,Int.le_refl _⟩
theorem jD{t:Tab}(ht:Cv t)(pid:Int):Cv (Ed t pid).1:=by
 unfold Ed
 repeat' split
 all_goals first|exact Hs|(have h1:=ht.1;have h2:=ht.2;exact⟨by show 0≤t.next+1;omega,h2⟩)
theorem Wh{t:Tab}(ht:Cv t)(pid:Int):Cv (Fb t pid).1:=by
 unfold Fb
 repeat' split
 all_goals first|exact Hs|exact ht
theorem jE{t:Tab}(ht:Cv t)(pid u:Int):Cv (Fc t pid u).1:=by
 unfold Fc
 repeat' split
 all_goals first|exact Hs|exact ht
theorem jF{t:Tab}(ht:Cv t)(pid u:Int):Cv (Fd t pid u).1:=by
 unfold Fd
 repeat' split
 all_goals first|exact Hs|exact ht
theorem jG{t:Tab}(ht:Cv t)(pid u:Int):Cv (EV t pid u).1:=by
 unfold EV
 repeat' split
 all_goals first|exact Hs|(have h1:=ht.1;have h2:=ht.2;exact⟨h1,by show 0≤t.nextS+1;omega⟩)
theorem jH{t:Tab}(ht:Cv t)(pid fd:Int):Cv (GW t pid fd).1:=by
 unfold GW
 repeat' split
 all_goals first|exact Hs|exact ht
theorem jJ{t:Tab}(ht:Cv t)(pid:Int)(a:A9):Cv (Gy t pid a).1:=by
 unfold Gy
 repeat' split
 all_goals first|exact Hs|exact ht
theorem jK{t:Tab}(ht:Cv t)(pid:Int)(a b:AE):Cv (Gz t pid a b).1:=by
 unfold Gz
 repeat' split
 all_goals first|exact Hs|exact ht
theorem jL{t:Tab}(ht:Cv t)(pid target:Int)(b:Bool):Cv (FO t pid target b).1:=by
 unfold FO
 repeat' split
 all_goals first|exact Hs|exact Wh ht _|exact ht
theorem jM{t:Tab}(ht:Cv t)(pid:Int)(a:A9)(fl:Int):Cv (EW t pid a fl).1:=by
 unfold EW
 repeat' split
 all_goals first|exact Hs|exact ht
theorem Wi{w:Wrk}{R:Tab×Int}(h:Cv w.s.tab)(hR:Cv R.1):Cv (C2 w R).1.s.tab:=by
 unfold C2
 split
 ·exact hR
 exact h
theorem GD(s:Syst):Du s s:=fun _ h=>h.mono (Nat.le_succ _)
theorem JP{w:Wrk}{R:Tab×Int}(hR:∀m,SysV w.s m→TabB R.1∧Cv R.1):Du w.s (C2 w R).1.s:=by
 intro m h
 refine⟨by rw[Oi];exact h.spc,by rw[Oi];exact Nat.le_trans h.few (Nat.le_succ _),Rc h.tab (hR m h).1,Wi h.num (hR m h).2⟩
theorem Lc{w:Wrk}{R:DP}(hO:SpcV w.s.spc→JC w.s.spc.files R)(hd:R.2.2=0→SpcV w.s.spc→∀a,(Bo w.s.spc a).isSome=true→AX w.s.spc.files a=true→AX R.1 a=true):Du w.s (BN w R).1.s:=by
 intro m h
 unfold BN
 split
 ·rename_i h0
  obtain⟨k1,k2⟩:=hO h.spc h0
  exact⟨h.spc.keep k1 k2 (hd h0 h.spc),Nat.le_trans h.few (Nat.le_succ _),h.tab,h.num⟩
 exact h.mono (Nat.le_succ _)
theorem Rg(w:Wrk)(i:Nat)(n:Nod):Du w.s (CO w i n).1.s:=by
 unfold CO
 split
 ·rename_i h0
  exact Lc (w:=w) (R:=E8 w i n) (fun h=>Qe h.files _ _ _) fun h0 _ a _ ha=>iY h0 ha
 exact GD _
theorem jN(w:Wrk)(i:Nat)(n:Nod):(CO w i n).1.s.spc.mounts=w.s.spc.mounts:=by
 unfold CO
 split
 ·show(BN w _).1.s.spc.mounts=_
  unfold BN
  split<;>rfl
 rfl
theorem Wj{w w':Wrk}(hw:Du w'.s w.s)(hmnt:w.s.spc.mounts=w'.s.spc.mounts)(a:A9):Du w'.s (G7 w a).1.s:=by
 intro m h
 have h2:=hw m h
 have hspc:(G7 w a).1.s.spc=w.s.spc:=Oi _ _
 refine⟨by rw[hspc];exact h2.spc,by rw[hspc,hmnt];exact Nat.le_trans h.few (Nat.le_succ _),?_,?_⟩
 ·unfold G7
  exact Rc (w:=OT w _) h2.tab (WW h2.tab _ _ _)
 unfold G7
 exact Wi (w:=OT w _) h2.num (jM h2.num _ _ _)
theorem jO(w:Wrk):Du w.s (C8 w).1.s:=by
 unfold C8
 repeat' split
 all_goals first|exact GD _|exact Rg w _ _|exact Wj (GD _) rfl _|exact Wj (Rg w _ _) (jN _ _ _) _
theorem jP(w:Wrk):Du w.s (EM w).1.s:=by
 unfold EM
 repeat' split
 all_goals first|exact GD _|skip
 exact Lc (w:=w) (R:=Dc w.s.spc.files _ _ _) (fun h=>U9 h.files _ _ _) fun h0 _ a _ ha=>iZ h0 ha
theorem Wl{w:Wrk}{R:DP}(h:Du w.s (BN w R).1.s):Du w.s (G8 w R).1.s:=by
 unfold G8
 split
 ·exact GD _
 exact h
theorem jQ(w:Wrk):Du w.s (De w).1.s:=by
 unfold De
 repeat' split
 all_goals first|exact GD _|skip
 ·exact Wl (Lc (fun h=>ZX h.files _ _) fun h0 _ a _ ha=>j0 h0 ha)
 rename_i c _
 refine Wl (Lc (fun h=>ZY h.files _ _) fun h0 _ a hc ha=>j1 h0 ha ?_)
 rintro rfl
 refine c ?_
 unfold Ff
 rw[hc]
 rfl
theorem jR{w:Wrk}{R:DP}{x:A9}(h:Du w.s (BN w R).1.s):Du w.s (Gb w R x).1.s:=by
 unfold Gb
 repeat' split
 all_goals first|exact GD _|exact h
theorem jS(w:Wrk):Du w.s (Df w).1.s:=by
 unfold Df
 repeat' split
 all_goals first|exact GD _|skip
 rename_i c
 refine jR (Lc (fun h=>Qf h.files _ _ _ _) fun h0 _ a hc ha=>j4 h0 ha fun e1 e2 e3=>c ⟨e1,e2,?_,?_⟩)
 ·rw[←e3];exact ha
 rw[←e3];unfold Ff;rw[hc];rfl
theorem jT{w:Wrk}(b:A9)(x y z:Int):Du w.s (Hk w (EJ w.s.spc.files b x y z)).1.s:=by
 unfold Hk
 exact Lc (fun h=>ZZ h.files _ _ _ _) fun h0 _ a _ ha=>j2 h0 ha
theorem jU(w:Wrk):Du w.s (EX w).1.s:=by
 unfold EX
 repeat' split
 all_goals first|exact GD _|exact jT _ _ _ _
theorem jV(w:Wrk)(dev:Int)(a:A9):Du w.s (Hl w (DN w.s.spc dev a)).1.s:=by
 intro m h
 unfold Hl
 split
 ·rename_i h0
  obtain⟨k1,k2⟩:=Zi h.spc dev a h0
  refine⟨k1,?_,h.tab,h.num⟩
  show(DN w.s.spc dev a).1.mounts.length≤m+1
  rw[k2]
  have:=h.few
  simp only[List.length_append,List.length_singleton]
  omega
 exact h.mono (Nat.le_succ _)
theorem jW(w:Wrk)(dev:Int):Du w.s (Hm w (FC w.s.spc dev)).1.s:=by
 intro m h
 unfold Hm
 split
 ·rename_i h0
  obtain⟨k1,k2⟩:=dF h.spc dev h0
  refine⟨k1,?_,h.tab,h.num⟩
  show(FC w.s.spc dev).1.mounts.length≤m+1
  rw[k2]
  exact Nat.le_trans (List.length_filter_le _ _) (Nat.le_trans h.few (Nat.le_succ _))
 exact h.mono (Nat.le_succ _)
theorem jX(w:Wrk):Du w.s (D9 w).1.s:=by
 unfold D9
 repeat' split
 all_goals first|exact GD _|exact jV w _ _|exact JP (fun m h=>⟨jB h.tab _ _ _,jK h.num _ _ _⟩)|exact JP (fun m h=>⟨jA h.tab _ _,jJ h.num _ _⟩)
theorem jY(w:Wrk):Du w.s (EY w).1.s:=by
 unfold EY
 repeat' split
 all_goals first|exact GD _|exact Rg w _ _
theorem jZ(w:Wrk):Du w.s (Et w).1.s:=by
 unfold Et
 repeat' split
 all_goals first|exact GD _|exact jW w _
theorem kA(w:Wrk):Du w.s (Dt w).1.s:=by
 unfold Dt
 repeat' split
 all_goals first
  |exact GD _
  |exact jZ w
  |exact JP (w:=LP w _) (R:=((Ed w.s.tab w.p.pid).1,(Ed w.s.tab w.p.pid).2.2)) (fun m h=>⟨j5 h.tab _,jD h.num _⟩)
  |exact JP (fun m h=>⟨Wg h.tab _,Wh h.num _⟩)
  |exact JP (fun m h=>⟨j6 h.tab _ _,jE h.num _ _⟩)
  |exact JP (fun m h=>⟨j7 h.tab _ _,jF h.num _ _⟩)
  |exact JP (fun m h=>⟨j8 h.tab _ _,jG h.num _ _⟩)
  |exact JP (fun m h=>⟨j9 h.tab _ _,jH h.num _ _⟩)
  |exact JP (fun m h=>⟨jC h.tab _ _ _,jL h.num _ _ _⟩)
theorem kC(w:Wrk):Du w.s (B9 w).1.s:=by
 unfold B9
 repeat' split
 all_goals first|exact jO w|exact jP w|exact jQ w|exact jS w|exact jU w|exact jX w|exact jY w|exact kA w
theorem Kc{s:Syst}{m:Nat}(h:SysV s m)(pid:Int)(c:Cal):SysV (C3 s pid c).1 (m+1):=by
 have ha:=kC (EZ s pid c) m h
 unfold C3
 repeat' split
 all_goals first|exact h.mono (Nat.le_succ _)|exact ha
theorem kF(a:A9):TabB (LH a):=⟨by show(1:Nat)≤16;decide,fun p hp=>by
 simp only[LH,List.mem_singleton]at hp
 subst hp
 exact Nat.zero_le _,by show(2:Int)≤1073741824;decide,by show(1:Int)≤1073741824;decide⟩
theorem kH(a:A9):Cv (LH a):=⟨by show(0:Int)≤2;decide,by show(0:Int)≤1;decide⟩
theorem kJ{n:Int}(h1:1≤n)(h2:n≤3):SysV (Gd n).1 0:=by
 unfold Gd
 have h:=UF h1 h2
 split
 ·rename_i c
  exfalso
  refine c ?_
  unfold ER
  split
  ·omega
  rfl
 exact⟨⟨h.1,h.2,fun i m hm=>by cases hm⟩,Nat.zero_le _,kF _,kH _⟩
theorem kK{a b:Nat}(h:a<b):Nat.blt a b=true:=by rw[Nat.blt_eq];exact h
theorem SetAt.sym{α:Type}{x:α}:∀{row:List α} {o:Nat},o<row.length→SetAt row o [x] (row.set o x)
 |[],_,h=>by simp at h
 |y::ys,0,_=>SetAt.here y x ys [] ys (SetAt.nil ys 0)
 |y::ys,o+1,h=>SetAt.there y x ys [] (ys.set o x) o (SetAt.sym (by simpa using h))
theorem kM(n:Int):0≤(Bi n).2.1∧(Bi n).2.1≤2∧0≤(Bi n).2.2.1∧(Bi n).2.2.1≤2∧0≤(Bi n).2.2.2.1∧(Bi n).2.2.2.1≤(Bi n).2.2.2.2∧(Bi n).2.2.2.2≤100:=by
 unfold Bi
 split
 ·decide
 rename_i h
 obtain⟨m,rfl⟩:=Int.eq_ofNat_of_zero_le (show 0≤n by omega)
 have hm:m<22:=by omega
 have key:∀m,m<22→0≤((E7[m]?).getD (⟨#[]⟩,0,0,0,0)).2.1∧((E7[m]?).getD (⟨#[]⟩,0,0,0,0)).2.1≤2∧0≤((E7[m]?).getD (⟨#[]⟩,0,0,0,0)).2.2.1∧((E7[m]?).getD (⟨#[]⟩,0,0,0,0)).2.2.1≤2∧0≤((E7[m]?).getD (⟨#[]⟩,0,0,0,0)).2.2.2.1∧((E7[m]?).getD (⟨#[]⟩,0,0,0,0)).2.2.2.1≤((E7[m]?).getD (⟨#[]⟩,0,0,0,0)).2.2.2.2∧((E7[m]?).getD (⟨#[]⟩,0,0,0,0)).2.2.2.2≤100:=by decide
 exact key m hm
section
theorem kO(n:Int):AFn Tryz.prog 69 [.v (.int .i64 n)] (fun r=>r= .tup [.v (.int .i64 (Bi n).2.1), .v (.int .i64 (Bi n).2.2.1), .v (.int .i64 (Bi n).2.2.2.1), .v (.int .i64 (Bi n).2.2.2.2)]):=by
 refine enter Tryz.func69 rfl rfl rfl rfl rfl 0 rfl ?_
 refine w_ (a_ (h:=a_ (h:=a_ (h:=a_ (h:=e_ (w_ (m_ (h:=?_))))))))
 refine A4 rfl (AK (V7 n) ?_)
 rintro r rfl
 refine AW (h:=s_ (h:=e_ (q_ (DT 12 (h:=AF 0 (h:=AJ 1 (h:=AF 2 (h:=AJ 3 (h:=AF 4 (h:=AJ 5 (h:=AF 6 (h:=AJ 7 (h:=BC 8 (h:=BC 9 (h:=BC 10 (h:=BC 11 (h:=z_ (h:=t_ (A6 (?_))))))))))))))))))))
 refine AB ?_
 rfl
theorem Ot(l:List Int)(a:Nat)(ha:a≤10000000000):Fq Tryz.prog 37 l a [] 300 (fun r=>∃c:Cal,c.paths.length≤1000∧c.args.length≤1000∧r= .agg (D0 c)):=by
 refine enter Tryz.func37 rfl rfl rfl rfl rfl 1 rfl ?_
 refine w_ (AW (h:=e_ (w_ (m_ (h:=Bm (h:=?_))))))
 refine A4 rfl (BU 0 (hc:=Jj l _ _ (fun _=>true) (by omega) (by rfl) (by rfl) (by rfl)) (hR:=?_))
 rintro r a1 ha1 ⟨k1,rfl,p1⟩
 refine⟨rfl,_,(by repeat constructor),?_⟩
 refine AT (h:=AW (h:=s_ (h:=e_ (w_ (f_ (h:=l_ (h:=?_)))))))
 refine A4 rfl (AK (kO _) ?_)
 rintro r rfl
 obtain⟨q1,q2,q3,q4,q5,q6,q7⟩:=kM k1
 generalize (Bi k1).2.1=la at q1 q2 q3 q4 q5 q6 q7 ⊢
 generalize (Bi k1).2.2.1=lb at q1 q2 q3 q4 q5 q6 q7 ⊢
 generalize (Bi k1).2.2.2.1=lc at q1 q2 q3 q4 q5 q6 q7 ⊢
 generalize (Bi k1).2.2.2.2=ld at q1 q2 q3 q4 q5 q6 q7 ⊢
 obtain⟨na,rfl⟩:=Int.eq_ofNat_of_zero_le q1
 obtain⟨nb,rfl⟩:=Int.eq_ofNat_of_zero_le q3
 refine m_ (h:=x_ (h:=x_ (h:=x_ (h:=x_ (h:=a_ (h:=a_ (h:=a_ (h:=a_ (h:=e_ (q_ (w_ (a_ (h:=e_ (Ao (?_)))))))))))))))
 refine Ba (fun n s=>∃(j b1:Nat) (n0 y0 y1 y2 y3:Int),j≤na∧n=na - j∧b1≤a+1+j∧s=⟨look [(0, .bp 0 0),(2, .bp 1 0),(3, .bp 2 0),(4, .v (.int .i64 (na:Int))),(5, .v (.int .i64 (nb:Int))),(6, .v (.int .i64 lc)),(7, .v (.int .i64 ld)),(8, .v (.int .i64 (j:Int)))],⟨[DY l b1,[.v (.int .i64 0), .v (.int .i64 0), .v (.int .i64 0), .v (.int .i64 0), .v (.int .i64 0), .v (.slice none 0 0), .v (.slice none 0 0)],[.v (.int .i64 n0), .v (.int .i64 y0), .v (.int .i64 y1), .v (.int .i64 y2), .v (.int .i64 y3), .v (.slice none 0 0), .v (.slice none 0 0)]],[]⟩⟩) (na) ((wk 3 0)) (⟨0,_,_,_,_,_,_,by omega,rfl,by omega,rfl⟩) ?_
 rintro n s ⟨j,b1,n0,y0,y1,y2,y3,hj,rfl,hb1,rfl⟩
 refine q_ (w_ (m_ (h:=m_ (h:=BJ (h:=e_ (?_))))))
 refine A8 rfl (fun hb1=>?_) (fun hb1=>?_)
 ·have hc1:=bp hb1
  refine AG (q_ (Ao (AP (m_ (h:=m_ (h:=Bm (h:=?_)))))))
  refine A4 rfl (BU 0 (hc:=Jj l _ _ (fun _=>true) (by omega) (by rfl) (by rfl) (by rfl)) (hR:=?_))
  rintro r a2 ha2 ⟨k2,rfl,p2⟩
  refine⟨rfl,_,(by repeat constructor),?_⟩
  refine f_ (h:=?_)
  refine A4 rfl (CE (len:=4) (sz:=1) (n:=j) (by kernel_rfl) rfl rfl rfl (kK (by omega)) ?_)
  refine K0 (Aw rfl rfl rfl rfl rfl rfl (SetAt.sym (by simp;omega)) (by repeat constructor) ?_)
  refine AO (Ay (t_ (AP (m_ (h:=B8 (h:=a_ (h:=AO (?_))))))))
  refine AD ?_
  have hj2:j=0∨j=1:=by omega
  rcases hj2 with rfl|rfl
  ·refine⟨_,_,?_,⟨1,_,_,_,_,_,_,by omega,rfl,?_,rfl⟩,(wk 3 0)⟩<;>omega
  refine⟨_,_,?_,⟨2,_,_,_,_,_,_,by omega,rfl,?_,rfl⟩,(wk 3 0)⟩<;>omega
 have hc1:=bp hb1
 refine BO (Aq (Aq (BQ (t_ (?_)))))
 refine B5 (fun s=>∃(b2:Nat) (n1 x0 x1 x2 x3:Int),b2≤a+20∧s=⟨look [(0, .bp 0 0),(2, .bp 1 0),(3, .bp 2 0),(5, .v (.int .i64 (nb:Int))),(6, .v (.int .i64 lc)),(7, .v (.int .i64 ld))],⟨[DY l b2,[.v (.int .i64 0), .v (.int .i64 0), .v (.int .i64 0), .v (.int .i64 0), .v (.int .i64 0), .v (.slice none 0 0), .v (.slice none 0 0)],[.v (.int .i64 n1), .v (.int .i64 x0), .v (.int .i64 x1), .v (.int .i64 x2), .v (.int .i64 x3), .v (.slice none 0 0), .v (.slice none 0 0)]],[]⟩⟩) ?_ ?_
 ·skip
  refine w_ (f_ (h:=l_ (h:=e_ (Ao (w_ (AQ (h:=a_ (h:=e_ (?_)))))))))
  refine A8 rfl (fun hb2=>?_) (fun hb2=>?_)
  ·have hc2:=bp hb2
   refine AP (m_ (h:=Bm (h:=?_)))
   refine A4 rfl (BU 0 (hc:=Jj l _ _ (fun _=>true) (by omega) (by rfl) (by rfl) (by rfl)) (hR:=?_))
   rintro r a3 ha3 ⟨k3,rfl,p3⟩
   refine⟨rfl,_,(by repeat constructor),?_⟩
   refine m_ (h:=Bm (h:=?_))
   refine A4 rfl (BU 0 (hc:=Jj l _ _ (fun _=>true) (by omega) (by rfl) (by rfl) (by rfl)) (hR:=?_))
   rintro r a4 ha4 ⟨k4,rfl,p4⟩
   refine⟨rfl,_,(by repeat constructor),?_⟩
   refine AT (h:=f_ (h:=s_ (h:=AO (Ay (?_)))))
   refine AD ?_
   refine⟨_,⟨_,_,_,_,_,_,?_,rfl⟩,(wk 3 0)⟩<;>omega
  have hc2:=bp hb2
  refine w_ (AQ (h:=a_ (h:=e_ (?_))))
  refine A8 rfl (fun hb3=>?_) (fun hb3=>?_)
  ·have hc3:=bp hb3
   refine AP (m_ (h:=Bm (h:=?_)))
   refine A4 rfl (BU 0 (hc:=Jj l _ _ (fun _=>true) (by omega) (by rfl) (by rfl) (by rfl)) (hR:=?_))
   rintro r a5 ha5 ⟨k5,rfl,p5⟩
   refine⟨rfl,_,(by repeat constructor),?_⟩
   refine f_ (h:=?_)
   refine A4 rfl (CE (len:=4) (sz:=1) (n:=0) (by kernel_rfl) rfl rfl rfl rfl ?_)
   refine s_ (h:=AO (Ay (?_)))
   refine AD ?_
   refine⟨_,⟨_,_,_,_,_,_,?_,rfl⟩,(wk 3 0)⟩<;>omega
  have hc3:=bp hb3
  refine q_ (w_ (AQ (h:=a_ (h:=e_ (?_)))))
  refine A8 rfl (fun hb4=>?_) (fun hb4=>?_)
  ·have hc4:=bp hb4
   refine AG (Bf (h:=AP (m_ (h:=?_))))
   refine A4 rfl (BU 0 (hc:=Gn l _ (3) (by omega) (by omega)) (hR:=?_))
   rintro r a6 ha6 ⟨k6,rfl,p6,q6,o6⟩
   refine⟨rfl,_,(by repeat constructor),?_⟩
   refine f_ (h:=?_)
   refine A4 rfl (CE (len:=4) (sz:=1) (n:=0) (by kernel_rfl) rfl rfl rfl rfl ?_)
   refine s_ (h:=AO (Ay (?_)))
   refine AD ?_
   refine⟨_,⟨_,_,_,_,_,_,?_,rfl⟩,(wk 3 0)⟩<;>omega
  have hc4:=bp hb4
  refine AP (AQ (h:=a_ (h:=e_ (?_))))
  refine A8 rfl (fun hb5=>?_) (fun hb5=>?_)
  ·have hc5:=bp hb5
   refine AP (m_ (h:=?_))
   refine A4 rfl (BU 0 (hc:=Gn l _ (3) (by omega) (by omega)) (hR:=?_))
   rintro r a7 ha7 ⟨k7,rfl,p7,q7,o7⟩
   refine⟨rfl,_,(by repeat constructor),?_⟩
   refine f_ (h:=?_)
   refine A4 rfl (CE (len:=4) (sz:=1) (n:=0) (by kernel_rfl) rfl rfl rfl rfl ?_)
   refine s_ (h:=AO (Ay (?_)))
   refine AD ?_
   refine⟨_,⟨_,_,_,_,_,_,?_,rfl⟩,(wk 3 0)⟩<;>omega
  have hc5:=bp hb5
  refine w_ (AQ (h:=a_ (h:=e_ (?_))))
  refine A8 rfl (fun hb6=>?_) (fun hb6=>?_)
  ·have hc6:=bp hb6
   refine AP (m_ (h:=?_))
   refine A4 rfl (BU 0 (hc:=GT l _ (1) (4) (by omega) (by omega) (by omega) (by omega)) (hR:=?_))
   rintro r a8 ha8 ⟨k8,rfl,p8,q8⟩
   refine⟨rfl,_,(by repeat constructor),?_⟩
   refine m_ (h:=Bm (h:=?_))
   refine A4 rfl (BU 0 (hc:=Jj l _ _ (fun _=>true) (by omega) (by rfl) (by rfl) (by rfl)) (hR:=?_))
   rintro r a9 ha9 ⟨k9,rfl,p9⟩
   refine⟨rfl,_,(by repeat constructor),?_⟩
   refine AT (h:=f_ (h:=s_ (h:=AO (Ay (?_)))))
   refine AD ?_
   refine⟨_,⟨_,_,_,_,_,_,?_,rfl⟩,(wk 3 0)⟩<;>omega
  have hc6:=bp hb6
  refine BB (Ay (?_))
  refine AD ?_
  refine⟨_,⟨_,_,_,_,_,_,?_,rfl⟩,(wk 3 0)⟩<;>omega
 rintro s ⟨b2,n1,x0,x1,x2,x3,hb2,rfl⟩
 refine q_ (w_ (a_ (h:=e_ (Ao (?_)))))
 refine Kr 2 5 9 1 rfl rfl (by repeat constructor) (by repeat constructor) (by repeat constructor) ?_
 refine Ba (fun n s=>∃(j b1:Nat) (ps:List AE),j≤nb∧n=nb - j∧b1≤b2+20 * j∧ps.length=j∧s=⟨look [(0, .bp 0 0),(2, .bp 1 0),(3, .bp 2 0),(5, .v (.int .i64 (nb:Int))),(6, .v (.int .i64 lc)),(7, .v (.int .i64 ld)),(9, .v (.int .i64 (j:Int)))],⟨[DY l b1,[.v (.int .i64 0), .v (.int .i64 0), .v (.int .i64 0), .v (.int .i64 0), .v (.int .i64 0), .v (.slice none 0 0), .v (.slice none 0 0)],[.v (.int .i64 n1), .v (.int .i64 x0), .v (.int .i64 x1), .v (.int .i64 x2), .v (.int .i64 x3), .sl 1 (ps.map D5) (some 0), .v (.slice none 0 0)]],[(9,1,ps.map D5)]⟩⟩) (nb) ((wk 3 1)) (⟨0,b2,[],by omega,rfl,by omega,by simp,rfl⟩) ?_
 rintro n s ⟨j,b1,ps,hj,rfl,hb1,hps,rfl⟩
 refine q_ (w_ (m_ (h:=m_ (h:=BJ (h:=e_ (?_))))))
 refine A8 rfl (fun hb7=>?_) (fun hb7=>?_)
 ·have hc7:=bp hb7
  refine AG (q_ (Ao (BH ([(1,[.v (.int .i64 0), .v (.int .i64 0), .v (.int .i64 0), .v (.int .i64 0), .v (.int .i64 0), .v (.slice none 0 0), .v (.slice none 0 0)]),(2,[.v (.int .i64 n1), .v (.int .i64 x0), .v (.int .i64 x1), .v (.int .i64 x2), .v (.int .i64 x3), .sl 1 (ps.map D5) (some 0), .v (.slice none 0 0)])]) 7 (h:=AF 0 (h:=AJ 1 (h:=AN 2 (h:=?_)))))))
  refine c_ 3 rfl (BU 0 (hc:=LD l _ (by omega)) (hR:=?_))
  rintro r a10 ha10 ⟨k10,rfl,p10⟩
  refine⟨rfl,_,(by repeat constructor),?_⟩
  refine o_ (h:=GM 4 (h:=?_))
  refine c_ 5 rfl (E3 rfl rfl rfl (by simp<;>omega) (by repeat constructor) ?_)
  refine o_ (h:=AF 6 (h:=?_))
  refine B0 7 rfl (Aw rfl rfl rfl rfl rfl rfl (by repeat constructor) (by repeat constructor) ?_)
  refine o_ (h:=z_ (h:=Ay (t_ (AP (m_ (h:=B8 (h:=a_ (h:=AO (?_)))))))))
  refine AD ?_
  refine⟨_,_,?_,⟨j+1,_,ps++[_],by omega,rfl,?_,?_,rfl⟩,(by rw[List.map_append];exact Az 3 1 rfl rfl rfl rfl ((by repeat (first|exact Sub.nil|refine Sub.cons _ _ _ rfl rfl ?_|refine Sub.any _ _ ?_|refine Sub.sl _ _ _ _ _ rfl ?_|refine Sub.slnil _ _ _ rfl ?_))))⟩
  ·omega
  ·omega
  simp;omega
 have hc7:=bp hb7
 refine BO (Aq (Aq (BQ (t_ (q_ (w_ (m_ (h:=m_ (h:=m_ (h:=?_))))))))))
 refine A4 rfl (BU 0 (hc:=GT l _ lc ld (by omega) (by omega) (by omega) (by omega)) (hR:=?_))
 rintro r a11 ha11 ⟨k0,rfl,p0,p1⟩
 refine⟨rfl,_,(by repeat constructor),?_⟩
 obtain⟨m,rfl⟩:=Int.eq_ofNat_of_zero_le (show 0≤k0 by omega)
 refine a_ (h:=e_ (Ao (?_)))
 refine Kr 2 6 9 1 rfl rfl (by repeat constructor) (by repeat constructor) (by repeat constructor) ?_
 refine Ba (fun n s=>∃(j b3:Nat) (rs:List AE),j≤m∧n=j∧b3≤b1+1+(m - j)∧rs.length=m - j∧s=⟨look [(0, .bp 0 0),(2, .bp 1 0),(3, .bp 2 0),(10, .v (.int .i64 (j:Int)))],⟨[DY l b3,[.v (.int .i64 0), .v (.int .i64 0), .v (.int .i64 0), .v (.int .i64 0), .v (.int .i64 0), .v (.slice none 0 0), .v (.slice none 0 0)],[.v (.int .i64 n1), .v (.int .i64 x0), .v (.int .i64 x1), .v (.int .i64 x2), .v (.int .i64 x3), .sl 1 (ps.map D5) (some 0), .sl 1 (rs.map D5) (some 1)]],[(9,1,ps.map D5),(9,1,rs.map D5)]⟩⟩) (m) ((wk 3 2)) (⟨m,_,[],by omega,rfl,by omega,by simp,rfl⟩) ?_
 rintro n s ⟨j,b3,rs,hj,hn,hb3,hrs,rfl⟩
 subst n
 refine q_ (w_ (m_ (h:=CZ (h:=e_ (?_)))))
 refine A8 rfl (fun hb8=>?_) (fun hb8=>?_)
 ·have hc8:=bp hb8
  refine AG (q_ (Ao (BH ([(1,[.v (.int .i64 0), .v (.int .i64 0), .v (.int .i64 0), .v (.int .i64 0), .v (.int .i64 0), .v (.slice none 0 0), .v (.slice none 0 0)]),(2,[.v (.int .i64 n1), .v (.int .i64 x0), .v (.int .i64 x1), .v (.int .i64 x2), .v (.int .i64 x3), .sl 1 (ps.map D5) (some 0), .sl 1 (rs.map D5) (some 1)])]) 8 (h:=AF 0 (h:=AJ 1 (h:=AN 2 (h:=GM 3 (h:=?_))))))))
  refine c_ 4 rfl (BU 0 (hc:=LC l _ _ (fun _=>true) (by omega) (by rfl) (by rfl) (by rfl)) (hR:=?_))
  rintro r a12 ha12 ⟨k12,rfl,p12⟩
  refine⟨rfl,_,(by repeat constructor),?_⟩
  refine o_ (h:=GM 5 (h:=?_))
  refine c_ 6 rfl (E3 rfl rfl rfl (by simp<;>omega) (by repeat constructor) ?_)
  refine o_ (h:=AF 7 (h:=?_))
  refine B0 8 rfl (Aw rfl rfl rfl rfl rfl rfl (by repeat constructor) (by repeat constructor) ?_)
  refine o_ (h:=z_ (h:=Ay (t_ (AP (m_ (h:=Ns (h:=a_ (h:=AO (?_)))))))))
  refine AD ?_
  obtain⟨j,rfl⟩:∃i,j=i+1:=⟨j - 1,by omega⟩
  refine⟨_,_,?_,⟨j,_,rs++[_],by omega,rfl,?_,?_,rfl⟩,(by rw[List.map_append];exact Az 3 2 rfl rfl rfl rfl (by repeat (first|exact Sub.nil|refine Sub.cons _ _ _ rfl rfl ?_|(apply Sub.of;(focus exact rfl);(focus exact LeA.of_eq (vi (by omega)));(focus exact rfl)))))⟩
  ·omega
  ·omega
  simp;omega
 have hc8:=bp hb8
 refine BO (Aq (Aq (BQ (t_ (?_)))))
 refine B5 (fun S=>∃(b9:Nat) (n2 w0 w1 w2 w3:Int),b9≤a+300∧S=⟨look [(2, .bp 1 0),(3, .bp 2 0)],⟨[DY l b9,[.v (.int .i64 0), .v (.int .i64 0), .v (.int .i64 0), .v (.int .i64 0), .v (.int .i64 0), .v (.slice none 0 0), .v (.slice none 0 0)],[.v (.int .i64 n2), .v (.int .i64 w0), .v (.int .i64 w1), .v (.int .i64 w2), .v (.int .i64 w3), .sl 1 (ps.map D5) (some 0), .sl 1 (rs.map D5) (some 1)]],[(9,1,ps.map D5),(9,1,rs.map D5)]⟩⟩) ?_ ?_
 ·skip
  refine w_ (m_ (h:=?_))
  refine A4 rfl (BU 0 (hc:=Gn l _ (40) (by omega) (by omega)) (hR:=?_))
  rintro r a13 ha13 ⟨k13,rfl,p13,q13,o13⟩
  refine⟨rfl,_,(by repeat constructor),?_⟩
  refine AQ (h:=e_ (?_))
  refine A8 rfl (fun hb9=>?_) (fun hb9=>?_)
  ·have hc9:=bp hb9
   refine AP (m_ (h:=?_))
   refine A4 rfl (BU 0 (hc:=Gn l _ (2) (by omega) (by omega)) (hR:=?_))
   rintro r a14 ha14 ⟨k14,rfl,p14,q14,o14⟩
   refine⟨rfl,_,(by repeat constructor),?_⟩
   refine m_ (h:=?_)
   refine A4 rfl (BU 0 (hc:=GT l _ (-1) (33) (by omega) (by omega) (by omega) (by omega)) (hR:=?_))
   rintro r a15 ha15 ⟨k15,rfl,p15,q15⟩
   refine⟨rfl,_,(by repeat constructor),?_⟩
   refine f_ (h:=?_)
   refine A4 rfl (CE (len:=4) (sz:=1) (n:=3) (by kernel_rfl) rfl rfl rfl rfl ?_)
   refine s_ (h:=f_ (h:=s_ (h:=AO (?_))))
   refine AD ?_
   refine⟨_,⟨_,_,_,_,_,_,?_,rfl⟩,(wk 3 2)⟩
   omega
  have hc9:=bp hb9
  refine BB (?_)
  refine AD ?_
  refine⟨_,⟨_,_,_,_,_,_,?_,rfl⟩,(wk 3 2)⟩
  omega
 rintro S ⟨b9,n2,w0,w1,w2,w3,hb9,rfl⟩
 refine w_ (l_ (h:=s_ (h:=e_ (A6 (?_)))))
 refine Aj (r:= .agg (D0 ⟨n2,w0,w1,w2,w3,ps,rs⟩)) none (h5:=?_) (h6:=⟨_,rfl,rfl,b9,by omega,rfl,⟨n2,w0,w1,w2,w3,ps,rs⟩,(by show ps.length≤1000;omega),(by show rs.length≤1000;omega),rfl⟩)
 exact LeA.agg (.cons (LeA.refl _) (.cons (LeA.refl _) (.cons (LeA.refl _) (.cons (LeA.refl _) (.cons (LeA.refl _) (.cons (LeA.tok _ _ _) (.cons (LeA.tok _ _ _) .nil)))))))
theorem Rh(l:List Int)(a:Nat)(t:Tab)(ha:a≤10000000000)(ht:TabB t):Fq Tryz.prog 36 l a [.agg (At t)] 3 (fun r=>∃p:Int,r= .v (.int .i64 p)):=by
 have hfew:=ht.few
 have hpl:(t.ps.map Av).length=t.ps.length:=List.length_map _
 refine enter Tryz.func36 rfl rfl rfl rfl rfl 1 rfl ?_
 refine w_ (b_ (h:=a_ (h:=e_ (q_ (?_)))))
 refine B5 (fun S=>∃(b:Nat) (q:Bool),b≤a+1∧(q=false→0<t.ps.length)∧S=⟨look [(0, .bp 0 0),(3, .bp 1 0),(13, .v (.bool q))],⟨[DY l b,At t],[]⟩⟩) ?_ ?_
 ·skip
  refine AP (f_ (h:=l_ (h:=n_ (h:=AQ (h:=m_ (h:=?_))))))
  refine Ax false rfl rfl (fun hb1=>?_) (fun hb1=>?_)
  ·have hc1:=bp hb1
   refine A3 (h:=A3 (h:=A3 (h:=Af (h:=AO (?_)))))
   refine AD ?_
   refine⟨_,⟨_,_,?_,?_,rfl⟩,Az 2 0 rfl rfl rfl rfl ((by repeat (first|exact Sub.nil|refine Sub.cons _ _ _ rfl rfl ?_|refine Sub.any _ _ ?_|refine Sub.sl _ _ _ _ _ rfl ?_|refine Sub.slnil _ _ _ rfl ?_)))⟩
   ·omega
   intro q
   (cases q;done)
  have hc1:=bp hb1
  refine m_ (h:=?_)
  refine B6 (BU 0 (hc:=Gn l _ (24) (by omega) (by omega)) (hR:=?_))
  rintro r a1 ha1 ⟨k1,rfl,p1,q1,o1⟩
  refine⟨rfl,_,(by repeat constructor),?_⟩
  refine AQ (h:=Am (h:=AO (?_)))
  refine AD ?_
  refine⟨_,⟨_,_,?_,?_,rfl⟩,Az 2 0 rfl rfl rfl rfl ((by repeat (first|exact Sub.nil|refine Sub.cons _ _ _ rfl rfl ?_|refine Sub.any _ _ ?_|refine Sub.sl _ _ _ _ _ rfl ?_|refine Sub.slnil _ _ _ rfl ?_)))⟩
  ·omega
  intro q
  first|(cases q;done)|omega
 rintro S ⟨b,q,hb,hq,rfl⟩
 refine A8 rfl (fun hb2=>?_) (fun hb2=>?_)
 ·have hc2:=bp hb2
  refine w_ (m_ (h:=?_))
  refine A4 rfl (BU 0 (hc:=GT l _ (0) (9) (by omega) (by omega) (by omega) (by omega)) (hR:=?_))
  rintro r a2 ha2 ⟨k2,rfl,p2,q2⟩
  refine⟨rfl,_,(by repeat constructor),?_⟩
  refine a_ (h:=e_ (A6 (A7 (?_))))
  refine Aj none (h5:=(LeA.refl _)) (h6:=⟨_,rfl,rfl,_,?_,rfl,_,rfl⟩)<;>omega
 have hc2:=bp hb2
 have hq0:0<t.ps.length:=hq (by assumption)
 refine AG (q_ (BH ([(1,At t)]) 11 (h:=AF 0 (h:=AJ 1 (h:=AN 2 (h:=AF 3 (h:=AJ 4 (h:=K7 5 (h:=?_)))))))))
 refine c_ 6 rfl (BU 0 (hc:=Gn l _ ((t.ps.map Av).length:Int) (by omega) (by rw[hpl];omega)) (hR:=?_))
 rintro r a3 ha3 ⟨kn,rfl,p0,q0, -⟩
 refine⟨rfl,_,(by repeat constructor),?_⟩
 obtain⟨m,rfl⟩:=Int.eq_ofNat_of_zero_le p0
 have hm:m<t.ps.length:=by have:=q0 (by rw[hpl];omega);rw[hpl]at this;omega
 obtain⟨x,hx⟩:∃x,t.ps[m]?=some x:=⟨_,B3 hm⟩
 have hrow:(t.ps.map Av)[m]?=some (Av x):=by rw[List.getElem?_map,hx];rfl
 refine o_ (h:=?_)
 refine Bj 7 rfl (fun _ hS=>CS (n:=m) rfl rfl rfl hrow ⟨rfl,rfl⟩) ?_
 refine AF 8 (h:=AJ 9 (h:=BC 10 (h:=z_ (h:=t_ (A6 (?_))))))
 refine Aj none (h5:=(LeA.refl _)) (h6:=⟨_,rfl,rfl,_,?_,rfl,_,rfl⟩)<;>omega
theorem kQ(l:List Int)(a:Nat)(ha:a≤10000000):Fq Tryz.prog 27 l a [] 6000 (fun r=>∃s,r= .agg (Bg s)∧SysV s 14):=by
 refine enter Tryz.func27 rfl rfl rfl rfl rfl 1 rfl ?_
 refine w_ (AW (h:=e_ (w_ (m_ (h:=?_)))))
 refine A4 rfl (BU 0 (hc:=GT l _ (1) (3) (by omega) (by omega) (by omega) (by omega)) (hR:=?_))
 rintro r a1 ha1 ⟨k1,rfl,p1,q1⟩
 refine⟨rfl,_,(by repeat constructor),?_⟩
 refine A4 rfl (AK (Vg k1) ?_)
 rintro r rfl
 refine m_ (h:=x_ (h:=x_ (h:=AW (h:=s_ (h:=a_ (h:=e_ (q_ (w_ (m_ (h:=?_))))))))))
 refine A4 rfl (BU 0 (hc:=GT l _ (3) (14) (by omega) (by omega) (by omega) (by omega)) (hR:=?_))
 rintro r a2 ha2 ⟨k2,rfl,p2,q2⟩
 refine⟨rfl,_,(by repeat constructor),?_⟩
 refine a_ (h:=e_ (Ao (?_)))
 have hs0:=kJ p1 q1
 obtain⟨M,rfl⟩:=Int.eq_ofNat_of_zero_le (show 0≤k2 by omega)
 refine Ba (fun n S=>∃(j b:Nat) (s:Syst),j≤M∧n=j∧b+400 * j≤a+2+400 * M∧SysV s (14 - j)∧S=⟨look [(0, .bp 0 0),(2, .bp 1 0),(3, .bp 2 0),(5, .v (.int .i64 (j:Int)))],⟨[DY l b,Ew,Bg s],[]⟩⟩) (M) ((wk 3 0)) (⟨M,_,_,Nat.le_refl _,rfl,by omega,hs0.mono (Nat.zero_le _),rfl⟩) ?_
 rintro n S ⟨j,b,s,hj,rfl,hb,hs,rfl⟩
 refine q_ (w_ (m_ (h:=CZ (h:=e_ (?_)))))
 refine A8 rfl (fun hb1=>?_) (fun hb1=>?_)
 ·have hc1:=bp hb1
  refine AG (q_ (Ao (BH ([(1,Ew)]) 12 (h:=AN 1 (h:=AF 2 (h:=AN 5 (h:=?_)))))))
  refine Da 0 3 rfl rfl ?_ ?_
  ·refine Ez rfl rfl rfl ?_
   refine o_ (h:=?_)
   refine c_ 3 rfl (FR rfl rfl rfl ?_)
   refine o_ (h:=?_)
   refine c_ 4 rfl (BU 0 (hc:=Rh l _ s.tab (by omega) hs.tab) (hR:=?_))
   rintro r a3 ha3 ⟨pid,rfl⟩
   refine⟨rfl,_,(by repeat constructor),?_⟩
   refine o_ (h:=?_)
   refine c_ 6 rfl (BU 0 (hc:=Ot l _ (by omega)) (hR:=?_))
   rintro r a4 ha4 ⟨c,hcp,hca,rfl⟩
   refine⟨rfl,_,(by repeat constructor),?_⟩
   refine o_ (h:=?_)
   refine c_ 7 rfl (AK (KX s pid c hs.spc (by have:=hs.few;omega) hs.tab hs.num hcp hca) ?_)
   rintro r rfl
   refine o_ (h:=AN 8 (h:=B4 9 (h:=B4 10 (h:=?_))))
   refine B0 11 rfl (Aw rfl rfl rfl rfl rfl rfl (by repeat constructor) (by repeat constructor) ?_)
   refine o_ (h:=z_ (h:=Ay (t_ (AP (m_ (h:=?_))))))
   refine A4 rfl (JU rfl rfl (by omega) ?_)
   refine a_ (h:=AO (?_))
   refine AD ?_
   refine⟨n - 1,_,by omega,⟨n - 1,_,(C3 s pid c).1,by omega,rfl,?_,(Kc hs pid c).mono (by omega),rfl⟩,(by rw[show((n - 1:Nat):Int)=(n:Int) - 1 by omega];exact Az 3 0 rfl rfl rfl rfl ((by repeat (first|exact Sub.nil|refine Sub.cons _ _ _ rfl rfl ?_|refine Sub.any _ _ ?_|refine Sub.sl _ _ _ _ _ rfl ?_|refine Sub.slnil _ _ _ rfl ?_))))⟩
   omega
  refine FR rfl rfl rfl ?_
  refine o_ (h:=?_)
  refine Da 0 4 rfl rfl ?_ ?_
  ·refine Ez rfl rfl rfl ?_
   refine o_ (h:=?_)
   refine c_ 4 rfl (BU 0 (hc:=Rh l _ s.tab (by omega) hs.tab) (hR:=?_))
   rintro r a5 ha5 ⟨pid,rfl⟩
   refine⟨rfl,_,(by repeat constructor),?_⟩
   refine o_ (h:=?_)
   refine c_ 6 rfl (BU 0 (hc:=Ot l _ (by omega)) (hR:=?_))
   rintro r a6 ha6 ⟨c,hcp,hca,rfl⟩
   refine⟨rfl,_,(by repeat constructor),?_⟩
   refine o_ (h:=?_)
   refine c_ 7 rfl (AK (KX s pid c hs.spc (by have:=hs.few;omega) hs.tab hs.num hcp hca) ?_)
   rintro r rfl
   refine o_ (h:=AN 8 (h:=B4 9 (h:=B4 10 (h:=?_))))
   refine B0 11 rfl (Aw rfl rfl rfl rfl rfl rfl (by repeat constructor) (by repeat constructor) ?_)
   refine o_ (h:=z_ (h:=Ay (t_ (AP (m_ (h:=?_))))))
   refine A4 rfl (JU rfl rfl (by omega) ?_)
   refine a_ (h:=AO (?_))
   refine AD ?_
   refine⟨n - 1,_,by omega,⟨n - 1,_,(C3 s pid c).1,by omega,rfl,?_,(Kc hs pid c).mono (by omega),rfl⟩,(by rw[show((n - 1:Nat):Int)=(n:Int) - 1 by omega];exact Az 3 0 rfl rfl rfl rfl ((by repeat (first|exact Sub.nil|refine Sub.cons _ _ _ rfl rfl ?_|refine Sub.any _ _ ?_|refine Sub.sl _ _ _ _ _ rfl ?_|refine Sub.slnil _ _ _ rfl ?_))))⟩
   omega
  refine BU 0 (hc:=Rh l _ s.tab (by omega) hs.tab) (hR:=?_)
  rintro r a7 ha7 ⟨pid,rfl⟩
  refine⟨rfl,_,(by repeat constructor),?_⟩
  refine o_ (h:=?_)
  refine Da 0 6 rfl rfl ?_ ?_
  ·refine Ez rfl rfl rfl ?_
   refine o_ (h:=?_)
   refine c_ 6 rfl (BU 0 (hc:=Ot l _ (by omega)) (hR:=?_))
   rintro r a8 ha8 ⟨c,hcp,hca,rfl⟩
   refine⟨rfl,_,(by repeat constructor),?_⟩
   refine o_ (h:=?_)
   refine c_ 7 rfl (AK (KX s pid c hs.spc (by have:=hs.few;omega) hs.tab hs.num hcp hca) ?_)
   rintro r rfl
   refine o_ (h:=AN 8 (h:=B4 9 (h:=B4 10 (h:=?_))))
   refine B0 11 rfl (Aw rfl rfl rfl rfl rfl rfl (by repeat constructor) (by repeat constructor) ?_)
   refine o_ (h:=z_ (h:=Ay (t_ (AP (m_ (h:=?_))))))
   refine A4 rfl (JU rfl rfl (by omega) ?_)
   refine a_ (h:=AO (?_))
   refine AD ?_
   refine⟨n - 1,_,by omega,⟨n - 1,_,(C3 s pid c).1,by omega,rfl,?_,(Kc hs pid c).mono (by omega),rfl⟩,(by rw[show((n - 1:Nat):Int)=(n:Int) - 1 by omega];exact Az 3 0 rfl rfl rfl rfl ((by repeat (first|exact Sub.nil|refine Sub.cons _ _ _ rfl rfl ?_|refine Sub.any _ _ ?_|refine Sub.sl _ _ _ _ _ rfl ?_|refine Sub.slnil _ _ _ rfl ?_))))⟩
   omega
  refine BU 0 (hc:=Ot l _ (by omega)) (hR:=?_)
  rintro r a9 ha9 ⟨c,hcp,hca,rfl⟩
  refine⟨rfl,_,(by repeat constructor),?_⟩
  refine o_ (h:=?_)
  refine c_ 0 rfl (Ez rfl rfl rfl ?_)
  refine o_ (h:=?_)
  refine c_ 7 rfl (AK (KX s pid c hs.spc (by have:=hs.few;omega) hs.tab hs.num hcp hca) ?_)
  rintro r rfl
  refine o_ (h:=AN 8 (h:=B4 9 (h:=B4 10 (h:=?_))))
  refine B0 11 rfl (Aw rfl rfl rfl rfl rfl rfl (by repeat constructor) (by repeat constructor) ?_)
  refine o_ (h:=z_ (h:=Ay (t_ (AP (m_ (h:=?_))))))
  refine A4 rfl (JU rfl rfl (by omega) ?_)
  refine a_ (h:=AO (?_))
  refine AD ?_
  refine⟨n - 1,_,by omega,⟨n - 1,_,(C3 s pid c).1,by omega,rfl,?_,(Kc hs pid c).mono (by omega),rfl⟩,(by rw[show((n - 1:Nat):Int)=(n:Int) - 1 by omega];exact Az 3 0 rfl rfl rfl rfl ((by repeat (first|exact Sub.nil|refine Sub.cons _ _ _ rfl rfl ?_|refine Sub.any _ _ ?_|refine Sub.sl _ _ _ _ _ rfl ?_|refine Sub.slnil _ _ _ rfl ?_))))⟩
  omega
 have hc1:=bp hb1
 refine BO (Aq (Aq (BQ (t_ (w_ (l_ (h:=s_ (h:=e_ (A6 (?_))))))))))
 refine Aj none (h5:=(LeA.refl _)) (h6:=⟨_,rfl,rfl,b,by omega,rfl,s,rfl,hs.mono (by omega)⟩)
end
theorem Ri{s:Spc}{a b:A9}(h:AX s.files b=false):decide (a∈BE s (BL s.files) b)=false:=by
 have e:BE s (BL s.files) b=[]:=by
  cases BL s.files with
  |zero=>rfl
  |succ k=>unfold BE;rw[h];rfl
 rw[e]
 rfl
section
variable {ev:Operand→Option AV}{h:AH}{R:AV→AH→Prop}{d:Option Tmp}{ty:TypeId}{pos:String}{af:Array Edge}{gd:Option (Nat×Bool)}
theorem kT{x ix:Operand}{a b:A9}(j:Nat)(hx:ev x=some (.agg [.v (.int .i64 a.1), .v (.int .i64 a.2), .v (.int .i64 b.1), .v (.int .i64 b.2)]))(hi:ev ix=some (.v (.int .i64 (j:Int))))(hj:j<2)(hR:R (.agg (AA (if j=0 then a else b))) h):AStep Tryz.prog ⟨d, .index 122 x ix,ty,pos,af,gd⟩ ev h R:=by
 refine D3 (fun _ G w ec _ he=>?_) hR
 have h1:=he x (by simp[Op.operands]) _ hx
 have h2:=he ix (by simp[Op.operands]) _ hi
 simp only[rep]at h1 h2
 obtain⟨ys,h3,h4⟩:=h1
 simp only[AY,rep]at h4
 obtain⟨v1,q1,rfl,rfl,v2,q2,rfl,rfl,v3,q3,rfl,rfl,v4,q4,rfl,rfl,rfl⟩:=h4
 have u1:=Tryz.underlying122
 have u2:=Tryz.isAgg36
 have u3:=Tryz.sizeOf36
 match j,hj with
 |0,_=>
   refine⟨.agg #[.int .i64 a.1, .int .i64 a.2],?_,by simp[rep,AY,AA]⟩
   simp[execOp,h2,h3,Instr.index,asIntOf,part]
 |1,_=>
   refine⟨.agg #[.int .i64 b.1, .int .i64 b.2],?_,by simp[rep,AY,AA]⟩
   simp[execOp,h2,h3,Instr.index,asIntOf,part]
end
theorem Fm{s:Spc}{w:Wch}{d f:A9}{n:AE}(hk:w.kind=1):DR s w d n f=((!decide (w.file=(0,0))&&decide (w.file=f))||(!decide (n=⟨#[]⟩)&&decide (d=w.dir)&&decide (n=w.name))):=by
 unfold DR
 rw[if_pos hk]
 have e1:decide (w.file≠(0,0))= !decide (w.file=(0,0)):=by simp
 have e2:decide (n≠⟨#[]⟩)= !decide (n=⟨#[]⟩):=by simp
 have e3:decide (f=w.file)=decide (w.file=f):=decide_eq_decide.2 ⟨Eq.symm,Eq.symm⟩
 rw[e1,e2,e3]
section
theorem kU(s:Spc)(w:Wch)(y:Itm)(hs:SpcB s):AFn Tryz.prog 30 [.agg (Ai s), .agg (Ch w), .agg (Bt y)] (fun r=>r= .v (.bool (DR s w y.dir y.name y.file))):=by
 refine enter Tryz.func30 rfl rfl rfl rfl rfl 0 rfl ?_
 refine w_ (b_ (h:=b_ (h:=b_ (h:=a_ (h:=e_ (q_ (w_ (f_ (h:=l_ (h:=e_ (Ao (w_ (AQ (h:=a_ (h:=e_ (?_))))))))))))))))
 refine A8 rfl (fun hb1=>?_) (fun hb1=>?_)
 ·have hc1:=bp hb1
  refine q_ (?_)
  refine B5 (fun S=>S=⟨look [(3, .bp 0 0),(4, .bp 1 0),(5, .bp 2 0),(23, .v (.bool (!decide (w.file=(0,0))&&decide (w.file=y.file))))],⟨[Ai s,Ch w,Bt y],[]⟩⟩) ?_ ?_
  ·skip
   refine AP (f_ (h:=l_ (h:=AT (h:=?_))))
   refine A4 rfl (F1 rfl rfl (by repeat constructor) (by repeat constructor) (fun W=>iF w.file (0,0) W) (by kernel_rfl) ?_)
   refine m_ (h:=?_)
   refine Ax true rfl rfl (fun hb2=>?_) (fun hb2=>?_)
   ·have hc2:=bp hb2
    refine f_ (h:=l_ (h:=f_ (h:=l_ (h:=?_))))
    refine B6 (F1 rfl rfl (by repeat constructor) (by repeat constructor) (fun W=>N3 w.file y.file W) (by kernel_rfl) ?_)
    refine Af (h:=AO (?_))
    refine AD ?_
    exact⟨_,rfl,C4 3 0 rfl⟩
   have hc2:=bp hb2
   refine A3 (h:=A3 (h:=A3 (h:=A3 (h:=A3 (h:=Am (h:=AO (?_)))))))
   refine AD ?_
   exact⟨_,rfl,C4 3 0 rfl⟩
  rintro S rfl
  refine A8 rfl (fun hb3=>?_) (fun hb3=>?_)
  ·have hc3:=bp hb3
   refine w_ (a_ (h:=e_ (A6 (A7 (AR (A7 (?_)))))))
   refine AB ?_
   first|(exfalso;first|contradiction|omega)|(exact vb (by first|(rw[Fm hc1,hc3];simp[*];done)|(rw[Fm hc1,hc3];rfl)|(have hj3:j=0∨j=1:=(by omega);rcases hj3 with rfl|rfl<;>simp_all [DR];done)|(simp[DR,hj1 (by omega),hj2 (by omega), *];done)|(simp[DR, *];done)))
  have hc3:=bp hb3
  refine AG (w_ (f_ (h:=l_ (h:=BF (h:=m_ (h:=?_))))))
  refine Ax true rfl rfl (fun hb4=>?_) (fun hb4=>?_)
  ·have hc4:=bp hb4
   refine f_ (h:=l_ (h:=f_ (h:=l_ (h:=?_))))
   refine B6 (F1 rfl rfl (by repeat constructor) (by repeat constructor) (fun W=>N3 y.dir w.dir W) (by kernel_rfl) ?_)
   refine Af (h:=m_ (h:=?_))
   refine Ax true rfl rfl (fun hb5=>?_) (fun hb5=>?_)
   ·have hc5:=bp hb5
    refine f_ (h:=l_ (h:=f_ (h:=l_ (h:=AQ (h:=Af (h:=a_ (h:=e_ (A6 (AR (A7 (?_)))))))))))
    refine AB ?_
    first|(exfalso;first|contradiction|omega)|(exact vb (by first|(rw[Fm hc1,hc3];simp[*];done)|(rw[Fm hc1,hc3];rfl)|(have hj3:j=0∨j=1:=(by omega);rcases hj3 with rfl|rfl<;>simp_all [DR];done)|(simp[DR,hj1 (by omega),hj2 (by omega), *];done)|(simp[DR, *];done)))
   have hc5:=bp hb5
   refine A3 (h:=A3 (h:=A3 (h:=A3 (h:=A3 (h:=Am (h:=a_ (h:=e_ (A6 (AR (A7 (?_)))))))))))
   refine AB ?_
   first|(exfalso;first|contradiction|omega)|(exact vb (by first|(rw[Fm hc1,hc3];simp[*];done)|(rw[Fm hc1,hc3];rfl)|(have hj3:j=0∨j=1:=(by omega);rcases hj3 with rfl|rfl<;>simp_all [DR];done)|(simp[DR,hj1 (by omega),hj2 (by omega), *];done)|(simp[DR, *];done)))
  have hc4:=bp hb4
  refine A3 (h:=A3 (h:=A3 (h:=A3 (h:=A3 (h:=Am (h:=m_ (h:=A3 (h:=A3 (h:=A3 (h:=A3 (h:=A3 (h:=Am (h:=a_ (h:=e_ (A6 (AR (A7 (?_))))))))))))))))))
  refine AB ?_
  first|(exfalso;first|contradiction|omega)|(exact vb (by first|(rw[Fm hc1,hc3];simp[*];done)|(rw[Fm hc1,hc3];rfl)|(have hj3:j=0∨j=1:=(by omega);rcases hj3 with rfl|rfl<;>simp_all [DR];done)|(simp[DR,hj1 (by omega),hj2 (by omega), *];done)|(simp[DR, *];done)))
 have hc1:=bp hb1
 refine w_ (AQ (h:=a_ (h:=e_ (?_))))
 refine A8 rfl (fun hb6=>?_) (fun hb6=>?_)
 ·have hc6:=bp hb6
  refine w_ (f_ (h:=l_ (h:=f_ (h:=l_ (h:=AT (h:=m_ (h:=e_ (Ao (?_)))))))))
  refine Ba (fun m S=>∃j:Nat,j≤2∧m=2 - j∧(0<j→KY s w.file y.dir=false)∧(1<j→KY s w.file y.file=false)∧S=⟨look [(3, .bp 0 0),(4, .bp 1 0),(5, .bp 2 0),(47, .agg [.v (.int .i64 y.dir.1), .v (.int .i64 y.dir.2), .v (.int .i64 y.file.1), .v (.int .i64 y.file.2)]),(48, .v (.int .i64 (j:Int)))],⟨[Ai s,Ch w,Bt y],[]⟩⟩) (2) ((wk 3 0)) (⟨0,by omega,rfl,fun q=>by omega,fun q=>by omega,rfl⟩) ?_
  rintro m S ⟨j,hj,rfl,hj1,hj2,rfl⟩
  refine w_ (BJ (h:=e_ (q_ (?_))))
  refine A8 rfl (fun hb7=>?_) (fun hb7=>?_)
  ·have hc7:=bp hb7
   refine AG (q_ (Ao (?_)))
   refine B5 (fun S=>∃z,z=(if j=0 then y.dir else y.file)∧S=⟨look [(3, .bp 0 0),(4, .bp 1 0),(5, .bp 2 0),(8, .bp 3 0),(47, .agg [.v (.int .i64 y.dir.1), .v (.int .i64 y.dir.2), .v (.int .i64 y.file.1), .v (.int .i64 y.file.2)]),(48, .v (.int .i64 (j:Int)))],⟨[Ai s,Ch w,Bt y,AA z],[]⟩⟩) ?_ ?_
   ·skip
    refine AP (?_)
    refine A4 rfl (kT j rfl rfl (by omega) ?_)
    refine AW (h:=s_ (h:=AO (?_)))
    refine AD ?_
    exact⟨_,⟨_,rfl,rfl⟩,Az 4 0 rfl rfl rfl rfl ((by repeat (first|exact Sub.nil|refine Sub.cons _ _ _ rfl rfl ?_|refine Sub.any _ _ ?_|refine Sub.sl _ _ _ _ _ rfl ?_|refine Sub.slnil _ _ _ rfl ?_)))⟩
   rintro S ⟨z,hz,rfl⟩
   refine B5 (fun S=>S=⟨look [(3, .bp 0 0),(4, .bp 1 0),(5, .bp 2 0),(47, .agg [.v (.int .i64 y.dir.1), .v (.int .i64 y.dir.2), .v (.int .i64 y.file.1), .v (.int .i64 y.file.2)]),(48, .v (.int .i64 (j:Int))),(60, .v (.bool (KY s w.file z)))],⟨[Ai s,Ch w,Bt y],[]⟩⟩) ?_ ?_
   ·skip
    refine AP (l_ (h:=l_ (h:=?_)))
    refine A4 rfl (AK (RZ s z hs) ?_)
    rintro r rfl
    refine m_ (h:=?_)
    refine Ax true rfl rfl (fun hb8=>?_) (fun hb8=>?_)
    ·have hc8:=bp hb8
     refine l_ (h:=f_ (h:=l_ (h:=l_ (h:=?_))))
     refine B6 (AK (aG s hs w.file z) ?_)
     rintro r rfl
     refine Af (h:=AO (?_))
     refine AD ?_
     refine⟨_,rfl,Az 3 0 rfl rfl rfl rfl (by repeat (first|exact Sub.nil|refine Sub.cons _ _ _ rfl rfl ?_|(apply Sub.of;(focus exact rfl);(focus exact LeA.of_eq (vb (by first|rfl|exact(Ri ‹_›).symm)));(focus exact rfl))))⟩
    have hc8:=bp hb8
    refine A3 (h:=A3 (h:=A3 (h:=A3 (h:=A3 (h:=Am (h:=AO (?_)))))))
    refine AD ?_
    refine⟨_,rfl,Az 3 0 rfl rfl rfl rfl (by repeat (first|exact Sub.nil|refine Sub.cons _ _ _ rfl rfl ?_|(apply Sub.of;(focus exact rfl);(focus exact LeA.of_eq (vb (by first|rfl|exact(Ri ‹_›).symm)));(focus exact rfl))))⟩
   rintro S rfl
   refine A8 rfl (fun hb9=>?_) (fun hb9=>?_)
   ·have hc9:=bp hb9
    refine w_ (a_ (h:=e_ (A6 (AR (A7 (A7 (AR (AR (A7 (?_))))))))))
    refine AB ?_
    first|(exfalso;first|contradiction|omega)|(exact vb (by first|(rw[Fm hc1,hc3];simp[*];done)|(rw[Fm hc1,hc3];rfl)|(have hj3:j=0∨j=1:=(by omega);rcases hj3 with rfl|rfl<;>simp_all [DR];done)|(simp[DR,hj1 (by omega),hj2 (by omega), *];done)|(simp[DR, *];done)))
   have hc9:=bp hb9
   refine BB (Ay (t_ (AP (B8 (h:=m_ (h:=AO (?_)))))))
   refine AD ?_
   have hj3:j=0∨j=1:=by omega
   refine⟨_,_,?_,⟨j+1,by omega,rfl,?_,?_,rfl⟩,Az 3 0 rfl rfl rfl rfl ((by repeat (first|exact Sub.nil|refine Sub.cons _ _ _ rfl rfl ?_|refine Sub.any _ _ ?_|refine Sub.sl _ _ _ _ _ rfl ?_|refine Sub.slnil _ _ _ rfl ?_)))⟩
   ·omega
   ·intro _
    rcases hj3 with rfl|rfl
    ·rw[if_pos rfl]at hz;rw[←hz];assumption
    exact hj1 (by omega)
   intro q
   rcases hj3 with rfl|rfl
   ·omega
   rw[if_neg (by omega)]at hz;rw[←hz];assumption
  have hc7:=bp hb7
  refine BO (Aq (Aq (BQ (Ay (t_ (w_ (a_ (h:=e_ (A6 (?_))))))))))
  refine AB ?_
  first|(exfalso;first|contradiction|omega)|(exact vb (by first|(rw[Fm hc1,hc3];simp[*];done)|(rw[Fm hc1,hc3];rfl)|(have hj3:j=0∨j=1:=(by omega);rcases hj3 with rfl|rfl<;>simp_all [DR];done)|(simp[DR,hj1 (by omega),hj2 (by omega), *];done)|(simp[DR, *];done)))
 have hc6:=bp hb6
 refine BB (Ay (t_ (w_ (a_ (h:=e_ (A6 (?_)))))))
 refine AB ?_
 first|(exfalso;first|contradiction|omega)|(exact vb (by first|(rw[Fm hc1,hc3];simp[*];done)|(rw[Fm hc1,hc3];rfl)|(have hj3:j=0∨j=1:=(by omega);rcases hj3 with rfl|rfl<;>simp_all [DR];done)|(simp[DR,hj1 (by omega),hj2 (by omega), *];done)|(simp[DR, *];done)))
end
section
variable {P:Program}{ev:Operand→Option AV}{h:AH}{R:AV→AH→Prop}{d:Option Tmp}{ty:TypeId}{pos:String}{af:Array Edge}{gd:Option (Nat×Bool)}
theorem kV{T yT:TypeId}{x y:Operand}(a:Bool)(hu:P.underlying T=some .bool)(hx:ev x=some (.v (.bool a)))(hy:ev y=some (.v (.bool a)))(hR:R (.v (.bool false)) h):AStep P ⟨d, .binOp .neq T x y yT,ty,pos,af,gd⟩ ev h R:=
 Lx hu hx hy (by cases a<;>exact hR)
end
theorem kX{s:Spc}(hv:SpcV s)(a:A9):KY s a (0,0)=false:=Ri (dR hv)
def Ld(x:A9):Itm:=⟨⟨#[]⟩,⟨#[]⟩,x,⟨#[122,122]⟩,(0,0),2,0,0,0,0,2⟩
theorem kY{s:Spc}(hv:SpcV s){w:Wch}(hk:w.kind=2)(x:A9):DR s w (Ld x).dir (Ld x).name (Ld x).file=decide (w.file∈BE s (BL s.files) x):=by
 unfold DR
 rw[if_neg (by omega),if_pos hk]
 have:KY s w.file (Ld x).file=false:=kX hv _
 rw[this,Bool.or_false]
 rfl
theorem kZ{s:Spc}{w:Wch}(hk:w.kind=2):(H4 s w).2=(AX s.files w.file&&Bl s w.file.1)∧((H4 s w).2=true→(H4 s w).1=w):=by
 have hd:DE w=w.file:=by unfold DE;rw[if_pos hk]
 unfold H4
 rw[hd]
 have ht:JL s w.file=(AX s.files w.file&&Bl s w.file.1):=rfl
 rw[←ht]
 cases h:JL s w.file with
 |false=>rw[if_pos (.inr rfl)];exact⟨rfl,fun q=>by cases q⟩
 |true=>
   rw[if_neg (by simp;omega),if_neg (by omega)]
   exact⟨rfl,fun _=>rfl⟩
def GE(p q:AE):Cal:=⟨13,0,0,0,0,[p,q],[]⟩
theorem Rj(p q:AE):LeA (.agg [.v (.int .i64 13), .v (.int .i64 0), .v (.int .i64 0), .v (.int .i64 0), .v (.int .i64 0), .sl 1 [[.v (.string p)],[.v (.string q)]] none, .v (.slice none 0 0)]) (.agg (D0 (GE p q))):=
 LeA.agg (.cons (LeA.refl _) (.cons (LeA.refl _) (.cons (LeA.refl _) (.cons (LeA.refl _) (.cons (LeA.refl _) (.cons (LeA.refl _) (.cons (LeA.nil _) .nil)))))))
section
theorem l0(l:List Int):AFn Tryz.prog 9 [.sl 1 (l.map C5) none] (fun r=>r= .v (.bool true)):=by
 refine enter Tryz.func9 rfl rfl rfl rfl rfl 0 rfl ?_
 refine w_ (a_ (h:=e_ (w_ (m_ (h:=?_)))))
 refine A4 rfl (XS rfl (by repeat (first|exact Args.nil|refine Args.cons _ _ _ _ _ rfl (Kq rfl) ?_|refine Args.cons _ _ _ _ _ rfl (Lv _) ?_|refine Args.cons _ _ _ _ _ rfl (Ko _) ?_|refine Args.cons _ _ _ _ _ rfl (Lz rfl (by repeat (first|exact LeA.refl _|exact LeA.nil _|exact LeL.refl _|refine LeA.agg ?_|refine LeA.tup ?_|exact LeL.nil|refine LeL.cons ?_ ?_|exact LeA.any _))) ?_)) rfl (Zf l) (by repeat constructor) ?_)
 skip
 refine a_ (h:=e_ (w_ (m_ (h:=?_))))
 refine A4 rfl (BU 0 (hc:=kQ l _ (by omega)) (hR:=?_))
 rintro r a1 ha1 ⟨s0,rfl,hs0⟩
 refine⟨rfl,_,(by repeat constructor),?_⟩
 have hm0:s0.spc.mounts.length≤1000:=by have:=hs0.few;omega
 refine AW (h:=s_ (h:=e_ (w_ (AW (h:=e_ (q_ (w_ (a_ (h:=e_ (Ao (?_)))))))))))
 refine Ba (fun n S=>∃(j b0:Nat) (w:Wch),j≤4∧n=4 - j∧b0≤a1+100 * j∧S=⟨look [(3, .bp 0 0),(4, .bp 1 0),(5, .bp 2 0),(6, .v (.int .i64 (j:Int)))],⟨[DY l b0,Bg s0,Ch w],[]⟩⟩) (4) ((wk 3 0)) (⟨0,_,FG,by omega,rfl,by omega,rfl⟩) ?_
 rintro n S ⟨j,b0,w,hj,rfl,hb0,rfl⟩
 refine q_ (w_ (m_ (h:=BJ (h:=e_ (?_)))))
 refine A8 rfl (fun hb1=>?_) (fun hb1=>?_)
 ·have hc1:=bp hb1
  refine AG (q_ (Ao (w_ (m_ (h:=f_ (h:=l_ (h:=?_)))))))
  refine A4 rfl (BU 0 (hc:=iU l _ s0.spc (by omega) hs0.spc hm0) (hR:=?_))
  rintro r a2 ha2 ⟨v0,wb,rfl,hwn0,hw1,hw2⟩
  refine⟨rfl,_,(by repeat constructor),?_⟩
  refine m_ (h:=x_ (h:=x_ (h:=AW (h:=s_ (h:=a_ (h:=e_ (w_ (m_ (h:=m_ (h:=?_))))))))))
  refine Ax true rfl rfl (fun hb2=>?_) (fun hb2=>?_)
  ·have hc2:=bp hb2
   refine f_ (h:=l_ (h:=AQ (h:=Af (h:=e_ (?_)))))
   refine A8 rfl (fun hb3=>?_) (fun hb3=>?_)
   ·have hc3:=bp hb3
    refine AP (l_ (h:=s_ (h:=AO (Ay (t_ (AP (m_ (h:=B8 (h:=a_ (h:=AO (?_)))))))))))
    refine AD ?_
    exact⟨4 - (j+1),_,by omega,⟨j+1,_,v0,by omega,rfl,by omega,rfl⟩,Az 3 0 rfl rfl rfl rfl ((by repeat (first|exact Sub.nil|refine Sub.cons _ _ _ rfl rfl ?_|refine Sub.any _ _ ?_|refine Sub.sl _ _ _ _ _ rfl ?_|refine Sub.slnil _ _ _ rfl ?_)))⟩
   have hc3:=bp hb3
   refine BB (Ay (t_ (AP (m_ (h:=B8 (h:=a_ (h:=AO (?_))))))))
   refine AD ?_
   first|exact⟨4 - (j+1),_,by omega,⟨j+1,_,v0,by omega,rfl,by omega,rfl⟩,Az 3 0 rfl rfl rfl rfl ((by repeat (first|exact Sub.nil|refine Sub.cons _ _ _ rfl rfl ?_|refine Sub.any _ _ ?_|refine Sub.sl _ _ _ _ _ rfl ?_|refine Sub.slnil _ _ _ rfl ?_)))⟩|exact⟨4 - (j+1),_,by omega,⟨j+1,_,w,by omega,rfl,by omega,rfl⟩,Az 3 0 rfl rfl rfl rfl ((by repeat (first|exact Sub.nil|refine Sub.cons _ _ _ rfl rfl ?_|refine Sub.any _ _ ?_|refine Sub.sl _ _ _ _ _ rfl ?_|refine Sub.slnil _ _ _ rfl ?_)))⟩
  have hc2:=bp hb2
  refine A3 (h:=A3 (h:=A3 (h:=Am (h:=e_ (F6 (h:=BB (Ay (t_ (AP (m_ (h:=B8 (h:=a_ (h:=AO (?_))))))))))))))
  refine AD ?_
  first|exact⟨4 - (j+1),_,by omega,⟨j+1,_,v0,by omega,rfl,by omega,rfl⟩,Az 3 0 rfl rfl rfl rfl ((by repeat (first|exact Sub.nil|refine Sub.cons _ _ _ rfl rfl ?_|refine Sub.any _ _ ?_|refine Sub.sl _ _ _ _ _ rfl ?_|refine Sub.slnil _ _ _ rfl ?_)))⟩|exact⟨4 - (j+1),_,by omega,⟨j+1,_,w,by omega,rfl,by omega,rfl⟩,Az 3 0 rfl rfl rfl rfl ((by repeat (first|exact Sub.nil|refine Sub.cons _ _ _ rfl rfl ?_|refine Sub.any _ _ ?_|refine Sub.sl _ _ _ _ _ rfl ?_|refine Sub.slnil _ _ _ rfl ?_)))⟩
 have hc1:=bp hb1
 refine BO (Aq (Aq (BQ (t_ (q_ (w_ (f_ (h:=l_ (h:=BF (h:=e_ (?_)))))))))))
 refine A8 rfl (fun hb4=>?_) (fun hb4=>?_)
 ·have hc4:=bp hb4
  refine w_ (?_)
  refine A4 rfl (AK (On) ?_)
  rintro r rfl
  refine a_ (h:=e_ (A6 (A7 (?_))))
  refine AB ?_
  rfl
 have hc4:=bp hb4
 have hk:w.kind=2:=by simpa using hc4
 refine AG (q_ (w_ (a_ (h:=e_ (Ao (?_))))))
 refine Ba (fun n S=>∃(j b0:Nat) (s:Syst),j≤6∧n=6 - j∧b0≤a1+500+200 * j∧SysV s (14+j)∧S=⟨look [(3, .bp 0 0),(4, .bp 1 0),(5, .bp 2 0),(9, .v (.int .i64 (j:Int)))],⟨[DY l b0,Bg s,Ch w],[]⟩⟩) (6) ((wk 3 0)) (⟨0,_,s0,by omega,rfl,by omega,hs0,rfl⟩) ?_
 rintro n S ⟨j,b0,s,hj,rfl,hb0,hs,rfl⟩
 have hsb:SpcB s.spc:=hs.spc.b (by have:=hs.few;omega)
 have hmo:BL s.spc.files≤5000:=by have:=Qm hs.spc.files;omega
 refine q_ (w_ (m_ (h:=BJ (h:=e_ (?_)))))
 refine A8 rfl (fun hb5=>?_) (fun hb5=>?_)
 ·have hc5:=bp hb5
  refine AG (q_ (Ao (?_)))
  refine B5 (fun S=>∃(x:A9) (b1:Nat),b1≤b0+100∧S=⟨look [(3, .bp 0 0),(4, .bp 1 0),(5, .bp 2 0),(9, .v (.int .i64 (j:Int))),(10, .bp 3 0)],⟨[DY l b1,Bg s,Ch w,AA x],[]⟩⟩) ?_ ?_
  ·skip
   refine AP (m_ (h:=f_ (h:=f_ (h:=l_ (h:=?_)))))
   refine A4 rfl (BU 0 (hc:=Zg l _ s.spc.files (by omega) hs.spc.files.b hs.spc.files.ne) (hR:=?_))
   rintro r a3 ha3 ⟨x,rfl⟩
   refine⟨rfl,_,(by repeat constructor),?_⟩
   refine AW (h:=s_ (h:=AO (?_)))
   refine AD ?_
   exact⟨_,⟨x,_,(by omega),rfl⟩,Az 4 0 rfl rfl rfl rfl ((by repeat (first|exact Sub.nil|refine Sub.cons _ _ _ rfl rfl ?_|refine Sub.any _ _ ?_|refine Sub.sl _ _ _ _ _ rfl ?_|refine Sub.slnil _ _ _ rfl ?_)))⟩
  rintro S ⟨x,b1,hb1,rfl⟩
  refine w_ (l_ (h:=?_))
  refine A4 rfl (EQ (y:= .agg (Bt (Ld x))) (Ca ⟨rfl,rfl⟩) ?_)
  refine AW (h:=s_ (h:=e_ (q_ (?_))))
  refine B5 (fun S=>S=⟨look [(3, .bp 0 0),(4, .bp 1 0),(5, .bp 2 0),(9, .v (.int .i64 (j:Int))),(62, .v (.bool false))],⟨[DY l b1,Bg s,Ch w],[]⟩⟩) ?_ ?_
  ·skip
   refine DT 12 (h:=AF 0 (h:=AJ 1 (h:=AJ 2 (h:=AJ 3 (h:=AF 5 (h:=AJ 6 (h:=AF 7 (h:=AJ 8 (h:=AJ 9 (h:=?_))))))))))
   refine c_ 4 rfl (AK (kU s.spc w (Ld x) hsb) ?_)
   rintro r rfl
   rw[kY hs.spc hk]
   refine o_ (h:=?_)
   refine c_ 10 rfl (AK (aU hsb hs.spc hmo w.file x) ?_)
   rintro r rfl
   refine o_ (h:=?_)
   refine FL (i:=11) rfl (kV (decide (w.file∈BE s.spc (BL s.spc.files) x)) (by kernel_rfl) rfl rfl ⟨rfl,rfl⟩) ?_
   refine z_ (h:=?_)
   refine AD ?_
   exact⟨_,rfl,Az 3 0 rfl rfl rfl rfl ((by repeat (first|exact Sub.nil|refine Sub.cons _ _ _ rfl rfl ?_|refine Sub.any _ _ ?_|refine Sub.sl _ _ _ _ _ rfl ?_|refine Sub.slnil _ _ _ rfl ?_)))⟩
  rintro S rfl
  refine A8 rfl (fun hb6=>?_) (fun hb6=>?_)
  ·have hc6:=bp hb6
   refine w_ (a_ (h:=e_ (A6 (A7 (AR (A7 (A7 (AR (A7 (?_))))))))))
   refine AB ?_
   first|rfl|(exfalso;first|contradiction|omega|(simp_all;done))
  have hc6:=bp hb6
  refine AG (?_)
  refine B5 (fun S=>∃(s2:Syst) (b2:Nat),b2≤b0+200∧SysV s2 (15+j)∧S=⟨look [(3, .bp 0 0),(4, .bp 1 0),(5, .bp 2 0),(9, .v (.int .i64 (j:Int)))],⟨[DY l b2,Bg s2,Ch w],[]⟩⟩) ?_ ?_
  ·skip
   refine BH ([(2,Ch w)]) 12 (h:=AN 1 (h:=AN 3 (h:=?_)))
   refine Da 0 2 rfl rfl ?_ ?_
   ·refine Ez rfl rfl rfl ?_
    refine o_ (h:=?_)
    refine c_ 2 rfl (BU 0 (hc:=LD l _ (by omega)) (hR:=?_))
    rintro r a4 ha4 ⟨pa,rfl,hpa⟩
    refine⟨rfl,_,(by repeat constructor),?_⟩
    refine o_ (h:=?_)
    refine c_ 4 rfl (BU 0 (hc:=LD l _ (by omega)) (hR:=?_))
    rintro r a5 ha5 ⟨pb,rfl,hpb⟩
    refine⟨rfl,_,(by repeat constructor),?_⟩
    refine o_ (h:=GM 5 (h:=?_))
    refine Bj 6 rfl (fun _ hS=>EC (y:= .agg (D0 (GE pa pb))) (Ca ⟨rfl,rfl⟩) (Rj pa pb) ⟨rfl,rfl⟩) ?_
    refine c_ 7 rfl (AK (KX s 1 (GE pa pb) hs.spc (by have:=hs.few;omega) hs.tab hs.num (by show 2≤1000;decide) (by show 0≤1000;decide)) ?_)
    rintro r rfl
    refine o_ (h:=AN 8 (h:=B4 9 (h:=B4 10 (h:=?_))))
    refine B0 11 rfl (Aw rfl rfl rfl rfl rfl rfl (by repeat constructor) (by repeat constructor) ?_)
    refine o_ (h:=z_ (h:=?_))
    refine AD ?_
    exact⟨_,⟨(C3 s 1 (GE pa pb)).1,_,(by omega),(Kc hs 1 (GE pa pb)).mono (by omega),rfl⟩,Az 3 0 rfl rfl rfl rfl ((by repeat (first|exact Sub.nil|refine Sub.cons _ _ _ rfl rfl ?_|refine Sub.any _ _ ?_|refine Sub.sl _ _ _ _ _ rfl ?_|refine Sub.slnil _ _ _ rfl ?_)))⟩
   refine BU 0 (hc:=LD l _ (by omega)) (hR:=?_)
   rintro r a6 ha6 ⟨pa,rfl,hpa⟩
   refine⟨rfl,_,(by repeat constructor),?_⟩
   refine o_ (h:=?_)
   refine Da 0 4 rfl rfl ?_ ?_
   ·refine Ez rfl rfl rfl ?_
    refine o_ (h:=?_)
    refine c_ 4 rfl (BU 0 (hc:=LD l _ (by omega)) (hR:=?_))
    rintro r a7 ha7 ⟨pb,rfl,hpb⟩
    refine⟨rfl,_,(by repeat constructor),?_⟩
    refine o_ (h:=GM 5 (h:=?_))
    refine Bj 6 rfl (fun _ hS=>EC (y:= .agg (D0 (GE pa pb))) (Ca ⟨rfl,rfl⟩) (Rj pa pb) ⟨rfl,rfl⟩) ?_
    refine c_ 7 rfl (AK (KX s 1 (GE pa pb) hs.spc (by have:=hs.few;omega) hs.tab hs.num (by show 2≤1000;decide) (by show 0≤1000;decide)) ?_)
    rintro r rfl
    refine o_ (h:=AN 8 (h:=B4 9 (h:=B4 10 (h:=?_))))
    refine B0 11 rfl (Aw rfl rfl rfl rfl rfl rfl (by repeat constructor) (by repeat constructor) ?_)
    refine o_ (h:=z_ (h:=?_))
    refine AD ?_
    exact⟨_,⟨(C3 s 1 (GE pa pb)).1,_,(by omega),(Kc hs 1 (GE pa pb)).mono (by omega),rfl⟩,Az 3 0 rfl rfl rfl rfl ((by repeat (first|exact Sub.nil|refine Sub.cons _ _ _ rfl rfl ?_|refine Sub.any _ _ ?_|refine Sub.sl _ _ _ _ _ rfl ?_|refine Sub.slnil _ _ _ rfl ?_)))⟩
   refine BU 0 (hc:=LD l _ (by omega)) (hR:=?_)
   rintro r a8 ha8 ⟨pb,rfl,hpb⟩
   refine⟨rfl,_,(by repeat constructor),?_⟩
   refine o_ (h:=?_)
   refine GM 5 (h:=?_)
   refine Bj 6 rfl (fun _ hS=>EC (y:= .agg (D0 (GE pa pb))) (Ca ⟨rfl,rfl⟩) (Rj pa pb) ⟨rfl,rfl⟩) ?_
   refine c_ 0 rfl (Ez rfl rfl rfl ?_)
   refine o_ (h:=?_)
   refine c_ 7 rfl (AK (KX s 1 (GE pa pb) hs.spc (by have:=hs.few;omega) hs.tab hs.num (by show 2≤1000;decide) (by show 0≤1000;decide)) ?_)
   rintro r rfl
   refine o_ (h:=AN 8 (h:=B4 9 (h:=B4 10 (h:=?_))))
   refine B0 11 rfl (Aw rfl rfl rfl rfl rfl rfl (by repeat constructor) (by repeat constructor) ?_)
   refine o_ (h:=z_ (h:=?_))
   refine AD ?_
   exact⟨_,⟨(C3 s 1 (GE pa pb)).1,_,(by omega),(Kc hs 1 (GE pa pb)).mono (by omega),rfl⟩,Az 3 0 rfl rfl rfl rfl ((by repeat (first|exact Sub.nil|refine Sub.cons _ _ _ rfl rfl ?_|refine Sub.any _ _ ?_|refine Sub.sl _ _ _ _ _ rfl ?_|refine Sub.slnil _ _ _ rfl ?_)))⟩
  rintro S ⟨s2,b2,hb2,hs2,rfl⟩
  have hsb2:SpcB s2.spc:=hs2.spc.b (by have:=hs2.few;omega)
  refine w_ (f_ (h:=l_ (h:=l_ (h:=?_))))
  refine A4 rfl (AK (WU s2.spc w hsb2) ?_)
  rintro r rfl
  obtain⟨hf1,hf2⟩:=kZ (s:=s2.spc) (w:=w) hk
  generalize H4 s2.spc w=F at hf1 hf2 ⊢
  refine m_ (h:=x_ (h:=x_ (h:=AW (h:=s_ (h:=a_ (h:=e_ (q_ (w_ (m_ (h:=f_ (h:=f_ (h:=l_ (h:=f_ (h:=l_ (h:=?_)))))))))))))))
  refine A4 rfl (AK (GO s2.spc.files w.file hsb2.files) ?_)
  rintro r rfl
  refine m_ (h:=?_)
  refine Ax true rfl rfl (fun hb7=>?_) (fun hb7=>?_)
  ·have hc7:=bp hb7
   refine f_ (h:=l_ (h:=f_ (h:=f_ (h:=l_ (h:=?_)))))
   refine B6 (AK (Kw s2.spc w.file.1 hsb2) ?_)
   rintro r rfl
   refine Af (h:=BF (h:=m_ (h:=?_)))
   refine Ax false rfl rfl (fun hb8=>?_) (fun hb8=>?_)
   ·have hc8:=bp hb8
    refine A3 (h:=A3 (h:=ED (h:=ED (h:=ED (h:=A3 (h:=Af (h:=e_ (Bf (h:=w_ (a_ (h:=e_ (A6 (A7 (AR (A7 (A7 (AR (A7 (?_)))))))))))))))))))
    refine AB ?_
    first|rfl|(exfalso;first|contradiction|omega|(simp_all;done))
   have hc8:=bp hb8
   refine m_ (h:=m_ (h:=?_))
   refine Ax true rfl rfl (fun hb9=>?_) (fun hb9=>?_)
   ·have hc9:=bp hb9
    have hM:Bl s2.spc w.file.1=true:=by rw[hf1,hc7]at hc9;exact hc9
    refine l_ (h:=l_ (h:=?_))
    refine B6 (iT w (by rw[←hf2 (by assumption)];rfl) rfl ?_)
    refine Af (h:=Am (h:=e_ (?_)))
    refine A8 rfl (fun hb10=>?_) (fun hb10=>?_)
    ·have hc10:=bp hb10
     refine w_ (a_ (h:=e_ (A6 (A7 (AR (A7 (A7 (AR (A7 (?_))))))))))
     refine AB ?_
     first|rfl|(exfalso;first|contradiction|omega|(simp_all;done))
    have hc10:=bp hb10
    refine AG (w_ (m_ (h:=BA (h:=e_ (F6 (h:=BB (Ay (t_ (AP (m_ (h:=B8 (h:=a_ (h:=AO (?_))))))))))))))
    refine AD ?_
    refine⟨_,_,?_,⟨j+1,_,s2,by omega,rfl,?_,hs2.mono (by omega),rfl⟩,Az 3 0 rfl rfl rfl rfl ((by repeat (first|exact Sub.nil|refine Sub.cons _ _ _ rfl rfl ?_|refine Sub.any _ _ ?_|refine Sub.sl _ _ _ _ _ rfl ?_|refine Sub.slnil _ _ _ rfl ?_)))⟩<;>omega
   have hc9:=bp hb9
   have hM:Bl s2.spc w.file.1=false:=by rw[hf1,hc7]at hc9;exact hc9
   refine A3 (h:=A3 (h:=A3 (h:=Am (h:=Am (h:=e_ (F6 (h:=AG (w_ (m_ (h:=BA (h:=e_ (Bf (h:=w_ (?_))))))))))))))
   refine A4 rfl (AK (On) ?_)
   rintro r rfl
   refine a_ (h:=e_ (A6 (AR (A7 (A7 (AR (A7 (?_))))))))
   refine AB ?_
   rfl
  have hc7:=bp hb7
  refine A3 (h:=A3 (h:=A3 (h:=A3 (h:=A3 (h:=A3 (h:=Am (h:=BF (h:=m_ (h:=?_)))))))))
  refine Ax false rfl rfl (fun hb11=>?_) (fun hb11=>?_)
  ·have hc11:=bp hb11
   refine A3 (h:=A3 (h:=ED (h:=ED (h:=ED (h:=A3 (h:=Af (h:=e_ (Bf (h:=w_ (a_ (h:=e_ (A6 (A7 (AR (A7 (A7 (AR (A7 (?_)))))))))))))))))))
   refine AB ?_
   first|rfl|(exfalso;first|contradiction|omega|(simp_all;done))
  have hc11:=bp hb11
  refine m_ (h:=m_ (h:=?_))
  refine Ax true rfl rfl (fun hb12=>?_) (fun hb12=>?_)
  ·have hc12:=bp hb12
   exfalso
   rw[hf1,hc7]at hc12
   cases hc12
  have hc12:=bp hb12
  refine A3 (h:=A3 (h:=A3 (h:=Am (h:=Am (h:=e_ (F6 (h:=AG (w_ (m_ (h:=BA (h:=e_ (Bf (h:=w_ (?_))))))))))))))
  refine A4 rfl (AK (On) ?_)
  rintro r rfl
  refine a_ (h:=e_ (A6 (AR (A7 (A7 (AR (A7 (?_))))))))
  refine AB ?_
  rfl
 have hc5:=bp hb5
 refine BO (Aq (Aq (BQ (t_ (w_ (?_))))))
 refine A4 rfl (AK (On) ?_)
 rintro r rfl
 refine a_ (h:=e_ (A6 (?_)))
 refine AB ?_
 rfl
end
theorem WatchTrees_walk{H:Type}{enc:TypeId×Value→H}{sp:Nat→Bool}{held:Bool}{base:Nat}(a:Option Addr)(n c:Nat)(w:World){d:DataW H}{p:List MemPlace}(h:DataW.Trod enc Tryz.prog w base sp held 22 (.slice a n c) d p):
    Calls Tryz.prog 9 #[.slice a n c] w fun e w'=>e= .returned (.bool true)∧Below w.heap.size w w':=aS l0 a n c w h
end Go.Proofs.YtbglbmnhgbgelaaGreatDoor
