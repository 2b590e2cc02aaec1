/-
  Part 13 of the proof of RulesExecutedP: what the statement's proof uses of the texts in wip/tpl.
-/
import Derived.Test.YtbgnigjfkbmceaaGreatDoorQc12
open Go.Proofs.Tryz (prog)
set_option maxRecDepth 10000
set_option maxHeartbeats 4000000
set_option linter.unusedVariables false
set_option linter.unusedSimpArgs false
namespace Go.Proofs.YtbgnigjfkbmceaaGreatDoor
open Go.RowKit
theorem V2{α:Type}{l:List α}{i:Nat}{x:α}(h:l[i]?=some x)(f:α→α):l.modify i f=l.set i (f x):=by
 apply List.ext_getElem?;intro k;rw[List.getElem?_modify,List.getElem?_set];obtain⟨hl,rfl⟩:=At.1 h;by_cases e:i=k
 ·subst e;simp[hl]
 simp[e]
theorem bY(w:Wrk)(R:Dm):(Bh w R).2=R.2.2:=by
 unfold Bh;split
 ·rename_i h;exact h.symm
 rfl
theorem Hu(w:Wrk)(R:Tab×Int):(C6 w R).2=R.2:=by
 unfold C6;split
 ·rename_i h;exact h.symm
 rfl
theorem JM{w:Wrk}{R:Dm}(h:R.2.2=0):(Bh w R).1={w with s:=⟨⟨R.1,w.s.spc.mounts⟩,w.s.tab⟩,r:={w.r with changes:=R.2.1}}:=by
 unfold Bh;rw[if_pos h]
theorem OG{w:Wrk}{R:Dm}(h:¬R.2.2=0):(Bh w R).1=w:=by
 unfold Bh;rw[if_neg h]
theorem V3{f:Aj}{dir:AQ}{name:AT}{n:Nod}(h0:(Dq f dir name n).2.2=0):∃c,(Dq f dir name n).2.1=[c]:=by
 unfold Dq at h0 ⊢;split at h0
 ·rename_i c;exact absurd h0 c
 rename_i c1;rw[if_neg c1];split at h0
 ·exact absurd h0 (by decide)
 rename_i c2;rw[if_neg c2];split at h0
 ·exact absurd h0 (by decide)
 rename_i c3;rw[if_neg c3]
 cases e:EG f dir.1 with
 |none=>rw[e]at h0;simp at h0
 |some d=>
   rw[e]at h0;simp only at h0 ⊢;split at h0
   ·exact absurd h0 (by decide)
   rename_i c4;rw[if_neg c4];exact⟨_,rfl⟩
theorem bZ{w:Wrk}{i:Nat}{n:Nod}(h:(CT w i n).2=0):∃c,(CT w i n).1.r.changes=[c]:=by
 unfold CT at h ⊢;split at h
 ·rename_i h0;obtain⟨c,hc⟩:=V3 h0;rw[if_pos h0,JM h0];exact⟨c,hc⟩
 rename_i h0;exact absurd h h0
theorem V4(w:Wrk)(i:Nat)(n:Nod):(CT w i n).1.s.tab=w.s.tab∧(CT w i n).1.p=w.p∧(CT w i n).1.c=w.c:=by
 unfold CT;split
 ·rename_i h0;rw[JM h0];exact⟨rfl,rfl,rfl⟩
 exact⟨rfl,rfl,rfl⟩
section
theorem Qn(w:Wrk)(cap i:Nat)(a:AQ)(x:Itm)(hs:FlsB w.s.spc.files)(hx:w.r.items[i]?=some x):ACall prog 203 [.bp 0 0, .v (.int .i64 (i:Int)), .agg (AN a)] [WA w cap,IB w cap] (fun r b t=>t=[]∧r= .tup []∧b=[WA (Gs w i a) cap,IB (Gs w i a) cap]):=by
 have hil:=(At.1 hx).1;have hst:∀y:Itm,(w.r.items.set i y)[i]?=some y:=fun y=>by rw[List.getElem?_set_self hil]
 have hfin:w.r.items.modify i (UU (B5 w.s.spc.files a) a)=w.r.items.set i {x with role:=2,file:=a,kind:=(B5 w.s.spc.files a).kind,mode:=(B5 w.s.spc.files a).mode,uid:=(B5 w.s.spc.files a).uid,gid:=(B5 w.s.spc.files a).gid}:=by rw[V2 hx];rfl
 refine enter Tryz.func203 rfl rfl rfl rfl rfl 2 rfl ?_;refine w_ (b_ (h:=e_ (?_)));refine BR (fun s=>s=⟨look [(0, .bp 0 0),(1, .v (.int .i64 (i:Int))),(5, .bp 2 0),(6, .bp 3 0)],⟨[WA w cap,IB w cap,AN a,Am (B5 w.s.spc.files a)],[]⟩⟩) ?_ ?_
 ·skip
  refine Bf ([(0,WA w cap),(1,IB w cap),(2,AN a)]) 14 (h:=AU 0 (h:=BS 1 (h:=AO 2 (h:=AO 3 (h:=AO 4 (h:=AJ 5 (h:=AJ 6 (h:=?_))))))));refine F6 7 11 rfl rfl ?_ ?_
  ·refine AG (E0 w.s.spc.files a hs) ?_;rintro r rfl;refine o_ (h:=?_);refine AU 8 (h:=BX 9 (h:=BX 10 (h:=?_)));refine c_ 11 rfl (CV (by repeat constructor) ?_);refine o_ (h:=?_);refine BH 12 rfl (BC rfl rfl rfl rfl rfl rfl (by repeat constructor) (by repeat constructor) ?_);refine o_ (h:=BO 13 (h:=z_ (h:=?_)));refine AE ?_;exact⟨_,rfl,C8 4 0⟩
  refine CV (by repeat constructor) ?_;refine o_ (h:=?_);refine c_ 7 rfl (AG (E0 w.s.spc.files a hs) ?_);rintro r rfl;refine o_ (h:=AU 8 (h:=BX 9 (h:=BX 10 (h:=?_))));refine BH 12 rfl (BC rfl rfl rfl rfl rfl rfl (by repeat constructor) (by repeat constructor) ?_);refine o_ (h:=BO 13 (h:=z_ (h:=?_)));refine AE ?_;exact⟨_,rfl,C8 4 0⟩
 rintro s rfl;refine w_ (m_ (h:=k_ (h:=f_ (h:=f_ (h:=l_ (h:=m_ (h:=?_)))))));refine A7 rfl (DE (m:=i) rfl rfl rfl hil ?_);refine a_ (h:=e_ (Bf ([(0,WA w cap),(2,AN a),(3,Am (B5 w.s.spc.files a))]) 33 (h:=AU 0 (h:=AU 1 (h:=AU 2 (h:=AU 3 (h:=AU 4 (h:=AU 5 (h:=AJ 6 (h:=AO 7 (h:=AJ 8 (h:=AO 9 (h:=AJ 10 (h:=AO 11 (h:=AJ 12 (h:=AO 13 (h:=AJ 14 (h:=BS 15 (h:=AO 16 (h:=?_))))))))))))))))))));refine BH 17 rfl (BC rfl rfl rfl rfl rfl rfl (JJ BA (x':={x with role:=2}) hx (by repeat constructor) (List.cons_ne_nil _ _)) (by repeat constructor) ?_);refine o_ (h:=BS 18 (h:=AO 19 (h:=?_)));refine BH 20 rfl (BC rfl rfl rfl rfl rfl rfl (JJ BA (x':={x with role:=2,file:=a}) (hst _) (by repeat constructor) (List.cons_ne_nil _ _)) (by repeat constructor) ?_);refine o_ (h:=BS 21 (h:=AO 22 (h:=?_)));refine BH 23 rfl (BC rfl rfl rfl rfl rfl rfl (JJ BA (x':={x with role:=2,file:=a,kind:=(B5 w.s.spc.files a).kind}) (by rw[List.set_set];exact hst _) (by repeat constructor) (List.cons_ne_nil _ _)) (by repeat constructor) ?_);refine o_ (h:=BS 24 (h:=AO 25 (h:=?_)));refine BH 26 rfl (BC rfl rfl rfl rfl rfl rfl (JJ BA (x':={x with role:=2,file:=a,kind:=(B5 w.s.spc.files a).kind,mode:=(B5 w.s.spc.files a).mode}) (by rw[List.set_set,List.set_set];exact hst _) (by repeat constructor) (List.cons_ne_nil _ _)) (by repeat constructor) ?_);refine o_ (h:=BS 27 (h:=AO 28 (h:=?_)));refine BH 29 rfl (BC rfl rfl rfl rfl rfl rfl (JJ BA (x':={x with role:=2,file:=a,kind:=(B5 w.s.spc.files a).kind,mode:=(B5 w.s.spc.files a).mode,uid:=(B5 w.s.spc.files a).uid}) (by rw[List.set_set,List.set_set,List.set_set];exact hst _) (by repeat constructor) (List.cons_ne_nil _ _)) (by repeat constructor) ?_);refine o_ (h:=BS 30 (h:=AO 31 (h:=?_)));refine BH 32 rfl (BC rfl rfl rfl rfl rfl rfl (JJ BA (x':={x with role:=2,file:=a,kind:=(B5 w.s.spc.files a).kind,mode:=(B5 w.s.spc.files a).mode,uid:=(B5 w.s.spc.files a).uid,gid:=(B5 w.s.spc.files a).gid}) (by rw[List.set_set,List.set_set,List.set_set,List.set_set];exact hst _) (by repeat constructor) (List.cons_ne_nil _ _)) (by repeat constructor) ?_);refine o_ (h:=z_ (h:=?_));refine NY (r:= .tup []) none (h4:=(by simp[Af,Ac,Aa,Bm BA,BM,WA,CH])) (h5:=(AA _)) (h6:=⟨rfl,rfl,?_⟩);rw[List.set_set,List.set_set,List.set_set,List.set_set,List.set_set];unfold WA IB Gs;simp only[hfin,List.length_set];rfl
theorem Qo(w:Wrk)(cap i:Nat)(n:Nod)(f:Fnd)(x:Itm)(hv:FlsV w.s.spc.files)(hf:w.found[i]?=some f)(hx:w.r.items[i]?=some x)(hn:f.name.size≤100000)(ht:n.target.size≤100000)(hne:n.entries=[]):ACall prog 198 [.bp 0 0, .v (.int .i64 (i:Int)), .agg (Am n)] [WA w cap,IB w cap] (fun r b t=>t=[]∧r= .v (.int .i64 (CT w i n).2)∧b=[WA (CT w i n).1 cap,IB (CT w i n).1 cap]):=by
 have hrow:(w.found.map Ar)[i]?=some (Ar f):=by rw[List.getElem?_map,hf];rfl
 have hfn:B7 w i=f:=by unfold B7;rw[hf];rfl
 have hmk:EE w i n=Dq w.s.spc.files f.dir f.name (MO w n):=by unfold EE;rw[hfn]
 have hok:=Tu hv f.dir f.name (MO w n);rw[←hmk]at hok;have hcall:AFn prog 177 [.agg (B0 w.s.spc.files), .agg (AN f.dir), .v (.string f.name), .agg (Am (MO w n))] (fun r=>r=CE (EE w i n)):=by rw[hmk];exact Yk _ _ _ _ hv hn ht
 refine enter Tryz.func198 rfl rfl rfl rfl rfl 2 rfl ?_;refine w_ (b_ (h:=a_ (h:=e_ (q_ (Bf ([(0,WA w cap),(1,IB w cap)]) 14 (h:=AU 0 (h:=BS 1 (h:=AO 2 (h:=AO 3 (h:=AJ 4 (h:=AU 5 (h:=BS 6 (h:=AO 7 (h:=AO 8 (h:=AJ 9 (h:=AO 10 (h:=?_)))))))))))))))));refine BH 11 rfl (BC rfl rfl rfl rfl rfl rfl (by repeat constructor) (by repeat constructor) ?_);refine o_ (h:=AO 12 (h:=?_));refine BH 13 rfl (BC rfl rfl rfl rfl rfl rfl (by repeat constructor) (by repeat constructor) ?_);refine o_ (h:=z_ (h:=t_ (q_ (Bf ([(0,WA w cap),(1,IB w cap),(2,Am (MO w n))]) 28 (h:=AU 0 (h:=AU 1 (h:=BS 2 (h:=AO 3 (h:=AO 4 (h:=AO 5 (h:=AJ 6 (h:=AU 7 (h:=BS 8 (h:=AO 9 (h:=AJ 10 (h:=AU 11 (h:=Cg 12 (h:=AO 13 (h:=AJ 14 (h:=AU 15 (h:=BS 16 (h:=AO 17 (h:=AJ 18 (h:=?_))))))))))))))))))))))));refine AU 19 (h:=Cg 20 (h:=AO 21 (h:=AJ 22 (h:=AJ 23 (h:=?_)))));refine c_ 24 rfl (AG (hcall) ?_);rintro r rfl;refine o_ (h:=BX 25 (h:=BX 26 (h:=BX 27 (h:=?_))));refine c_ 28 rfl (Bk [0,1] rfl (.cons _ _ _ _ _ rfl (AA _) (.cons _ _ _ _ _ rfl (AA _) (.cons _ _ _ _ _ rfl (AA _) (.cons _ _ _ _ _ rfl (AA _) .nil)))) (by decide) (.cons _ _ _ _ _ rfl rfl (.cons _ _ _ _ _ rfl (Cy BA _ _ _) .nil)) (LC w cap (EE w i n).1 (EE w i n).2.1 (EE w i n).2.2) ?_);rintro r bc tc ⟨rfl,rfl,rfl⟩;refine⟨rfl,_,DD rfl (Bh w (EE w i n)).1 cap,?_⟩;refine o_ (h:=?_);refine c_ 29 rfl (FY rfl ?_);refine o_ (h:=z_ (h:=t_ (q_ (w_ (m_ (h:=AD (h:=e_ (?_))))))));refine A8 rfl (fun hb1=>?_) (fun hb1=>?_)
 ·have hc1:=bp hb1;have h0:(EE w i n).2.2=0:=hc1;obtain⟨c,hc⟩:∃c,(EE w i n).2.1=[c]:=by rw[hmk]at h0 ⊢;exact V3 h0
  have hch:(Bh w (EE w i n)).1.r.changes=[c]:=by rw[JM h0];exact hc
  have hx1:(Bh w (EE w i n)).1.r.items[i]?=some x:=by rw[JM h0];exact hx
  have hfb:FlsB (Bh w (EE w i n)).1.s.spc.files:=by rw[JM h0];exact(hok h0).1.b
  have hrow2:((Bh w (EE w i n)).1.r.changes.map DY)[0]?=some (DY c):=by rw[hch];rfl
  refine AR (m_ (h:=m_ (h:=m_ (h:=k_ (h:=f_ (h:=f_ (h:=l_ (h:=?_))))))));refine A7 rfl (Cl (n:=0) rfl rfl rfl hrow2 ?_);refine f_ (h:=l_ (h:=?_));refine A7 rfl (Bk [0,1] rfl (.cons _ _ _ _ _ rfl (AA _) (.cons _ _ _ _ _ rfl (AA _) (.cons _ _ _ _ _ rfl (AA _) .nil))) (by decide) (.cons _ _ _ _ _ rfl rfl (.cons _ _ _ _ _ rfl (Cy BA _ _ _) .nil)) (Qn (Bh w (EE w i n)).1 cap i c.2.2.2 x hfb hx1) ?_);rintro r bc tc ⟨rfl,rfl,rfl⟩;refine⟨rfl,_,DD rfl (Gs (Bh w (EE w i n)).1 i c.2.2.2) cap,?_⟩;refine e_ (w_ (m_ (h:=a_ (h:=e_ (A4 (?_))))));refine BZ (r:= .v (.int .i64 (CT w i n).2)) none (h5:=(by rw[CT,if_pos h0];exact LeA.of_eq (vi h0))) (h6:=⟨rfl,rfl,?_⟩);rw[CT,if_pos h0,hc];rfl
 have hc1:=bp hb1;have h0:¬(EE w i n).2.2=0:=hc1;refine AB (w_ (m_ (h:=a_ (h:=e_ (A4 (?_))))));refine BZ (r:= .v (.int .i64 (CT w i n).2)) none (h5:=(by rw[CT,if_neg h0];exact AA _)) (h6:=⟨rfl,rfl,?_⟩);rw[CT,if_neg h0,OG h0];rfl
theorem c8(w:Wrk)(cap:Nat)(f:Fnd)(x:Itm)(hv:SpcV w.s.spc)(hm:w.s.spc.mounts.length≤1000)(htb:TabB w.s.tab)(hf:w.found[0]?=some f)(hx:w.r.items[0]?=some x)(hn:f.name.size≤100000):ACall prog 145 [.bp 0 0] [WA w cap,IB w cap] (fun r b t=>t=[]∧r= .v (.int .i64 (CF w).2)∧b=[WA (CF w).1 cap,IB (CF w).1 cap]):=by
 have hsb:=hv.b hm;have hrow:(w.found.map Ar)[0]?=some (Ar f):=by rw[List.getElem?_map,hf];rfl
 have hfn:B7 w 0=f:=by unfold B7;rw[hf];rfl
 refine enter Tryz.func145 rfl rfl rfl rfl rfl 2 rfl ?_;refine w_ (a_ (h:=e_ (q_ (Bf ([(0,WA w cap),(1,IB w cap)]) 15 (h:=AU 0 (h:=BS 1 (h:=AO 2 (h:=AJ 3 (h:=Cg 4 (h:=AJ 5 (h:=AU 6 (h:=BS 7 (h:=AO 8 (h:=AO 9 (h:=?_)))))))))))))));refine BF 10 rfl (fun _ hS=>BW (len:=4) (sz:=1) (n:=0) (by kernel_rfl) rfl rfl rfl rfl ⟨rfl,rfl⟩) ?_;refine AJ 11 (h:=?_);refine c_ 12 rfl (CV (by repeat constructor) ?_);refine o_ (h:=?_);refine BH 13 rfl (BC rfl rfl rfl rfl rfl rfl (by repeat constructor) (by repeat constructor) ?_);refine o_ (h:=BO 14 (h:=z_ (h:=t_ (?_))));refine BR (fun s=>∃(w2:Wrk) (F2:Fnd),CF w=HG w2 F2.file∧TabB w2.s.tab∧s=⟨look [(0, .bp 0 0),(3, .bp 2 0),(4, .v (.int .i64 w2.c.a0))],⟨[WA w2 cap,IB w2 cap,Ar F2],[]⟩⟩) ?_ ?_
 ·skip
  refine w_ (f_ (h:=l_ (h:=e_ (?_))));refine A8 rfl (fun hb1=>?_) (fun hb1=>?_)
  ·have hc1:=bp hb1;have hex:(B7 w 0).ex=true:=by rw[hfn];exact hc1
   refine BR (fun s=>s=⟨look [(0, .bp 0 0),(3, .bp 2 0),(4, .v (.int .i64 w.c.a0)),(5, .bp 3 0)],⟨[WA w cap,IB w cap,Ar f,Am (B5 w.s.spc.files f.file)],[]⟩⟩) ?_ ?_
   ·skip
    refine Bf ([(0,WA w cap),(1,IB w cap),(2,Ar f)]) 15 (h:=AU 0 (h:=BS 1 (h:=AO 2 (h:=AO 3 (h:=AO 4 (h:=AJ 5 (h:=AO 6 (h:=AJ 7 (h:=?_)))))))));refine F6 8 12 rfl rfl ?_ ?_
    ·refine AG (E0 w.s.spc.files f.file hsb.files) ?_;rintro r rfl;refine o_ (h:=?_);refine AU 9 (h:=BX 10 (h:=BX 11 (h:=?_)));refine c_ 12 rfl (CV (by repeat constructor) ?_);refine o_ (h:=?_);refine BH 13 rfl (BC rfl rfl rfl rfl rfl rfl (by repeat constructor) (by repeat constructor) ?_);refine o_ (h:=BO 14 (h:=z_ (h:=?_)));refine AE ?_;exact⟨_,rfl,C8 4 0⟩
    refine CV (by repeat constructor) ?_;refine o_ (h:=?_);refine c_ 8 rfl (AG (E0 w.s.spc.files f.file hsb.files) ?_);rintro r rfl;refine o_ (h:=AU 9 (h:=BX 10 (h:=BX 11 (h:=?_))));refine BH 13 rfl (BC rfl rfl rfl rfl rfl rfl (by repeat constructor) (by repeat constructor) ?_);refine o_ (h:=BO 14 (h:=z_ (h:=?_)));refine AE ?_;exact⟨_,rfl,C8 4 0⟩
   rintro s rfl;refine w_ (a_ (h:=e_ (?_)));refine BR (fun s=>s=⟨look [(0, .bp 0 0),(3, .bp 2 0),(4, .v (.int .i64 w.c.a0)),(5, .bp 3 0),(7, .v (.int .i64 (if C4 w.c.a0 1=true then 4 else 0)))],⟨[WA w cap,IB w cap,Ar f,Am (B5 w.s.spc.files f.file)],[]⟩⟩) ?_ ?_
   ·skip
    refine w_ (m_ (h:=DR (h:=Ap (h:=e_ (?_)))));refine A8 rfl (fun hb2=>?_) (fun hb2=>?_)
    ·have hc2:=bp hb2;have k0:C4 w.c.a0 1=true:=by simpa[C4]using hc2
     refine AR (m_ (h:=BD (h:=a_ (h:=AP (?_)))));refine AE ?_;refine⟨_,rfl,?_⟩
     first|(rw[if_pos k0];exact C8 4 0)|(rw[if_neg k0];exact C8 4 0)
    have hc2:=bp hb2;have k0:¬C4 w.c.a0 1=true:=by simpa[C4]using hc2
    refine Au (?_);refine AE ?_;refine⟨_,rfl,?_⟩
    first|(rw[if_pos k0];exact C8 4 0)|(rw[if_neg k0];exact C8 4 0)
   rintro s rfl;refine BR (fun s=>s=⟨look [(0, .bp 0 0),(3, .bp 2 0),(4, .v (.int .i64 w.c.a0)),(5, .bp 3 0),(7, .v (.int .i64 (JH w.c.a0)))],⟨[WA w cap,IB w cap,Ar f,Am (B5 w.s.spc.files f.file)],[]⟩⟩) ?_ ?_
   ·skip
    refine w_ (m_ (h:=DR (h:=Ap (h:=e_ (?_)))));refine A8 rfl (fun hb3=>?_) (fun hb3=>?_)
    ·have hc3:=bp hb3;have k00:C4 w.c.a0 18=true:=by simpa[C4]using hc3
     refine AR (m_ (h:=BD (h:=a_ (h:=AP (?_)))));refine AE ?_;refine⟨_,rfl,?_⟩;unfold JH
     first|(rw[if_pos k00];exact C8 4 0)|(rw[if_neg k00,Int.add_zero];exact C8 4 0)
    have hc3:=bp hb3;have k00:¬C4 w.c.a0 18=true:=by simpa[C4]using hc3
    refine Au (?_);refine AE ?_;refine⟨_,rfl,?_⟩;unfold JH
    first|(rw[if_pos k00];exact C8 4 0)|(rw[if_neg k00,Int.add_zero];exact C8 4 0)
   rintro s rfl;refine Ag (?_);refine BR (fun s=>s=⟨look [(0, .bp 0 0),(3, .bp 2 0),(4, .v (.int .i64 w.c.a0)),(5, .bp 3 0),(7, .v (.int .i64 (JH w.c.a0))),(48, .v (.bool (C4 w.c.a0 4&&C4 w.c.a0 8)))],⟨[WA w cap,IB w cap,Ar f,Am (B5 w.s.spc.files f.file)],[]⟩⟩) ?_ ?_
   ·skip
    refine AR (m_ (h:=DR (h:=Ap (h:=m_ (h:=?_)))));refine AW true rfl rfl (fun hb4=>?_) (fun hb4=>?_)
    ·have hc4:=bp hb4;refine m_ (h:=DR (h:=Ap (h:=AF (h:=a_ (h:=AP (?_))))));refine AE ?_;exact⟨_,rfl,Av 4 0 rfl rfl rfl (by simp[Af,Ac,Aa,Bm BA,BM,WA,IB,CH,Ar,Am]) (by repeat (first|exact Sub.nil|refine Ax rfl rfl ?_|refine B1 ?_|refine B2 rfl ?_|refine B3 rfl ?_|(apply Sub.of;(focus exact rfl);(focus exact LeA.of_eq (vb (by simp[C4, *])));(focus exact rfl))))⟩
    have hc4:=bp hb4;refine A3 (h:=A3 (h:=A3 (h:=AM (h:=a_ (h:=AP (?_))))));refine AE ?_;exact⟨_,rfl,Av 4 0 rfl rfl rfl (by simp[Af,Ac,Aa,Bm BA,BM,WA,IB,CH,Ar,Am]) (by repeat (first|exact Sub.nil|refine Ax rfl rfl ?_|refine B1 ?_|refine B2 rfl ?_|refine B3 rfl ?_|(apply Sub.of;(focus exact rfl);(focus exact LeA.of_eq (vb (by simp[C4, *])));(focus exact rfl))))⟩
   rintro s rfl;refine A8 rfl (fun hb5=>?_) (fun hb5=>?_)
   ·have hc5:=bp hb5;have k1:C4 w.c.a0 4=true∧C4 w.c.a0 8=true:=by simpa using hc5
    refine w_ (a_ (h:=e_ (A4 (AK (A6 (?_))))));refine BZ (r:= .v (.int .i64 (CF w).2)) none (h5:=(by rw[CF,if_pos hex,if_pos k1];exact AA _)) (h6:=⟨rfl,rfl,?_⟩);rw[CF,if_pos hex,if_pos k1];rfl
   have hc5:=bp hb5;have k1:¬(C4 w.c.a0 4=true∧C4 w.c.a0 8=true):=by simpa using hc5
   refine w_ (f_ (h:=l_ (h:=AD (h:=a_ (h:=e_ (?_))))));refine A8 rfl (fun hb6=>?_) (fun hb6=>?_)
   ·have hc6:=bp hb6;have k2:(B5 w.s.spc.files (B7 w 0).file).kind=3:=by rw[hfn];exact hc6
    refine w_ (a_ (h:=e_ (A4 (AK (A6 (?_))))));refine BZ (r:= .v (.int .i64 (CF w).2)) none (h5:=(by rw[CF,if_pos hex,if_neg k1,if_pos k2];exact AA _)) (h6:=⟨rfl,rfl,?_⟩);rw[CF,if_pos hex,if_neg k1,if_pos k2];rfl
   have hc6:=bp hb6;have k2:¬(B5 w.s.spc.files (B7 w 0).file).kind=3:=by rw[hfn];exact hc6
   refine BR (fun s=>s=⟨look [(0, .bp 0 0),(3, .bp 2 0),(4, .v (.int .i64 w.c.a0)),(5, .bp 3 0),(7, .v (.int .i64 (JH w.c.a0))),(61, .v (.bool (decide ((B5 w.s.spc.files f.file).kind=2)&&C4 w.c.a0 22)))],⟨[WA w cap,IB w cap,Ar f,Am (B5 w.s.spc.files f.file)],[]⟩⟩) ?_ ?_
   ·skip
    refine AR (f_ (h:=l_ (h:=AD (h:=m_ (h:=?_)))));refine AW true rfl rfl (fun hb7=>?_) (fun hb7=>?_)
    ·have hc7:=bp hb7;refine m_ (h:=DR (h:=Ap (h:=AF (h:=a_ (h:=AP (?_))))));refine AE ?_;exact⟨_,rfl,Av 4 0 rfl rfl rfl (by simp[Af,Ac,Aa,Bm BA,BM,WA,IB,CH,Ar,Am]) (by repeat (first|exact Sub.nil|refine Ax rfl rfl ?_|refine B1 ?_|refine B2 rfl ?_|refine B3 rfl ?_|(apply Sub.of;(focus exact rfl);(focus exact LeA.of_eq (vb (by simp[C4, *])));(focus exact rfl))))⟩
    have hc7:=bp hb7;refine A3 (h:=A3 (h:=A3 (h:=AM (h:=a_ (h:=AP (?_))))));refine AE ?_;exact⟨_,rfl,Av 4 0 rfl rfl rfl (by simp[Af,Ac,Aa,Bm BA,BM,WA,IB,CH,Ar,Am]) (by repeat (first|exact Sub.nil|refine Ax rfl rfl ?_|refine B1 ?_|refine B2 rfl ?_|refine B3 rfl ?_|(apply Sub.of;(focus exact rfl);(focus exact LeA.of_eq (vb (by simp[C4, *])));(focus exact rfl))))⟩
   rintro s rfl;refine A8 rfl (fun hb8=>?_) (fun hb8=>?_)
   ·have hc8:=bp hb8;have k3:(B5 w.s.spc.files (B7 w 0).file).kind=2∧C4 w.c.a0 22=true:=by rw[hfn];simpa using hc8
    refine w_ (a_ (h:=e_ (A4 (AK (A6 (?_))))));refine BZ (r:= .v (.int .i64 (CF w).2)) none (h5:=(by rw[CF,if_pos hex,if_neg k1,if_neg k2,if_pos k3];exact AA _)) (h6:=⟨rfl,rfl,?_⟩);rw[CF,if_pos hex,if_neg k1,if_neg k2,if_pos k3];rfl
   have hc8:=bp hb8;have k3:¬((B5 w.s.spc.files (B7 w 0).file).kind=2∧C4 w.c.a0 22=true):=by rw[hfn];simpa using hc8
   refine w_ (m_ (h:=f_ (h:=l_ (h:=m_ (h:=?_)))));refine A7 rfl (D3 1 rfl (.cons _ _ _ _ _ rfl (LeA.of_eq rfl) (.cons _ _ _ _ _ rfl (AA _) (.cons _ _ _ _ _ rfl (AA _) .nil))) (HL w .any f.file (JH w.c.a0) hsb) ?_);rintro r rfl;refine⟨rfl,?_⟩;refine B9 (h:=a_ (h:=e_ (?_)));refine A8 rfl (fun hb9=>?_) (fun hb9=>?_)
   ·have hc9:=bp hb9;have k4:C5 w (B7 w 0).file (JH w.c.a0)=false:=by rw[hfn];simpa using hc9
    refine w_ (a_ (h:=e_ (A4 (AK (A6 (?_))))));refine BZ (r:= .v (.int .i64 (CF w).2)) none (h5:=(by rw[CF,if_pos hex,if_neg k1,if_neg k2,if_neg k3,if_pos k4];exact AA _)) (h6:=⟨rfl,rfl,?_⟩);rw[CF,if_pos hex,if_neg k1,if_neg k2,if_neg k3,if_pos k4];rfl
   have hc9:=bp hb9;have k4:¬C5 w (B7 w 0).file (JH w.c.a0)=false:=by rw[hfn];simpa using hc9
   refine Au (Ah (?_));refine AE ?_
   first|exact⟨_,⟨w,f,(by rw[CF,if_pos hex,if_neg k1,if_neg k2,if_neg k3,if_neg k4,hfn]),htb,rfl⟩,C8 3 0⟩|(obtain⟨q1,q2,q3⟩:=V4 w 0 (Fy w.c.a1);exact⟨_,⟨(CT w 0 (Fy w.c.a1)).1,{f with file:=c.2.2.2},(by rw[CF,if_neg hex,if_neg k1,if_neg k2,if_neg k3,if_neg (by simp[k4]),hc];rfl),by rw[q1];exact htb,rfl⟩,by rw[q3];exact C8 3 0⟩)
  have hc1:=bp hb1;have hex:¬(B7 w 0).ex=true:=by rw[hfn];simpa using hc1
  refine q_ (Ag (w_ (m_ (h:=DR (h:=AD (h:=a_ (h:=e_ (?_))))))));refine A8 rfl (fun hb10=>?_) (fun hb10=>?_)
  ·have hc10:=bp hb10;have k1:C4 w.c.a0 4=false:=by simp only[C4];simpa using hc10
   refine w_ (a_ (h:=e_ (A4 (AK (A6 (A6 (?_)))))));refine BZ (r:= .v (.int .i64 (CF w).2)) none (h5:=(by rw[CF,if_neg hex,if_pos k1];exact AA _)) (h6:=⟨rfl,rfl,?_⟩);rw[CF,if_neg hex,if_pos k1];rfl
  have hc10:=bp hb10;have k1:¬C4 w.c.a0 4=false:=by simp only[C4];simpa using hc10
  refine w_ (f_ (h:=l_ (h:=a_ (h:=e_ (?_)))));refine A8 rfl (fun hb11=>?_) (fun hb11=>?_)
  ·have hc11:=bp hb11;have k2:(B7 w 0).slash=true:=by rw[hfn];exact hc11
   refine w_ (a_ (h:=e_ (A4 (AK (A6 (A6 (?_)))))));refine BZ (r:= .v (.int .i64 (CF w).2)) none (h5:=(by rw[CF,if_neg hex,if_neg k1,if_pos k2];exact AA _)) (h6:=⟨rfl,rfl,?_⟩);rw[CF,if_neg hex,if_neg k1,if_pos k2];rfl
  have hc11:=bp hb11;have k2:¬(B7 w 0).slash=true:=by rw[hfn];simpa using hc11
  refine w_ (m_ (h:=f_ (h:=l_ (h:=?_))));refine A7 rfl (D3 1 rfl (.cons _ _ _ _ _ rfl (LeA.of_eq rfl) (.cons _ _ _ _ _ rfl (AA _) (.cons _ _ _ _ _ rfl (AA _) .nil))) (HL w .any f.dir 2 hsb) ?_);rintro r rfl;refine⟨rfl,?_⟩;refine B9 (h:=a_ (h:=e_ (?_)));refine A8 rfl (fun hb12=>?_) (fun hb12=>?_)
  ·have hc12:=bp hb12;have k3:C5 w (B7 w 0).dir 2=false:=by rw[hfn];simpa using hc12
   refine w_ (a_ (h:=e_ (A4 (AK (A6 (A6 (?_)))))));refine BZ (r:= .v (.int .i64 (CF w).2)) none (h5:=(by rw[CF,if_neg hex,if_neg k1,if_neg k2,if_pos k3];exact AA _)) (h6:=⟨rfl,rfl,?_⟩);rw[CF,if_neg hex,if_neg k1,if_neg k2,if_pos k3];rfl
  have hc12:=bp hb12;have k3:¬C5 w (B7 w 0).dir 2=false:=by rw[hfn];simpa using hc12
  refine Au (Ah (t_ (q_ (w_ (m_ (h:=m_ (h:=k_ (h:=f_ (h:=f_ (h:=?_))))))))));refine A7 rfl (BW (len:=4) (sz:=1) (n:=1) (by kernel_rfl) rfl rfl rfl rfl ?_);refine l_ (h:=?_);refine A7 rfl (FJ (y:= .agg (Am (Fy w.c.a1))) (D8 ⟨rfl,rfl⟩) ?_);refine A7 rfl (Bk [0,1] rfl (.cons _ _ _ _ _ rfl (AA _) (.cons _ _ _ _ _ rfl (AA _) (.cons _ _ _ _ _ rfl (AA _) .nil))) (by decide) (.cons _ _ _ _ _ rfl rfl (.cons _ _ _ _ _ rfl (Cy BA _ _ _) .nil)) (Qo w cap 0 (Fy w.c.a1) f x hv.files hf hx hn (BV _) rfl) ?_);rintro r bc tc ⟨rfl,rfl,rfl⟩;refine⟨rfl,_,DD rfl (CT w 0 (Fy w.c.a1)).1 cap,?_⟩;refine a_ (h:=e_ (w_ (m_ (h:=Ap (h:=e_ (?_))))));refine A8 rfl (fun hb13=>?_) (fun hb13=>?_)
  ·have hc13:=bp hb13;have k4:(CT w 0 (Fy w.c.a1)).2≠0:=by simpa using hc13
   refine w_ (m_ (h:=a_ (h:=e_ (A4 (A6 (A6 (?_)))))));refine BZ (r:= .v (.int .i64 (CF w).2)) none (h5:=(by rw[CF,if_neg hex,if_neg k1,if_neg k2,if_neg k3,if_pos k4];exact AA _)) (h6:=⟨rfl,rfl,?_⟩);rw[CF,if_neg hex,if_neg k1,if_neg k2,if_neg k3,if_pos k4];rfl
  have hc13:=bp hb13;have k4:(CT w 0 (Fy w.c.a1)).2=0:=by simpa using hc13
  obtain⟨c,hc⟩:=bZ k4;have hrow2:((CT w 0 (Fy w.c.a1)).1.r.changes.map DY)[0]?=some (DY c):=by rw[hc];rfl
  refine AB (AR (m_ (h:=k_ (h:=f_ (h:=f_ (h:=l_ (h:=?_)))))));refine A7 rfl (Cl (n:=0) rfl rfl rfl hrow2 ?_);refine f_ (h:=l_ (h:=f_ (h:=s_ (h:=AP (?_)))));refine AE ?_
  first|exact⟨_,⟨w,f,(by rw[CF,if_pos hex,if_neg k1,if_neg k2,if_neg k3,if_neg k4,hfn]),htb,rfl⟩,C8 3 0⟩|(obtain⟨q1,q2,q3⟩:=V4 w 0 (Fy w.c.a1);exact⟨_,⟨(CT w 0 (Fy w.c.a1)).1,{f with file:=c.2.2.2},(by rw[CF,if_neg hex,if_neg k1,if_neg k2,if_neg k3,if_neg (by simp[k4]),hc];rfl),by rw[q1];exact htb,rfl⟩,by rw[q3];exact C8 3 0⟩)
 rintro s ⟨w2,F2,hop,htb2,rfl⟩;refine BR (fun s=>s=⟨look [(0, .bp 0 0),(9, .bp 3 0),(10, .v (.int .i64 (Eb w2.s.tab w2.p.pid F2.file w2.c.a0).2.1)),(11, .v (.int .i64 (Eb w2.s.tab w2.p.pid F2.file w2.c.a0).2.2))],⟨[WA w2 cap,IB w2 cap,Ar F2,As (Eb w2.s.tab w2.p.pid F2.file w2.c.a0).1],[]⟩⟩) ?_ ?_
 ·skip
  refine Bf ([(0,WA w2 cap),(1,IB w2 cap),(2,Ar F2)]) 22 (h:=AU 0 (h:=BS 1 (h:=AO 2 (h:=AO 3 (h:=AJ 4 (h:=AU 5 (h:=BS 6 (h:=AO 7 (h:=AO 8 (h:=AJ 9 (h:=AO 10 (h:=AJ 11 (h:=AU 12 (h:=?_))))))))))))));refine F6 13 18 rfl rfl ?_ ?_
  ·refine AG (V0 w2.s.tab w2.p.pid F2.file w2.c.a0 htb2) ?_;rintro r rfl;refine o_ (h:=?_);refine AU 14 (h:=BX 15 (h:=BX 16 (h:=BX 17 (h:=?_))));refine c_ 18 rfl (CV (by repeat constructor) ?_);refine o_ (h:=?_);refine BH 19 rfl (BC rfl rfl rfl rfl rfl rfl (by repeat constructor) (by repeat constructor) ?_);refine o_ (h:=BO 20 (h:=BO 21 (h:=z_ (h:=?_))));refine AE ?_;exact⟨_,rfl,C8 4 0⟩
  refine CV (by repeat constructor) ?_;refine o_ (h:=?_);refine c_ 13 rfl (AG (V0 w2.s.tab w2.p.pid F2.file w2.c.a0 htb2) ?_);rintro r rfl;refine o_ (h:=AU 14 (h:=BX 15 (h:=BX 16 (h:=BX 17 (h:=?_)))));refine BH 19 rfl (BC rfl rfl rfl rfl rfl rfl (by repeat constructor) (by repeat constructor) ?_);refine o_ (h:=BO 20 (h:=BO 21 (h:=z_ (h:=?_))));refine AE ?_;exact⟨_,rfl,C8 4 0⟩
 rintro s rfl;refine w_ (m_ (h:=m_ (h:=k_ (h:=f_ (h:=f_ (h:=s_ (h:=e_ (w_ (m_ (h:=l_ (h:=m_ (h:=?_))))))))))));refine A7 rfl (Bk [0,1] rfl (.cons _ _ _ _ _ rfl (AA _) (.cons _ _ _ _ _ rfl (AA _) (.cons _ _ _ _ _ rfl (AA _) .nil))) (by decide) (.cons _ _ _ _ _ rfl rfl (.cons _ _ _ _ _ rfl (Cy BA _ _ _) .nil)) (Qm (OC w2 (Eb w2.s.tab w2.p.pid F2.file w2.c.a0).2.1) cap (Eb w2.s.tab w2.p.pid F2.file w2.c.a0).1 (Eb w2.s.tab w2.p.pid F2.file w2.c.a0).2.2) ?_);rintro r bc tc ⟨rfl,rfl,rfl⟩;refine⟨rfl,_,DD rfl (HG w2 F2.file).1 cap,?_⟩;refine a_ (h:=e_ (A4 (?_)));refine BZ (r:= .v (.int .i64 (CF w).2)) none (h5:=(by rw[hop,HG,Hu];exact AA _)) (h6:=⟨rfl,rfl,?_⟩);rw[hop];rfl
end
theorem V5{e:Int}{y x:AQ}{c d:Bool}:(decide (e=0)&& !decide ((y.1,y.2)=(x.1,x.2))&&c&&d)=true↔(e=0∧y≠x∧c=true∧d=true):=by
 have:decide ((y.1,y.2)=(x.1,x.2))=decide (y=x):=rfl;rw[this];simp[and_assoc]
theorem V6{w:Wrk}{R:Dm}{x:AQ}(h:(decide (R.2.2=0)&&decide (0<(R.2.1.length:Int)))=true):Hq w R x=(Gs (Fx (Bh w R).1 0 3) 1 x,R.2.2):=by
 rw[Bool.and_eq_true]at h;have h1:=of_decide_eq_true h.1;unfold Hq;rw[if_neg (by simp[h1]),if_pos (of_decide_eq_true h.2),h1]
theorem V7{w:Wrk}{R:Dm}{x:AQ}(h:(decide (R.2.2=0)&&decide (0<(R.2.1.length:Int)))=false):Hq w R x=((Bh w R).1,R.2.2):=by
 unfold Hq;by_cases h0:R.2.2=0
 ·rw[if_neg (by simp[h0]),if_neg (by simpa[h0]using h),h0]
 rw[if_pos h0,OG h0]
theorem V8(w:Wrk)(i:Nat)(r:Int)(cap:Nat):WA (Fx w i r) cap=WA w cap:=by
 unfold WA Fx;simp only[List.length_modify];rfl
theorem V9{w:Wrk}{i:Nat}{x:Itm}(hx:w.r.items[i]?=some x)(r:Int)(cap:Nat):IB (Fx w i r) cap=LB 13 Cf (w.r.items.set i {x with role:=r}) cap:=by
 unfold IB Fx;rw[V2 hx]
section
theorem c9(w:Wrk)(cap:Nat)(f g:Fnd)(x0 x1:Itm)(hv:SpcV w.s.spc)(hm:w.s.spc.mounts.length≤1000)(hps:w.s.tab.ps.length≤1000)(hf:w.found[0]?=some f)(hg:w.found[1]?=some g)(hx0:w.r.items[0]?=some x0)(hx1:w.r.items[1]?=some x1)(hn:f.name.size≤100000)(hn2:g.name.size≤100000):ACall prog 148 [.bp 0 0] [WA w cap,IB w cap] (fun r b t=>t=[]∧r= .v (.int .i64 (EP w).2)∧b=[WA (EP w).1 cap,IB (EP w).1 cap]):=by
 have hsb:=hv.b hm;have hrow0:(w.found.map Ar)[0]?=some (Ar f):=by rw[List.getElem?_map,hf];rfl
 have hrow1:(w.found.map Ar)[1]?=some (Ar g):=by rw[List.getElem?_map,hg];rfl
 have hfn:B7 w 0=f:=by unfold B7;rw[hf];rfl
 have hgn:B7 w 1=g:=by unfold B7;rw[hg];rfl
 have hil:0<w.r.items.length:=(At.1 hx0).1;obtain⟨R,hR⟩:∃R,R=EM w.s.spc.files f.dir f.name g.dir g.name:=⟨_,rfl⟩;have hok:=Tw hv.files f.dir f.name g.dir g.name;rw[←hR]at hok;have hcall:AFn prog 175 [.agg (B0 w.s.spc.files), .agg (AN f.dir), .v (.string f.name), .agg (AN g.dir), .v (.string g.name)] (fun r=>r=CE R):=by rw[hR];exact Yw _ _ _ _ _ hv.files hn hn2
 obtain⟨x,hxd⟩:∃x,x=(AZ w.s.spc.files f.dir f.name).1:=⟨_,rfl⟩;obtain⟨y,hyd⟩:∃y,y=(AZ w.s.spc.files g.dir g.name).1:=⟨_,rfl⟩;have hl1:AFn prog 134 [.agg (B0 w.s.spc.files), .agg (AN f.dir), .v (.string f.name)] (fun r=>r= .tup [.agg (AN x), .v (.int .i64 (AZ w.s.spc.files f.dir f.name).2)]):=by rw[hxd];exact He _ _ _ hsb.files
 have hl2:AFn prog 134 [.agg (B0 w.s.spc.files), .agg (AN g.dir), .v (.string g.name)] (fun r=>r= .tup [.agg (AN y), .v (.int .i64 (AZ w.s.spc.files g.dir g.name).2)]):=by rw[hyd];exact He _ _ _ hsb.files
 obtain⟨e2,he2⟩:∃e,e=(AZ w.s.spc.files g.dir g.name).2:=⟨_,rfl⟩;rw[←he2]at hl2
 have hren:EP w=if f.ex=false then(w,2)else if f.name=⟨#[]⟩∨g.name=⟨#[]⟩then(w,16)else if g.slash=true∧Ay w.s.spc.files f.file=false then(w,20)else if f.dir.1≠g.dir.1 then(w,18)else if C5 w f.dir 2=false∨C5 w g.dir 2=false then(w,13)else if e2=0∧y≠x∧Ay w.s.spc.files y=true∧Fw w y=true then(w,16)else Hq w R x:=by
  unfold EP Gr;rw[hfn,hgn,←hxd,←hyd,←he2,←hR]
 clear hxd hyd he2 hR;refine enter Tryz.func148 rfl rfl rfl rfl rfl 2 rfl ?_;refine w_ (a_ (h:=e_ (?_)));refine BR (fun s=>s=⟨look [(0, .bp 0 0),(3, .bp 2 0),(4, .bp 3 0)],⟨[WA w cap,IB w cap,Ar f,Ar g],[]⟩⟩) ?_ ?_
 ·skip
  refine Bf ([(0,WA w cap)]) 16 (h:=AU 0 (h:=BS 1 (h:=AO 2 (h:=AJ 3 (h:=?_)))));refine BF 4 rfl (fun _ hS=>Cl (n:=0) rfl rfl rfl hrow0 ⟨rfl,rfl⟩) ?_;refine AJ 5 (h:=AU 6 (h:=BS 7 (h:=AO 8 (h:=AJ 9 (h:=?_)))));refine BF 10 rfl (fun _ hS=>Cl (n:=1) rfl rfl rfl hrow1 ⟨rfl,rfl⟩) ?_;refine AJ 11 (h:=?_);refine F6 12 13 rfl rfl ?_ ?_
  ·refine CV (by repeat constructor) ?_;refine o_ (h:=?_);refine c_ 13 rfl (CV (by repeat constructor) ?_);refine o_ (h:=?_);refine BH 14 rfl (BC rfl rfl rfl rfl rfl rfl (by repeat constructor) (by repeat constructor) ?_);refine o_ (h:=?_);refine BH 15 rfl (BC rfl rfl rfl rfl rfl rfl (by repeat constructor) (by repeat constructor) ?_);refine o_ (h:=z_ (h:=?_));refine AE ?_
   first|exact⟨_,rfl,C8 4 0⟩|exact⟨_,rfl,DQ [0,1,3,2] KH (by decide) (.cons _ _ _ _ _ rfl rfl (.cons _ _ _ _ _ rfl (Fh BA _ _ _) (.cons _ _ _ _ _ rfl rfl (.cons _ _ _ _ _ rfl rfl .nil)))) (by repeat (first|exact SubK.nil|refine SubK.cons _ _ _ _ rfl (AA _) ?_))⟩
  refine CV (by repeat constructor) ?_;refine o_ (h:=?_);refine c_ 12 rfl (CV (by repeat constructor) ?_);refine o_ (h:=?_);refine BH 14 rfl (BC rfl rfl rfl rfl rfl rfl (by repeat constructor) (by repeat constructor) ?_);refine o_ (h:=?_);refine BH 15 rfl (BC rfl rfl rfl rfl rfl rfl (by repeat constructor) (by repeat constructor) ?_);refine o_ (h:=z_ (h:=?_));refine AE ?_
  first|exact⟨_,rfl,C8 4 0⟩|exact⟨_,rfl,DQ [0,1,3,2] KH (by decide) (.cons _ _ _ _ _ rfl rfl (.cons _ _ _ _ _ rfl (Fh BA _ _ _) (.cons _ _ _ _ _ rfl rfl (.cons _ _ _ _ _ rfl rfl .nil)))) (by repeat (first|exact SubK.nil|refine SubK.cons _ _ _ _ rfl (AA _) ?_))⟩
 rintro s rfl;refine q_ (Ag (w_ (f_ (h:=l_ (h:=B9 (h:=a_ (h:=e_ (?_))))))));refine A8 rfl (fun hb1=>?_) (fun hb1=>?_)
 ·have hc1:=bp hb1;have k1:f.ex=false:=by simpa using hc1
  refine w_ (a_ (h:=e_ (A4 (AK (A6 (?_))))));refine BZ (r:= .v (.int .i64 (EP w).2)) none (h5:=(by rw[hren,if_pos k1];exact AA _)) (h6:=⟨rfl,rfl,?_⟩);rw[hren,if_pos k1];rfl
 have hc1:=bp hb1;have k1:¬f.ex=false:=by simpa using hc1
 refine BR (fun s=>s=⟨look [(0, .bp 0 0),(3, .bp 2 0),(4, .bp 3 0),(26, .v (.bool (decide (f.name=⟨#[]⟩)||decide (g.name=⟨#[]⟩))))],⟨[WA w cap,IB w cap,Ar f,Ar g],[]⟩⟩) ?_ ?_
 ·skip
  refine AR (f_ (h:=l_ (h:=AD (h:=m_ (h:=?_)))));refine AW false rfl rfl (fun hb2=>?_) (fun hb2=>?_)
  ·have hc2:=bp hb2;refine A3 (h:=A3 (h:=A3 (h:=AF (h:=a_ (h:=AP (?_))))));refine AE ?_;exact⟨_,rfl,CG 4 0 (by simp[Af,Ac,Aa,Bm BA,BM,WA,IB,CH,Ar])⟩
  have hc2:=bp hb2;refine f_ (h:=l_ (h:=AD (h:=AM (h:=a_ (h:=AP (?_))))));refine AE ?_;exact⟨_,rfl,CG 4 0 (by simp[Af,Ac,Aa,Bm BA,BM,WA,IB,CH,Ar])⟩
 rintro s rfl;refine A8 rfl (fun hb3=>?_) (fun hb3=>?_)
 ·have hc3:=bp hb3;have k2:f.name=⟨#[]⟩∨g.name=⟨#[]⟩:=by simpa using hc3
  refine w_ (a_ (h:=e_ (A4 (AK (A6 (?_))))));refine BZ (r:= .v (.int .i64 (EP w).2)) none (h5:=(by rw[hren,if_neg k1,if_pos k2];exact AA _)) (h6:=⟨rfl,rfl,?_⟩);rw[hren,if_neg k1,if_pos k2];rfl
 have hc3:=bp hb3;have k2:¬(f.name=⟨#[]⟩∨g.name=⟨#[]⟩):=by simpa using hc3
 refine BR (fun s=>s=⟨look [(0, .bp 0 0),(3, .bp 2 0),(4, .bp 3 0),(35, .v (.bool (g.slash&& !Ay w.s.spc.files f.file)))],⟨[WA w cap,IB w cap,Ar f,Ar g],[]⟩⟩) ?_ ?_
 ·skip
  refine AR (f_ (h:=l_ (h:=m_ (h:=?_))));refine AW true rfl rfl (fun hb4=>?_) (fun hb4=>?_)
  ·have hc4:=bp hb4;refine m_ (h:=?_);refine B4 (D3 1 rfl (.cons _ _ _ _ _ rfl (LeA.of_eq rfl) (.cons _ _ _ _ _ rfl (AA _) .nil)) (Js w .any 0 f hsb hf) ?_);rintro r rfl;refine⟨rfl,?_⟩;refine B9 (h:=AF (h:=a_ (h:=AP (?_))));refine AE ?_;exact⟨_,rfl,CG 4 0 (by simp[Af,Ac,Aa,Bm BA,BM,WA,IB,CH,Ar])⟩
  have hc4:=bp hb4;refine A3 (h:=A3 (h:=A3 (h:=AM (h:=a_ (h:=AP (?_))))));refine AE ?_;exact⟨_,rfl,CG 4 0 (by simp[Af,Ac,Aa,Bm BA,BM,WA,IB,CH,Ar])⟩
 rintro s rfl;refine A8 rfl (fun hb5=>?_) (fun hb5=>?_)
 ·have hc5:=bp hb5;have k3:g.slash=true∧Ay w.s.spc.files f.file=false:=by simpa using hc5
  refine w_ (a_ (h:=e_ (A4 (AK (A6 (?_))))));refine BZ (r:= .v (.int .i64 (EP w).2)) none (h5:=(by rw[hren,if_neg k1,if_neg k2,if_pos k3];exact AA _)) (h6:=⟨rfl,rfl,?_⟩);rw[hren,if_neg k1,if_neg k2,if_pos k3];rfl
 have hc5:=bp hb5;have k3:¬(g.slash=true∧Ay w.s.spc.files f.file=false):=by simpa using hc5
 refine w_ (f_ (h:=f_ (h:=l_ (h:=f_ (h:=f_ (h:=l_ (h:=Ap (h:=a_ (h:=e_ (?_))))))))));refine A8 rfl (fun hb6=>?_) (fun hb6=>?_)
 ·have hc6:=bp hb6;have k4:f.dir.1≠g.dir.1:=by simpa using hc6
  refine w_ (a_ (h:=e_ (A4 (AK (A6 (?_))))));refine BZ (r:= .v (.int .i64 (EP w).2)) none (h5:=(by rw[hren,if_neg k1,if_neg k2,if_neg k3,if_pos k4];exact AA _)) (h6:=⟨rfl,rfl,?_⟩);rw[hren,if_neg k1,if_neg k2,if_neg k3,if_pos k4];rfl
 have hc6:=bp hb6;have k4:¬f.dir.1≠g.dir.1:=by simpa using hc6
 refine BR (fun s=>s=⟨look [(0, .bp 0 0),(3, .bp 2 0),(4, .bp 3 0),(51, .v (.bool (!C5 w f.dir 2|| !C5 w g.dir 2)))],⟨[WA w cap,IB w cap,Ar f,Ar g],[]⟩⟩) ?_ ?_
 ·skip
  refine AR (m_ (h:=f_ (h:=l_ (h:=?_))));refine A7 rfl (D3 1 rfl (.cons _ _ _ _ _ rfl (LeA.of_eq rfl) (.cons _ _ _ _ _ rfl (AA _) (.cons _ _ _ _ _ rfl (AA _) .nil))) (HL w .any f.dir 2 hsb) ?_);rintro r rfl;refine⟨rfl,?_⟩;refine B9 (h:=m_ (h:=?_));refine AW false rfl rfl (fun hb7=>?_) (fun hb7=>?_)
  ·have hc7:=bp hb7;refine A3 (h:=A3 (h:=A3 (h:=A3 (h:=A3 (h:=AF (h:=a_ (h:=AP (?_))))))));refine AE ?_;exact⟨_,rfl,CG 4 0 (by simp[Af,Ac,Aa,Bm BA,BM,WA,IB,CH,Ar])⟩
  have hc7:=bp hb7;refine m_ (h:=f_ (h:=l_ (h:=?_)));refine B4 (D3 1 rfl (.cons _ _ _ _ _ rfl (LeA.of_eq rfl) (.cons _ _ _ _ _ rfl (AA _) (.cons _ _ _ _ _ rfl (AA _) .nil))) (HL w .any g.dir 2 hsb) ?_);rintro r rfl;refine⟨rfl,?_⟩;refine B9 (h:=AM (h:=a_ (h:=AP (?_))));refine AE ?_;exact⟨_,rfl,CG 4 0 (by simp[Af,Ac,Aa,Bm BA,BM,WA,IB,CH,Ar])⟩
 rintro s rfl;refine A8 rfl (fun hb8=>?_) (fun hb8=>?_)
 ·have hc8:=bp hb8;have k5:C5 w f.dir 2=false∨C5 w g.dir 2=false:=by simpa using hc8
  refine w_ (a_ (h:=e_ (A4 (AK (A6 (?_))))));refine BZ (r:= .v (.int .i64 (EP w).2)) none (h5:=(by rw[hren,if_neg k1,if_neg k2,if_neg k3,if_neg k4,if_pos k5];exact AA _)) (h6:=⟨rfl,rfl,?_⟩);rw[hren,if_neg k1,if_neg k2,if_neg k3,if_neg k4,if_pos k5];rfl
 have hc8:=bp hb8;have k5:¬(C5 w f.dir 2=false∨C5 w g.dir 2=false):=by simpa using hc8
 refine Au (Ah (t_ (?_)));refine BR (fun s=>s=⟨look [(0, .bp 0 0),(3, .bp 2 0),(4, .bp 3 0),(5, .bp 4 0)],⟨[WA w cap,IB w cap,Ar f,Ar g,AN x],[]⟩⟩) ?_ ?_
 ·skip
  refine Bf ([(0,WA w cap),(1,IB w cap),(2,Ar f),(3,Ar g)]) 17 (h:=AU 0 (h:=BS 1 (h:=AO 2 (h:=AO 3 (h:=AO 4 (h:=AJ 5 (h:=AO 6 (h:=AJ 7 (h:=AO 8 (h:=AJ 9 (h:=?_)))))))))));refine F6 10 14 rfl rfl ?_ ?_
  ·refine AG (hl1) ?_;rintro r rfl;refine o_ (h:=?_);refine AU 11 (h:=BX 12 (h:=BX 13 (h:=?_)));refine c_ 14 rfl (CV (by repeat constructor) ?_);refine o_ (h:=?_);refine BH 15 rfl (BC rfl rfl rfl rfl rfl rfl (by repeat constructor) (by repeat constructor) ?_);refine o_ (h:=BO 16 (h:=z_ (h:=?_)));refine AE ?_;exact⟨_,rfl,C8 5 0⟩
  refine CV (by repeat constructor) ?_;refine o_ (h:=?_);refine c_ 10 rfl (AG (hl1) ?_);rintro r rfl;refine o_ (h:=AU 11 (h:=BX 12 (h:=BX 13 (h:=?_))));refine BH 15 rfl (BC rfl rfl rfl rfl rfl rfl (by repeat constructor) (by repeat constructor) ?_);refine o_ (h:=BO 16 (h:=z_ (h:=?_)));refine AE ?_;exact⟨_,rfl,C8 5 0⟩
 rintro s rfl;refine q_ (?_);refine BR (fun s=>s=⟨look [(0, .bp 0 0),(3, .bp 2 0),(4, .bp 3 0),(5, .bp 4 0),(7, .bp 5 0),(8, .v (.int .i64 e2))],⟨[WA w cap,IB w cap,Ar f,Ar g,AN x,AN y],[]⟩⟩) ?_ ?_
 ·skip
  refine Bf ([(0,WA w cap),(1,IB w cap),(2,Ar f),(3,Ar g),(4,AN x)]) 17 (h:=AU 0 (h:=BS 1 (h:=AO 2 (h:=AO 3 (h:=AO 4 (h:=AJ 5 (h:=AO 6 (h:=AJ 7 (h:=AO 8 (h:=AJ 9 (h:=?_)))))))))));refine F6 10 14 rfl rfl ?_ ?_
  ·refine AG (hl2) ?_;rintro r rfl;refine o_ (h:=?_);refine AU 11 (h:=BX 12 (h:=BX 13 (h:=?_)));refine c_ 14 rfl (CV (by repeat constructor) ?_);refine o_ (h:=?_);refine BH 15 rfl (BC rfl rfl rfl rfl rfl rfl (by repeat constructor) (by repeat constructor) ?_);refine o_ (h:=BO 16 (h:=z_ (h:=?_)));refine AE ?_;exact⟨_,rfl,C8 6 0⟩
  refine CV (by repeat constructor) ?_;refine o_ (h:=?_);refine c_ 10 rfl (AG (hl2) ?_);rintro r rfl;refine o_ (h:=AU 11 (h:=BX 12 (h:=BX 13 (h:=?_))));refine BH 15 rfl (BC rfl rfl rfl rfl rfl rfl (by repeat constructor) (by repeat constructor) ?_);refine o_ (h:=BO 16 (h:=z_ (h:=?_)));refine AE ?_;exact⟨_,rfl,C8 6 0⟩
 rintro s rfl;refine BR (fun s=>s=⟨look [(0, .bp 0 0),(3, .bp 2 0),(4, .bp 3 0),(5, .bp 4 0),(113, .v (.bool (decide (e2=0)&& !decide ((y.1,y.2)=(x.1,x.2))&&Ay w.s.spc.files y&&Fw w y)))],⟨[WA w cap,IB w cap,Ar f,Ar g,AN x],[]⟩⟩) ?_ ?_
 ·skip
  refine Cp 22 (h:=AU 0 (h:=H3 1 (h:=AU 2 (h:=?_))));refine G5 (j:=2) rfl (fun hb9=>?_) (fun hb9=>?_)
  ·have hc9:=bp hb9;refine AJ 3 (h:=AJ 4 (h:=?_));refine Eg (i:=5) rfl (Ha rfl rfl (by repeat constructor) (by repeat constructor) (fun w=>SV _ _ _ _ w) (by kernel_rfl) ⟨rfl,rfl⟩) ?_;refine Fb 6 (h:=AU 7 (h:=?_));refine G5 (j:=7) rfl (fun hb10=>?_) (fun hb10=>?_)
   ·have hc10:=bp hb10;refine AU 8 (h:=BS 9 (h:=AO 10 (h:=AO 11 (h:=AO 12 (h:=AJ 13 (h:=AJ 14 (h:=?_)))))));refine c_ 15 rfl (AG (Hd w.s.spc.files y hsb.files) ?_);rintro r rfl;refine o_ (h:=Fb 16 (h:=AU 17 (h:=?_)));refine G5 (j:=17) rfl (fun hb11=>?_) (fun hb11=>?_)
    ·have hc11:=bp hb11;refine AU 18 (h:=AJ 19 (h:=?_));refine c_ 20 rfl (D3 1 rfl (.cons _ _ _ _ _ rfl (LeA.of_eq rfl) (.cons _ _ _ _ _ rfl (AA _) .nil)) (V1 w .any y hsb hps) ?_);rintro r rfl;refine⟨rfl,?_⟩;refine o_ (h:=Fb 21 (h:=z_ (h:=?_)));refine AE ?_;exact⟨_,rfl,Av 5 0 rfl rfl rfl (by simp[Af,Ac,Aa,Bm BA,BM,WA,IB,CH,Ar,AN]) (by repeat (first|exact Sub.nil|refine Ax rfl rfl ?_|refine B1 ?_|refine B2 rfl ?_|refine B3 rfl ?_|(apply Sub.of;(focus exact rfl);(focus exact LeA.of_eq (vb (by first|(simp[*];done)|(simp only[*,decide_true,decide_false,Bool.not_true,Bool.not_false,Bool.true_and,Bool.and_true,Bool.false_and,Bool.and_false]))));(focus exact rfl))))⟩
    have hc11:=bp hb11;refine BG 18 (h:=BG 19 (h:=BG 20 (h:=Fc 21 (h:=z_ (h:=?_)))));refine AE ?_;exact⟨_,rfl,Av 5 0 rfl rfl rfl (by simp[Af,Ac,Aa,Bm BA,BM,WA,IB,CH,Ar,AN]) (by repeat (first|exact Sub.nil|refine Ax rfl rfl ?_|refine B1 ?_|refine B2 rfl ?_|refine B3 rfl ?_|(apply Sub.of;(focus exact rfl);(focus exact LeA.of_eq (vb (by first|(simp[*];done)|(simp only[*,decide_true,decide_false,Bool.not_true,Bool.not_false,Bool.true_and,Bool.and_true,Bool.false_and,Bool.and_false]))));(focus exact rfl))))⟩
   have hc10:=bp hb10;refine BG 8 (h:=BG 9 (h:=BG 10 (h:=BG 11 (h:=BG 12 (h:=BG 13 (h:=BG 14 (h:=BG 15 (h:=Fc 16 (h:=AU 17 (h:=BG 18 (h:=BG 19 (h:=BG 20 (h:=Fc 21 (h:=z_ (h:=?_)))))))))))))));refine AE ?_;exact⟨_,rfl,Av 5 0 rfl rfl rfl (by simp[Af,Ac,Aa,Bm BA,BM,WA,IB,CH,Ar,AN]) (by repeat (first|exact Sub.nil|refine Ax rfl rfl ?_|refine B1 ?_|refine B2 rfl ?_|refine B3 rfl ?_|(apply Sub.of;(focus exact rfl);(focus exact LeA.of_eq (vb (by first|(simp[*];done)|(simp only[*,decide_true,decide_false,Bool.not_true,Bool.not_false,Bool.true_and,Bool.and_true,Bool.false_and,Bool.and_false]))));(focus exact rfl))))⟩
  have hc9:=bp hb9;refine BG 3 (h:=BG 4 (h:=BG 5 (h:=Fc 6 (h:=AU 7 (h:=BG 8 (h:=BG 9 (h:=BG 10 (h:=BG 11 (h:=BG 12 (h:=BG 13 (h:=BG 14 (h:=BG 15 (h:=Fc 16 (h:=AU 17 (h:=BG 18 (h:=BG 19 (h:=BG 20 (h:=Fc 21 (h:=z_ (h:=?_))))))))))))))))))));refine AE ?_;exact⟨_,rfl,Av 5 0 rfl rfl rfl (by simp[Af,Ac,Aa,Bm BA,BM,WA,IB,CH,Ar,AN]) (by repeat (first|exact Sub.nil|refine Ax rfl rfl ?_|refine B1 ?_|refine B2 rfl ?_|refine B3 rfl ?_|(apply Sub.of;(focus exact rfl);(focus exact LeA.of_eq (vb (by first|(simp[*];done)|(simp only[*,decide_true,decide_false,Bool.not_true,Bool.not_false,Bool.true_and,Bool.and_true,Bool.false_and,Bool.and_false]))));(focus exact rfl))))⟩
 rintro s rfl;refine A8 rfl (fun hb12=>?_) (fun hb12=>?_)
 ·have hc12:=bp hb12;have k6:=V5.1 hb12;refine w_ (a_ (h:=e_ (A4 (A6 (?_)))));refine BZ (r:= .v (.int .i64 (EP w).2)) none (h5:=(by rw[hren,if_neg k1,if_neg k2,if_neg k3,if_neg k4,if_neg k5,if_pos k6];exact AA _)) (h6:=⟨rfl,rfl,?_⟩);rw[hren,if_neg k1,if_neg k2,if_neg k3,if_neg k4,if_neg k5,if_pos k6];rfl
 have hc12:=bp hb12;have k6:¬(e2=0∧y≠x∧Ay w.s.spc.files y=true∧Fw w y=true):=fun h=>by rw[V5.2 h]at hb12;cases hb12
 refine AB (q_ (Bf ([(0,WA w cap),(1,IB w cap),(2,Ar f),(3,Ar g)]) 19 (h:=AU 0 (h:=AU 1 (h:=BS 2 (h:=AO 3 (h:=AO 4 (h:=AO 5 (h:=AJ 6 (h:=AO 7 (h:=AJ 8 (h:=AO 9 (h:=AJ 10 (h:=AO 11 (h:=AJ 12 (h:=AO 13 (h:=AJ 14 (h:=?_))))))))))))))))));refine c_ 15 rfl (AG (hcall) ?_);rintro r rfl;refine o_ (h:=BX 16 (h:=BX 17 (h:=BX 18 (h:=?_))));refine c_ 19 rfl (Bk [0,1] rfl (.cons _ _ _ _ _ rfl (AA _) (.cons _ _ _ _ _ rfl (AA _) (.cons _ _ _ _ _ rfl (AA _) (.cons _ _ _ _ _ rfl (AA _) .nil)))) (by decide) (.cons _ _ _ _ _ rfl rfl (.cons _ _ _ _ _ rfl (Cy BA _ _ _) .nil)) (LC w cap R.1 R.2.1 R.2.2) ?_);rintro r bc tc ⟨rfl,rfl,rfl⟩;refine⟨rfl,_,DD rfl (Bh w R).1 cap,?_⟩;refine o_ (h:=?_);refine c_ 20 rfl (FY rfl ?_);refine o_ (h:=z_ (h:=t_ (q_ (?_))));refine BR (fun s=>s=⟨look [(0, .bp 0 0),(5, .bp 4 0),(9, .v (.int .i64 R.2.2)),(144, .v (.bool (decide (R.2.2=0)&&decide (0<(R.2.1.length:Int)))))],⟨[WA (Bh w R).1 cap,IB (Bh w R).1 cap,Ar f,Ar g,AN x],[]⟩⟩) ?_ ?_
 ·skip
  refine AR (m_ (h:=AD (h:=m_ (h:=?_))));refine AW true rfl rfl (fun hb13=>?_) (fun hb13=>?_)
  ·have hc13:=bp hb13;have hch:(Bh w R).1.r.changes=R.2.1:=by rw[JM hc13]
   refine m_ (h:=k_ (h:=f_ (h:=f_ (h:=l_ (h:=n_ (h:=Bl (h:=AF (h:=AP (?_)))))))));refine AE ?_;exact⟨_,rfl,CG 5 0 (by simp[Af,Ac,Aa,Bm BA,BM,WA,IB,CH,Ar,AN])⟩
  have hc13:=bp hb13;refine A3 (h:=A3 (h:=A3 (h:=A3 (h:=A3 (h:=A3 (h:=A3 (h:=AM (h:=AP (?_)))))))));refine AE ?_;exact⟨_,rfl,CG 5 0 (by simp[Af,Ac,Aa,Bm BA,BM,WA,IB,CH,Ar,AN])⟩
 rintro s rfl;refine A8 rfl (fun hb14=>?_) (fun hb14=>?_)
 ·have hc14:=bp hb14;have h0:R.2.2=0:=of_decide_eq_true ((Bool.and_eq_true _ _).mp hb14).1;have hfb:FlsB (Fx (Bh w R).1 0 3).s.spc.files:=by rw[JM h0];exact(hok h0).1.b
  have hit:(Bh w R).1.r.items=w.r.items:=by rw[JM h0]
  have hxa:(Bh w R).1.r.items[0]?=some x0:=by rw[hit];exact hx0
  have hil1:0<(Bh w R).1.r.items.length:=by rw[hit];exact hil
  have hxr:(Fx (Bh w R).1 0 3).r.items[1]?=some x1:=by
   show((Bh w R).1.r.items.modify 0 _)[1]?=_;rw[hit,List.getElem?_modify];simp[hx1]
  refine BR (fun s=>s=⟨look [(0, .bp 0 0),(5, .bp 4 0),(9, .v (.int .i64 R.2.2))],⟨[WA (Fx (Bh w R).1 0 3) cap,IB (Fx (Bh w R).1 0 3) cap,Ar f,Ar g,AN x],[]⟩⟩) ?_ ?_
  ·skip
   refine AR (m_ (h:=k_ (h:=f_ (h:=f_ (h:=l_ (h:=?_))))));refine A7 rfl (DE (m:=0) rfl rfl rfl hil1 ?_);refine f_ (h:=?_);refine K1 (BC rfl rfl rfl rfl rfl rfl (JJ BA (x':={x0 with role:=3}) hxa (by repeat constructor) (List.cons_ne_nil _ _)) (by repeat constructor) ?_);refine AP (?_);refine AE ?_;refine⟨_,rfl,?_⟩;rw[V8,V9 hxa];exact C8 5 0
  rintro s rfl;refine AR (m_ (h:=l_ (h:=?_)));refine A7 rfl (Bk [0,1] rfl (.cons _ _ _ _ _ rfl (AA _) (.cons _ _ _ _ _ rfl (AA _) (.cons _ _ _ _ _ rfl (AA _) .nil))) (by decide) (.cons _ _ _ _ _ rfl rfl (.cons _ _ _ _ _ rfl (Cy BA _ _ _) .nil)) (Qn (Fx (Bh w R).1 0 3) cap 1 x x1 hfb hxr) ?_);rintro r bc tc ⟨rfl,rfl,rfl⟩;refine⟨rfl,_,DD rfl (Gs (Fx (Bh w R).1 0 3) 1 x) cap,?_⟩;refine e_ (w_ (m_ (h:=a_ (h:=e_ (A4 (?_))))));refine BZ (r:= .v (.int .i64 (EP w).2)) none (h5:=(by rw[hren,if_neg k1,if_neg k2,if_neg k3,if_neg k4,if_neg k5,if_neg k6,V6 hb14];exact AA _)) (h6:=⟨rfl,rfl,?_⟩);rw[hren,if_neg k1,if_neg k2,if_neg k3,if_neg k4,if_neg k5,if_neg k6,V6 hb14];rfl
 have hc14:=bp hb14;refine AB (w_ (m_ (h:=a_ (h:=e_ (A4 (?_))))));refine BZ (r:= .v (.int .i64 (EP w).2)) none (h5:=(by rw[hren,if_neg k1,if_neg k2,if_neg k3,if_neg k4,if_neg k5,if_neg k6,V7 hb14];exact AA _)) (h6:=⟨rfl,rfl,?_⟩);rw[hren,if_neg k1,if_neg k2,if_neg k3,if_neg k4,if_neg k5,if_neg k6,V7 hb14];rfl
end
theorem cA{s:Spc}{fl:Bool}{p:AT}{ps:List AT}{a:AQ}{lk:Nat}{τ:Lk}(h:Cs s fl p ps a lk= .inr τ):τ.name.size≤12:=by
 unfold Cs at h;split at h
 ·cases h
 split at h
 ·cases h
 rename_i h2
 repeat' split at h
 all_goals first|(cases h;done)|(injection h with h;subst h;first|exact BV 12|exact Nat.le_of_not_lt h2)
theorem cB{s:Spc}{fl:Bool}:∀(k:Nat) (σ:Lk),σ.name.size≤12→(H9 s fl k σ).2.name.size≤12:=by
 intro k
 induction k with
 |zero=>intro σ h;exact h
 |succ k ih=>
   intro σ h;unfold H9
   cases σ.ps with
   |nil=>exact h
   |cons p ps=>
     simp only
     cases hs:Cs s fl p ps σ.file σ.links with
     |inl e=>exact BV 12
     |inr τ=>exact ih _ (cA hs)
theorem VA(s:Spc)(st:AQ)(p:AT)(fl:Bool):(CM s st p fl).1.name.size≤12:=by
 unfold CM;generalize (if FU p=true then FV s else st)=d
 repeat' split
 all_goals first|exact BV 12|exact cB _ _ (BV 12)
theorem cC{s:Spc}{cwd:AQ}{fl:Bool}{X:List Itm×List Fnd×Int}{g:AT×Int}(h:∀f∈X.2.1,f.name.size≤12):(∀f∈(Ec s cwd fl X g).2.1,f.name.size≤12)∧(Ec s cwd fl X g).1.length=X.1.length+1∧(Ec s cwd fl X g).2.1.length=X.2.1.length+1:=by
 unfold Ec;split
 ·split
  ·refine⟨fun f hf=>?_,by simp,by simp⟩;rcases List.mem_append.1 hf with hf|hf
   ·exact h f hf
   rw[List.mem_singleton.1 hf];exact VA _ _ _ _
  refine⟨fun f hf=>?_,by simp,by simp⟩;rcases List.mem_append.1 hf with hf|hf
  ·exact h f hf
  rw[List.mem_singleton.1 hf];exact VA _ _ _ _
 refine⟨fun f hf=>?_,by simp,by simp⟩;rcases List.mem_append.1 hf with hf|hf
 ·exact h f hf
 rw[List.mem_singleton.1 hf];exact BV 12
theorem cD(s:Spc)(cwd:AQ)(fl:Bool)(e:Int):∀(l:List (AT×Int)),(∀f∈(Hp s cwd fl l e).2.1,f.name.size≤12)∧(Hp s cwd fl l e).1.length=l.length∧(Hp s cwd fl l e).2.1.length=l.length:=by
 have key:∀(l:List (AT×Int)) (X:List Itm×List Fnd×Int),(∀f∈X.2.1,f.name.size≤12)→(∀f∈(l.foldl (Ec s cwd fl) X).2.1,f.name.size≤12)∧(l.foldl (Ec s cwd fl) X).1.length=X.1.length+l.length∧(l.foldl (Ec s cwd fl) X).2.1.length=X.2.1.length+l.length:=by
  intro l
  induction l with
  |nil=>intro X h;exact⟨h,rfl,rfl⟩
  |cons g l ih=>
    intro X h;obtain⟨h1,h2,h3⟩:=cC (s:=s) (cwd:=cwd) (fl:=fl) (g:=g) h;obtain⟨k1,k2,k3⟩:=ih _ h1;rw[List.foldl_cons];refine⟨k1,?_,?_⟩
    ·rw[k2,h2,List.length_cons];omega
    rw[k3,h3,List.length_cons];omega
 intro l;have:=key l ([],[],e) (fun f hf=>by cases hf);refine⟨this.1,by rw[Hp,this.2.1];simp,by rw[Hp,this.2.2];simp⟩
theorem VB{c:Cal}(h:Bo c=0):(c.paths.length:Int)=(By c.num).2.2.1∧(By c.num).2.2.2.1≤(c.args.length:Int)∧(c.args.length:Int)≤(By c.num).2.2.2.2∧(∀p∈c.paths,p.size≤128)∧∀p∈c.args,p.size≤64:=by
 unfold Bo at h;split at h
 ·exact absurd h (by decide)
 split at h
 ·exact absurd h (by decide)
 split at h
 ·exact absurd h (by decide)
 rename_i h3;split at h
 ·exact absurd h (by decide)
 rename_i h4;split at h
 ·exact absurd h (by decide)
 rename_i h5;refine⟨by omega,by omega,by omega,fun p hp=>?_,fun p hp=>?_⟩
 ·refine Nat.le_of_not_lt fun hl=>h4 (List.any_eq_true.2 ⟨p,hp,decide_eq_true hl⟩)
 refine Nat.le_of_not_lt fun hl=>h5 (List.any_eq_true.2 ⟨p,hp,decide_eq_true hl⟩)
theorem cE{c0 c1 c2 c3 c4 c5:List AV}(w:Wrk)(rows:List (List AV))(n cap:Nat)(L:List Itm):Back [c0,c1,c2,c3,c4,c5] [5] [Cx w (.sl 8 rows none) (.bs 1 0 13 n cap),LB 13 Cf L cap] [c0,c1,c2,c3,c4,Cx w (.sl 8 rows none) (.bs 6 0 13 n cap),LB 13 Cf L cap]:=by
 have:=MQ (bx:=[c0,c1,c2,c3,c4,c5]) (is:=[5]) (bc:=[Cx w (.sl 8 rows none) (.bs 1 0 13 n cap),LB 13 Cf L cap]) (by simp) (by simp) (by simp);have e2:DF (Db [5] [c0,c1,c2,c3,c4,c5].length) (LB 13 Cf L cap)=LB 13 Cf L cap:=Cy BA _ _ _
 have hb:D7 [c0,c1,c2,c3,c4,c5] (Db [5] [c0,c1,c2,c3,c4,c5].length) [5] [Cx w (.sl 8 rows none) (.bs 1 0 13 n cap),LB 13 Cf L cap]=[c0,c1,c2,c3,c4,Cx w (.sl 8 rows none) (.bs 6 0 13 n cap),LB 13 Cf L cap]:=by
  unfold D7;unfold D7;rw[List.map_cons,e2];rfl
 rw[hb]at this;exact this
theorem VC(s:Syst)(pid:Int)(c:Cal):(∀f∈(GL s pid c).found,f.name.size≤12)∧(GL s pid c).found.length=(c.paths.zip (Ce c)).length∧(GL s pid c).r.items.length=(c.paths.zip (Ce c)).length:=by
 obtain⟨h1,h2,h3⟩:=cD s.spc (AY s.tab pid).cwd (Ch c) (Ci (AY s.tab pid) c) (c.paths.zip (Ce c));exact⟨h1,h3,h2⟩
section
theorem VE(w:Wrk)(F I:AV)(h9:w.c.num=9→0<w.c.args.length)(hsz:∀p∈w.c.args,p.size≤1000):AFn prog 97 [.fp (Cx w F I)] (fun r=>r= .v (.int .i64 (Ci w.p w.c))):=by
 have hol:(w.p.opens.map Eu).length=w.p.opens.length:=List.length_map _;refine enter Tryz.func97 rfl rfl rfl rfl rfl 0 rfl ?_;refine w_ (a_ (h:=e_ (w_ (m_ (h:=k_ (h:=f_ (h:=f_ (h:=l_ (h:=Al (h:=s_ (h:=e_ (q_ (w_ (m_ (h:=k_ (h:=f_ (h:=f_ (h:=l_ (h:=e_ (Ag (w_ (AD (h:=a_ (h:=?_))))))))))))))))))))))));refine e_ (?_);refine A8 rfl (fun hb1=>?_) (fun hb1=>?_)
 ·have hc1:=bp hb1;refine q_ (w_ (?_));refine A7 rfl (BW (len:=4) (sz:=1) (n:=0) (by kernel_rfl) rfl rfl rfl rfl ?_);refine l_ (h:=BB (h:=m_ (h:=?_)));refine AW false rfl rfl (fun hb2=>?_) (fun hb2=>?_)
  ·have hc2:=bp hb2;refine A3 (h:=A3 (h:=A3 (h:=AF (h:=m_ (h:=A3 (h:=A3 (h:=A3 (h:=A3 (h:=AF (h:=m_ (h:=A3 (h:=A3 (h:=A3 (h:=A3 (h:=AF (h:=e_ (B8 (h:=w_ (a_ (h:=e_ (A4 (A6 (AK (?_))))))))))))))))))))))));refine A6 (?_);refine A9 ?_
   first|(exfalso;first|contradiction|omega)|(exact vi (by simp[Ci, *]))
  have hc2:=bp hb2;refine B4 (BW (len:=4) (sz:=1) (n:=0) (by kernel_rfl) rfl rfl rfl rfl ?_);refine l_ (h:=Bl (h:=AM (h:=m_ (h:=?_))));refine AW false rfl rfl (fun hb3=>?_) (fun hb3=>?_)
  ·have hc3:=bp hb3;refine A3 (h:=A3 (h:=A3 (h:=A3 (h:=AF (h:=m_ (h:=A3 (h:=A3 (h:=A3 (h:=A3 (h:=AF (h:=e_ (B8 (h:=w_ (a_ (h:=e_ (A4 (A6 (AK (A6 (?_))))))))))))))))))));refine A9 ?_
   first|(exfalso;first|contradiction|omega)|(exact vi (by simp[Ci, *]))
  have hc3:=bp hb3;refine B4 (BW (len:=4) (sz:=1) (n:=0) (by kernel_rfl) rfl rfl rfl rfl ?_);refine l_ (h:=DR (h:=AD (h:=AM (h:=m_ (h:=?_)))));refine AW false rfl rfl (fun hb4=>?_) (fun hb4=>?_)
  ·have hc4:=bp hb4;refine A3 (h:=A3 (h:=A3 (h:=A3 (h:=AF (h:=e_ (B8 (h:=w_ (a_ (h:=e_ (A4 (A6 (AK (A6 (?_))))))))))))));refine A9 ?_
   first|(exfalso;first|contradiction|omega)|(exact vi (by simp[Ci, *]))
  have hc4:=bp hb4;refine B4 (BW (len:=4) (sz:=1) (n:=1) (by kernel_rfl) rfl rfl rfl rfl ?_);refine l_ (h:=?_);refine B4 (AG (Qe w.c.a1) ?_);rintro r rfl;refine B9 (h:=AM (h:=e_ (?_)));refine A8 rfl (fun hb5=>?_) (fun hb5=>?_)
  ·have hc5:=bp hb5;refine w_ (a_ (h:=e_ (A4 (A6 (AK (A6 (?_)))))));refine A9 ?_
   first|(exfalso;first|contradiction|omega)|(exact vi (by simp[Ci, *]))
  have hc5:=bp hb5;refine AB (w_ (m_ (h:=k_ (h:=f_ (h:=f_ (h:=l_ (h:=n_ (h:=Cw (h:=e_ (?_))))))))));refine A8 rfl (fun hb6=>?_) (fun hb6=>?_)
  ·have hc6:=bp hb6;have h8:8≤(w.p.opens.length:Int):=by rw[List.length_map]at hc6;exact hc6
   refine w_ (a_ (h:=e_ (A4 (AK (A6 (?_))))));refine A9 ?_
   first|(exfalso;first|contradiction|omega)|(exact vi (by simp[Ci, *]))
  have hc6:=bp hb6;have h8:¬8≤(w.p.opens.length:Int):=by rw[List.length_map]at hc6;exact hc6
  refine Au (Ah (t_ (w_ (a_ (h:=e_ (A4 (?_)))))));refine A9 ?_
  first|(exfalso;first|contradiction|omega)|(exact vi (by simp[Ci, *]))
 have hc1:=bp hb1;refine w_ (AD (h:=a_ (h:=e_ (?_))));refine A8 rfl (fun hb7=>?_) (fun hb7=>?_)
 ·have hc7:=bp hb7;obtain⟨a0,ha0⟩:∃a,w.c.args[0]?=some a:=⟨_,BJ (h9 hc7)⟩;have harg:(w.c.args.map Cj)[0]?=some (Cj a0):=by rw[List.getElem?_map,ha0];rfl
  have hag:Gq w.c=a0:=by unfold Gq;rw[List.headD_eq_head?_getD,List.head?_eq_getElem?,ha0];rfl
  have hsa:=hsz a0 (Aw ha0);refine q_ (w_ (m_ (h:=k_ (h:=f_ (h:=f_ (h:=l_ (h:=?_)))))));refine A7 rfl (Cl (n:=0) rfl rfl rfl harg ?_);refine l_ (h:=AD (h:=e_ (?_)));refine A8 rfl (fun hb8=>?_) (fun hb8=>?_)
  ·have hc8:=bp hb8;refine w_ (a_ (h:=e_ (A4 (A6 (AK (A6 (?_)))))));refine A9 ?_
   first|(exfalso;first|contradiction|omega)|(exact vi (by simp[Ci, *]))
  have hc8:=bp hb8;refine AB (w_ (a_ (h:=e_ (Ag (?_)))));refine Be (fun m s=>∃j:Nat,j≤a0.size∧m=a0.size - j∧(∀(i:Nat) (h:i<a0.data.toList.length),i<j→a0.data.toList[i]≠0)∧s=⟨look [(0, .fp (Cx w F I)),(4, .v (.int .i64 (j:Int)))],⟨[],[]⟩⟩) (a0.size) ((wk 0 0)) (⟨0,BV _,rfl,fun i h1 h2=>by omega,rfl⟩) ?_;rintro m s ⟨j,hj,rfl,hz,rfl⟩;refine q_ (w_ (m_ (h:=m_ (h:=k_ (h:=f_ (h:=f_ (h:=l_ (h:=?_))))))));refine A7 rfl (Cl (n:=0) rfl rfl rfl harg ?_);refine l_ (h:=n_ (h:=BB (h:=e_ (?_))));refine A8 rfl (fun hb9=>?_) (fun hb9=>?_)
  ·have hc9:=bp hb9;have hlt:j<a0.size:=by omega
   refine AB (q_ (Ag (w_ (m_ (h:=k_ (h:=f_ (h:=f_ (h:=l_ (h:=?_)))))))));refine A7 rfl (Cl (n:=0) rfl rfl rfl harg ?_);refine l_ (h:=m_ (h:=?_));refine A7 rfl (J8 (n:=j) Tryz.underlying9 rfl rfl rfl hlt ?_);refine AD (h:=e_ (?_));refine A8 rfl (fun hb10=>?_) (fun hb10=>?_)
   ·have hc10:=bp hb10
    have hany:(a0.data.toList.any fun b=>decide (b=0))=true:=by
     rw[List.any_eq_true];refine⟨a0.data.toList[j]'(by simpa using hlt),List.getElem_mem _,?_⟩;have h00:a0[j].toNat=0:=by have:=hc10;omega
     simp;exact UInt8.toNat_inj.1 h00
    refine w_ (a_ (h:=e_ (A4 (AK (A6 (A6 (AK (AK (A6 (?_))))))))));refine A9 ?_
    first|(exfalso;first|contradiction|omega)|(exact vi (by simp[Ci, *]))
   have hc10:=bp hb10
   have hne:a0.data.toList[j]'(by simpa using hlt)≠0:=by
    intro e;have h00:¬a0[j].toNat=0:=by have:=hc10;omega
    simp at e;exact h00 (congrArg UInt8.toNat e)
   refine Au (Ah (t_ (AR (m_ (h:=BD (h:=a_ (h:=AP (?_))))))));refine AE ?_
   refine⟨_,_,?_,⟨j+1,by omega,rfl,(fun i h1 h2=>by
    by_cases e:i=j
    ·subst e;exact hne
    exact hz i h1 (by omega)),rfl⟩,(wk 0 0)⟩
   omega
  have hc9:=bp hb9
  have hany:(a0.data.toList.any fun b=>decide (b=0))=false:=by
   rw[List.any_eq_false];intro b hb;obtain⟨i,hi,rfl⟩:=List.mem_iff_getElem.1 hb;have:=hz i hi (by have hl:=Lib.size_eq a0;omega)
   simpa using this
  refine BT (Ao (Ao (BU (Ah (t_ (w_ (a_ (h:=e_ (A4 (?_))))))))));refine A9 ?_
  first|(exfalso;first|contradiction|omega)|(exact vi (by simp[Ci, *]))
 have hc7:=bp hb7;refine q_ (w_ (AD (h:=a_ (h:=e_ (?_)))));refine A8 rfl (fun hb11=>?_) (fun hb11=>?_)
 ·have hc11:=bp hb11;refine AB (B8 (h:=w_ (?_)));refine A7 rfl (BW (len:=4) (sz:=1) (n:=0) (by kernel_rfl) rfl rfl rfl rfl ?_);refine l_ (h:=?_);refine A7 rfl (AG (Qe w.c.a0) ?_);rintro r rfl;refine B9 (h:=e_ (?_));refine A8 rfl (fun hb12=>?_) (fun hb12=>?_)
  ·have hc12:=bp hb12;refine w_ (a_ (h:=e_ (A4 (AK (A6 (?_))))));refine A9 ?_
   first|(exfalso;first|contradiction|omega)|(exact vi (by simp[Ci, *]))
  have hc12:=bp hb12;refine Au (Ah (t_ (w_ (a_ (h:=e_ (A4 (?_)))))));refine A9 ?_
  first|(exfalso;first|contradiction|omega)|(exact vi (by simp[Ci, *]))
 have hc11:=bp hb11;refine AR (AD (h:=a_ (h:=e_ (?_))));refine A8 rfl (fun hb13=>?_) (fun hb13=>?_)
 ·have hc13:=bp hb13;refine w_ (?_);refine A7 rfl (BW (len:=4) (sz:=1) (n:=0) (by kernel_rfl) rfl rfl rfl rfl ?_);refine l_ (h:=?_);refine A7 rfl (AG (Qe w.c.a0) ?_);rintro r rfl;refine B9 (h:=e_ (?_));refine A8 rfl (fun hb14=>?_) (fun hb14=>?_)
  ·have hc14:=bp hb14;refine w_ (a_ (h:=e_ (A4 (AK (A6 (?_))))));refine A9 ?_
   first|(exfalso;first|contradiction|omega)|(exact vi (by simp[Ci, *]))
  have hc14:=bp hb14;refine Au (Ah (t_ (w_ (a_ (h:=e_ (A4 (?_)))))));refine A9 ?_
  first|(exfalso;first|contradiction|omega)|(exact vi (by simp[Ci, *]))
 have hc13:=bp hb13;refine w_ (AD (h:=a_ (h:=e_ (?_))));refine A8 rfl (fun hb15=>?_) (fun hb15=>?_)
 ·have hc15:=bp hb15;refine w_ (?_);refine A7 rfl (BW (len:=4) (sz:=1) (n:=0) (by kernel_rfl) rfl rfl rfl rfl ?_);refine l_ (h:=BB (h:=m_ (h:=?_)));refine AW false rfl rfl (fun hb16=>?_) (fun hb16=>?_)
  ·have hc16:=bp hb16;refine A3 (h:=A3 (h:=A3 (h:=AF (h:=m_ (h:=A3 (h:=A3 (h:=A3 (h:=AF (h:=m_ (h:=A3 (h:=A3 (h:=A3 (h:=AF (h:=e_ (B8 (h:=w_ (a_ (h:=e_ (A4 (AK (A6 (?_))))))))))))))))))))));refine A9 ?_
   first|(exfalso;first|contradiction|omega)|(exact vi (by simp[Ci, *]))
  have hc16:=bp hb16;refine B4 (BW (len:=4) (sz:=1) (n:=0) (by kernel_rfl) rfl rfl rfl rfl ?_);refine l_ (h:=Bl (h:=AM (h:=m_ (h:=?_))));refine AW false rfl rfl (fun hb17=>?_) (fun hb17=>?_)
  ·have hc17:=bp hb17;refine A3 (h:=A3 (h:=A3 (h:=AF (h:=m_ (h:=A3 (h:=A3 (h:=A3 (h:=AF (h:=e_ (B8 (h:=w_ (a_ (h:=e_ (A4 (AK (A6 (?_)))))))))))))))));refine A9 ?_
   first|(exfalso;first|contradiction|omega)|(exact vi (by simp[Ci, *]))
  have hc17:=bp hb17;refine B4 (BW (len:=4) (sz:=1) (n:=1) (by kernel_rfl) rfl rfl rfl rfl ?_);refine l_ (h:=BB (h:=AM (h:=m_ (h:=?_))));refine AW false rfl rfl (fun hb18=>?_) (fun hb18=>?_)
  ·have hc18:=bp hb18;refine A3 (h:=A3 (h:=A3 (h:=AF (h:=e_ (B8 (h:=w_ (a_ (h:=e_ (A4 (AK (A6 (?_))))))))))));refine A9 ?_
   first|(exfalso;first|contradiction|omega)|(exact vi (by simp[Ci, *]))
  have hc18:=bp hb18;refine B4 (BW (len:=4) (sz:=1) (n:=1) (by kernel_rfl) rfl rfl rfl rfl ?_);refine l_ (h:=Bl (h:=AM (h:=e_ (?_))));refine A8 rfl (fun hb19=>?_) (fun hb19=>?_)
  ·have hc19:=bp hb19;refine w_ (a_ (h:=e_ (A4 (AK (A6 (?_))))));refine A9 ?_
   first|(exfalso;first|contradiction|omega)|(exact vi (by simp[Ci, *]))
  have hc19:=bp hb19;refine Au (Ah (t_ (w_ (a_ (h:=e_ (A4 (?_)))))));refine A9 ?_
  first|(exfalso;first|contradiction|omega)|(exact vi (by simp[Ci, *]))
 have hc15:=bp hb15;refine w_ (AD (h:=a_ (h:=e_ (?_))));refine A8 rfl (fun hb20=>?_) (fun hb20=>?_)
 ·have hc20:=bp hb20;refine w_ (m_ (h:=k_ (h:=f_ (h:=f_ (h:=l_ (h:=Ap (h:=e_ (?_))))))));refine A8 rfl (fun hb21=>?_) (fun hb21=>?_)
  ·have hc21:=bp hb21;refine w_ (a_ (h:=e_ (A4 (AK (A6 (?_))))));refine A9 ?_
   first|(exfalso;first|contradiction|omega)|(exact vi (by simp[Ci, *]))
  have hc21:=bp hb21;refine Au (Ah (t_ (w_ (a_ (h:=e_ (A4 (?_)))))));refine A9 ?_
  first|(exfalso;first|contradiction|omega)|(exact vi (by simp[Ci, *]))
 have hc20:=bp hb20;refine w_ (AD (h:=a_ (h:=e_ (?_))));refine A8 rfl (fun hb22=>?_) (fun hb22=>?_)
 ·have hc22:=bp hb22;refine w_ (?_);refine A7 rfl (BW (len:=4) (sz:=1) (n:=0) (by kernel_rfl) rfl rfl rfl rfl ?_);refine l_ (h:=BB (h:=e_ (?_)));refine A8 rfl (fun hb23=>?_) (fun hb23=>?_)
  ·have hc23:=bp hb23;refine w_ (a_ (h:=e_ (A4 (AK (A6 (?_))))));refine A9 ?_
   first|(exfalso;first|contradiction|omega)|(exact vi (by simp[Ci, *]))
  have hc23:=bp hb23;refine Au (Ah (t_ (w_ (a_ (h:=e_ (A4 (?_)))))));refine A9 ?_
  first|(exfalso;first|contradiction|omega)|(exact vi (by simp[Ci, *]))
 have hc22:=bp hb22;refine Au (Ah (t_ (w_ (a_ (h:=e_ (A4 (?_)))))));refine A9 ?_
 first|(exfalso;first|contradiction|omega)|(exact vi (by simp[Ci, *]))
end
def Gt(n:Int):Int:=IntKind.i64.wrap (0 - n)
def CY(s:Syst)(pid:Int)(c:Cal):Syst×Res:=
 if C7 s.tab pid=false then(s,{Ep with exit:= -4})else if Bo c≠0 then(s,{Ep with exit:= -22})
 else if(Et s (AY s.tab pid) c).2.2≠0 then(s,{Ep with exit:=Gt (Et s (AY s.tab pid) c).2.2,items:=(Et s (AY s.tab pid) c).1})
 else if(BY (GL s pid c)).2≠0 then(s,{Ep with exit:=Gt (BY (GL s pid c)).2,items:=(Et s (AY s.tab pid) c).1})
 else((BY (GL s pid c)).1.s,(BY (GL s pid c)).1.r)
def KR(R:Syst×Res):AV:= .tup [.agg (C2 R.1), .agg (HH R.2)]
theorem cF{α:Type}{sz:Nat}{F:α→List AV}(hF:RowF sz F)(l:List α)(cap0 cap:Nat):((LB sz F l cap0).drop 0).take (l.length * sz)++List.replicate ((cap - l.length) * sz) .any=LB sz F l cap:=by
 unfold LB;have h:=Sn (cap:=cap0) (KN hF l);rw[List.length_map]at h;rw[h];unfold CD;rw[List.length_map]
def Fi:List AV:=[.v (.slice none 0 0), .v (.slice none 0 0), .v (.int .i64 0), .v (.int .i64 0), .v (.slice none 0 0)]
def GN:List AV:=[.v (.int .i64 0), .v (.int .i64 0), .v (.int .i64 0), .v (.slice none 0 0), .v (.slice none 0 0)]
def KS(r:Res)(I:AV):List AV:=[.v (.int .i64 r.exit), .v (.int .i64 r.child), .v (.int .i64 r.gone),I, .sl 7 (r.changes.map DY) none]
def Cz(s:Syst)(pid:Int)(c:Cal):Wrk:=⟨s,AY s.tab pid,c,[],Ep⟩
theorem VF(s:Syst)(pid:Int)(c:Cal):LeA (.agg (C2 s++(Aq (AY s.tab pid)++(DC c++[.v (.slice none 0 0), .v (.int .i64 0), .v (.int .i64 0), .v (.int .i64 0), .v (.slice none 0 0), .v (.slice none 0 0)])))) (.agg (Cx (Cz s pid c) (.v (.slice none 0 0)) (.v (.slice none 0 0)))):=by
 refine LeA.agg ?_
 repeat (first|exact LeL.nil|refine LeL.cons (AA _) ?_|refine LeL.cons (LeA.nil _) ?_)
theorem LD(w:Wrk)(R:Dm):(Bh w R).1.r.items.length=w.r.items.length:=by
 unfold Bh;split<;>rfl
theorem OH(w:Wrk)(R:Tab×Int):(C6 w R).1.r.items.length=w.r.items.length:=by
 unfold C6;split<;>rfl
theorem Qp(w:Wrk)(i:Nat)(a:AQ):(Gs w i a).r.items.length=w.r.items.length:=List.length_modify ..
theorem VG(w:Wrk)(i:Nat)(r:Int):(Fx w i r).r.items.length=w.r.items.length:=List.length_modify ..
theorem Qq(w:Wrk)(i:Nat)(n:Nod):(CT w i n).1.r.items.length=w.r.items.length:=by
 unfold CT;split
 ·rw[Qp,LD]
 rfl
theorem VH(w:Wrk)(a:AQ):(HG w a).1.r.items.length=w.r.items.length:=by
 unfold HG;rw[OH];rfl
theorem cG(w:Wrk):(CF w).1.r.items.length=w.r.items.length:=by
 unfold CF
 repeat' split
 all_goals first|rfl|exact Qq _ _ _|exact VH _ _|exact(VH _ _).trans (Qq _ _ _)
theorem cH(w:Wrk)(R:Dm)(x:AQ):(Hq w R x).1.r.items.length=w.r.items.length:=by
 unfold Hq
 repeat' split
 all_goals first|rfl|exact LD _ _|exact(Qp _ _ _).trans ((VG _ _ _).trans (LD _ _))
theorem cJ(w:Wrk):(EP w).1.r.items.length=w.r.items.length:=by
 unfold EP
 repeat' split
 all_goals first|rfl|exact cH _ _ _
section
variable {P:Program}{ev:Operand→Option AV}{h:AH}{R:AV→AH→Prop}{d:Option Tmp}{ty:TypeId}{pos:String}{af:Array Edge}{gd:Option (Nat×Bool)}
theorem VJ{T:TypeId}{x:Operand}{a:Int}(hx:ev x=some (.v (.int .i64 a)))(hR:R (.v (.int .i64 (Gt a))) h):AStep P ⟨d, .unOp .neg T x,ty,pos,af,gd⟩ ev h R:=
 D1 (fun _ G w ec _ he=>⟨.int .i64 (Gt a),by
  have h1:=he x (by simp[Op.operands]) _ hx;simp only[rep]at h1
  simp[execOp,h1,Op.unary,Op.intArith,Gt],by simp only[rep]⟩) hR
end
section
theorem VK(s:AT)(hs:s.size≤60000):AFn prog 183 [.v (.string s)] (fun r=>r= .v (.bool (FP s.data.toList))):=We (us:=[.string s]) fun w=>bJ s w (by omega)
end
end Go.Proofs.YtbgnigjfkbmceaaGreatDoor
