/-
  Part 15 of the proof of WatchPlacesP: what the statement's proof uses of the texts in wip/tpl.
-/
import Derived.Test.YtbglbmnhgbgelaaGreatDoorQa14
namespace Go.Proofs.YtbglbmnhgbgelaaGreatDoor
open Go.RowKit
theorem modify_set{α:Type}{l:List α}{i:Nat}{x:α}(h:l[i]?=some x)(f:α→α):l.modify i f=l.set i (f x):=by
 apply List.ext_getElem?
 intro k
 rw[List.getElem?_modify,List.getElem?_set]
 obtain⟨hl,rfl⟩:=List.getElem?_eq_some_iff.1 h
 by_cases e:i=k
 ·subst e
  simp[hl]
 simp[e]
theorem tableW_e(w:Wrk)(R:Tab×Int):(tableW w R).2=R.2:=by
 unfold tableW
 split
 ·rename_i h;exact h.symm
 rfl
theorem filesW_ok{w:Wrk}{R:ChgRes}(h:R.2.2=0):(filesW w R).1={w with s:=⟨⟨R.1,w.s.spc.mounts⟩,w.s.tab⟩,r:={w.r with changes:=R.2.1}}:=by
 unfold filesW
 rw[if_pos h]
theorem filesW_no{w:Wrk}{R:ChgRes}(h:¬R.2.2=0):(filesW w R).1=w:=by
 unfold filesW
 rw[if_neg h]
theorem mk_one{f:Fls}{dir:Fil}{name:Str}{n:Nod}(h0:(mkL f dir name n).2.2=0):∃c,(mkL f dir name n).2.1=[c]:=by
 unfold mkL at h0 ⊢
 split at h0
 ·rename_i c;exact absurd h0 c
 rename_i c1
 rw[if_neg c1]
 split at h0
 ·exact absurd h0 (by decide)
 rename_i c2
 rw[if_neg c2]
 split at h0
 ·exact absurd h0 (by decide)
 rename_i c3
 rw[if_neg c3]
 cases e:atI f dir.1 with
 |none=>rw[e]at h0;simp at h0
 |some d=>
   rw[e]at h0
   simp only at h0 ⊢
   split at h0
   ·exact absurd h0 (by decide)
   rename_i c4
   rw[if_neg c4]
   exact⟨_,rfl⟩
theorem createW_one{w:Wrk}{i:Nat}{n:Nod}(h:(createW w i n).2=0):∃c,(createW w i n).1.r.changes=[c]:=by
 unfold createW at h ⊢
 split at h
 ·rename_i h0
  obtain⟨c,hc⟩:=mk_one h0
  rw[if_pos h0,filesW_ok h0]
  exact⟨c,hc⟩
 rename_i h0;exact absurd h h0
theorem createW_keep(w:Wrk)(i:Nat)(n:Nod):(createW w i n).1.s.tab=w.s.tab∧(createW w i n).1.p=w.p∧(createW w i n).1.c=w.c:=by
 unfold createW
 split
 ·rename_i h0
  rw[filesW_ok h0]
  exact⟨rfl,rfl,rfl⟩
 exact⟨rfl,rfl,rfl⟩
section
set_option maxRecDepth 10000
set_option maxHeartbeats 4000000
theorem Rmadew(w:Wrk)(cap i:Nat)(a:Fil)(x:Itm)(hs:FlsB w.s.spc.files)(hx:w.r.items[i]?=some x):ACall Tryz.prog 155 [.bp 0 0, .v (.int .i64 (i:Int)), .agg (filA a)] [WA w cap,IB w cap] (fun r b t=>t=[]∧r= .tup []∧b=[WA (madeW w i a) cap,IB (madeW w i a) cap]):=by
 have hil:=(List.getElem?_eq_some_iff.1 hx).1
 have hst:∀y:Itm,(w.r.items.set i y)[i]?=some y:=fun y=>by rw[List.getElem?_set_self hil]
 have hfin:w.r.items.modify i (madeI (nodG w.s.spc.files a) a)=w.r.items.set i {x with role:=2,file:=a,kind:=(nodG w.s.spc.files a).kind,mode:=(nodG w.s.spc.files a).mode,uid:=(nodG w.s.spc.files a).uid,gid:=(nodG w.s.spc.files a).gid}:=by rw[modify_set hx];rfl
 refine enter Tryz.func155 rfl rfl rfl rfl rfl 2 rfl ?_
 refine w_ (b_ (h:=e_ (?_)))
 refine aw_midI (fun s=>s=⟨look [(0, .bp 0 0),(1, .v (.int .i64 (i:Int))),(5, .bp 2 0),(6, .bp 3 0)],⟨[WA w cap,IB w cap,filA a,nodA (nodG w.s.spc.files a)],[]⟩⟩) ?_ ?_
 ·skip
  refine yk_ ([(0,WA w cap),(1,IB w cap),(2,filA a)]) 14 (h:=dm_ 0 (h:=dk_ 1 (h:=df_ 2 (h:=df_ 3 (h:=df_ 4 (h:=dl_ 5 (h:=dl_ 6 (h:=?_))))))))
  refine c2_ 7 11 rfl rfl ?_ ?_
  ·refine q_call (Rnode w.s.spc.files a hs) ?_
   rintro r rfl
   refine o_ (h:=?_)
   refine dm_ 8 (h:=dx_ 9 (h:=dx_ 10 (h:=?_)))
   refine c_ 11 rfl (s_alloc (by repeat constructor) ?_)
   refine o_ (h:=?_)
   refine c0_ 12 rfl (s_store rfl rfl rfl rfl rfl rfl (by repeat constructor) (by repeat constructor) ?_)
   refine o_ (h:=da_ 13 (h:=z_ (h:=?_)))
   refine x_then ?_
   exact⟨_,rfl,wb_ 4 0 (by simp[bpLtB,bpLtL,bpLt,bp_LB itmF,bp_wrk,WA,IB,fndS,fndA,nodA,filA])⟩
  refine s_alloc (by repeat constructor) ?_
  refine o_ (h:=?_)
  refine c_ 7 rfl (q_call (Rnode w.s.spc.files a hs) ?_)
  rintro r rfl
  refine o_ (h:=dm_ 8 (h:=dx_ 9 (h:=dx_ 10 (h:=?_))))
  refine c0_ 12 rfl (s_store rfl rfl rfl rfl rfl rfl (by repeat constructor) (by repeat constructor) ?_)
  refine o_ (h:=da_ 13 (h:=z_ (h:=?_)))
  refine x_then ?_
  exact⟨_,rfl,wb_ 4 0 (by simp[bpLtB,bpLtL,bpLt,bp_LB itmF,bp_wrk,WA,IB,fndS,fndA,nodA,filA])⟩
 rintro s rfl
 refine w_ (m_ (h:=k_ (h:=f_ (h:=f_ (h:=l_ (h:=m_ (h:=?_)))))))
 refine al_p rfl (st_indexS (m:=i) rfl rfl rfl hil ?_)
 refine a_ (h:=e_ (yk_ ([(0,WA w cap),(2,filA a),(3,nodA (nodG w.s.spc.files a))]) 33 (h:=dm_ 0 (h:=dm_ 1 (h:=dm_ 2 (h:=dm_ 3 (h:=dm_ 4 (h:=dm_ 5 (h:=dl_ 6 (h:=df_ 7 (h:=dl_ 8 (h:=df_ 9 (h:=dl_ 10 (h:=df_ 11 (h:=dl_ 12 (h:=df_ 13 (h:=dl_ 14 (h:=dk_ 15 (h:=df_ 16 (h:=?_))))))))))))))))))))
 refine c0_ 17 rfl (s_store rfl rfl rfl rfl rfl rfl (LB_set itmF (x':={x with role:=2}) hx (by repeat constructor) (List.cons_ne_nil _ _)) (by repeat constructor) ?_)
 refine o_ (h:=dk_ 18 (h:=df_ 19 (h:=?_)))
 refine c0_ 20 rfl (s_store rfl rfl rfl rfl rfl rfl (LB_set itmF (x':={x with role:=2,file:=a}) (hst _) (by repeat constructor) (List.cons_ne_nil _ _)) (by repeat constructor) ?_)
 refine o_ (h:=dk_ 21 (h:=df_ 22 (h:=?_)))
 refine c0_ 23 rfl (s_store rfl rfl rfl rfl rfl rfl (LB_set itmF (x':={x with role:=2,file:=a,kind:=(nodG w.s.spc.files a).kind}) (by rw[List.set_set];exact hst _) (by repeat constructor) (List.cons_ne_nil _ _)) (by repeat constructor) ?_)
 refine o_ (h:=dk_ 24 (h:=df_ 25 (h:=?_)))
 refine c0_ 26 rfl (s_store rfl rfl rfl rfl rfl rfl (LB_set itmF (x':={x with role:=2,file:=a,kind:=(nodG w.s.spc.files a).kind,mode:=(nodG w.s.spc.files a).mode}) (by rw[List.set_set,List.set_set];exact hst _) (by repeat constructor) (List.cons_ne_nil _ _)) (by repeat constructor) ?_)
 refine o_ (h:=dk_ 27 (h:=df_ 28 (h:=?_)))
 refine c0_ 29 rfl (s_store rfl rfl rfl rfl rfl rfl (LB_set itmF (x':={x with role:=2,file:=a,kind:=(nodG w.s.spc.files a).kind,mode:=(nodG w.s.spc.files a).mode,uid:=(nodG w.s.spc.files a).uid}) (by rw[List.set_set,List.set_set,List.set_set];exact hst _) (by repeat constructor) (List.cons_ne_nil _ _)) (by repeat constructor) ?_)
 refine o_ (h:=dk_ 30 (h:=df_ 31 (h:=?_)))
 refine c0_ 32 rfl (s_store rfl rfl rfl rfl rfl rfl (LB_set itmF (x':={x with role:=2,file:=a,kind:=(nodG w.s.spc.files a).kind,mode:=(nodG w.s.spc.files a).mode,uid:=(nodG w.s.spc.files a).uid,gid:=(nodG w.s.spc.files a).gid}) (by rw[List.set_set,List.set_set,List.set_set,List.set_set];exact hst _) (by repeat constructor) (List.cons_ne_nil _ _)) (by repeat constructor) ?_)
 refine o_ (h:=z_ (h:=?_))
 refine rd_ (r:= .tup []) none (h4:=(by simp[bpLtB,bpLtL,bpLt,bp_LB itmF,bp_wrk,WA,fndS])) (h5:=(LeA.refl _)) (h6:=⟨rfl,rfl,?_⟩)
 rw[List.set_set,List.set_set,List.set_set,List.set_set,List.set_set]
 unfold WA IB madeW
 simp only[hfin,List.length_set]
 rfl
theorem Rcreatew(w:Wrk)(cap i:Nat)(n:Nod)(f:Fnd)(x:Itm)(hv:FlsV w.s.spc.files)(hf:w.found[i]?=some f)(hx:w.r.items[i]?=some x)(hn:f.name.size≤100000)(ht:n.target.size≤100000)(hne:n.entries=[]):ACall Tryz.prog 150 [.bp 0 0, .v (.int .i64 (i:Int)), .agg (nodA n)] [WA w cap,IB w cap] (fun r b t=>t=[]∧r= .v (.int .i64 (createW w i n).2)∧b=[WA (createW w i n).1 cap,IB (createW w i n).1 cap]):=by
 have hrow:(w.found.map fndA)[i]?=some (fndA f):=by rw[List.getElem?_map,hf];rfl
 have hfn:fnK w i=f:=by unfold fnK;rw[hf];rfl
 have hmk:makeW w i n=mkL w.s.spc.files f.dir f.name (ownN w n):=by unfold makeW;rw[hfn]
 have hok:=make_okay hv f.dir f.name (ownN w n)
 rw[←hmk]at hok
 have hcall:AFn Tryz.prog 45 [.agg (flsA w.s.spc.files), .agg (filA f.dir), .v (.string f.name), .agg (nodA (ownN w n))] (fun r=>r=chgR (makeW w i n)):=by rw[hmk];exact Rmake _ _ _ _ hv hn ht
 refine enter Tryz.func150 rfl rfl rfl rfl rfl 2 rfl ?_
 refine w_ (b_ (h:=a_ (h:=e_ (q_ (yk_ ([(0,WA w cap),(1,IB w cap)]) 14 (h:=dm_ 0 (h:=dk_ 1 (h:=df_ 2 (h:=df_ 3 (h:=dl_ 4 (h:=dm_ 5 (h:=dk_ 6 (h:=df_ 7 (h:=df_ 8 (h:=dl_ 9 (h:=df_ 10 (h:=?_)))))))))))))))))
 refine c0_ 11 rfl (s_store rfl rfl rfl rfl rfl rfl (by repeat constructor) (by repeat constructor) ?_)
 refine o_ (h:=df_ 12 (h:=?_))
 refine c0_ 13 rfl (s_store rfl rfl rfl rfl rfl rfl (by repeat constructor) (by repeat constructor) ?_)
 refine o_ (h:=z_ (h:=t_ (q_ (yk_ ([(0,WA w cap),(1,IB w cap),(2,nodA (ownN w n))]) 28 (h:=dm_ 0 (h:=dm_ 1 (h:=dk_ 2 (h:=df_ 3 (h:=df_ 4 (h:=df_ 5 (h:=dl_ 6 (h:=dm_ 7 (h:=dk_ 8 (h:=df_ 9 (h:=dl_ 10 (h:=dm_ 11 (h:=di_ 12 (h:=df_ 13 (h:=dl_ 14 (h:=dm_ 15 (h:=dk_ 16 (h:=df_ 17 (h:=dl_ 18 (h:=?_))))))))))))))))))))))))
 refine dm_ 19 (h:=di_ 20 (h:=df_ 21 (h:=dl_ 22 (h:=dl_ 23 (h:=?_)))))
 refine c_ 24 rfl (q_call (hcall) ?_)
 rintro r rfl
 refine o_ (h:=dx_ 25 (h:=dx_ 26 (h:=dx_ 27 (h:=?_))))
 refine c_ 28 rfl (s_callM [0,1] rfl (.cons _ _ _ _ _ rfl (LeA.refl _) (.cons _ _ _ _ _ rfl (LeA.refl _) (.cons _ _ _ _ _ rfl (LeA.refl _) (.cons _ _ _ _ _ rfl (LeA.refl _) .nil)))) (by decide) (.cons _ _ _ _ _ rfl rfl (.cons _ _ _ _ _ rfl (ren_LB itmF _ _ _) .nil)) (Rfilesw w cap (makeW w i n).1 (makeW w i n).2.1 (makeW w i n).2.2) ?_)
 rintro r bc tc ⟨rfl,rfl,rfl⟩
 refine⟨rfl,_,back_W rfl (filesW w (makeW w i n)).1 cap,?_⟩
 refine o_ (h:=?_)
 refine c_ 29 rfl (st_assign rfl ?_)
 refine o_ (h:=z_ (h:=t_ (q_ (w_ (m_ (h:=eq_ (h:=e_ (?_))))))))
 refine aw_cond rfl (fun hb1=>?_) (fun hb1=>?_)
 ·have hc1:=bp hb1
  have h0:(makeW w i n).2.2=0:=hc1
  obtain⟨c,hc⟩:∃c,(makeW w i n).2.1=[c]:=by rw[hmk]at h0 ⊢;exact mk_one h0
  have hch:(filesW w (makeW w i n)).1.r.changes=[c]:=by rw[filesW_ok h0];exact hc
  have hx1:(filesW w (makeW w i n)).1.r.items[i]?=some x:=by rw[filesW_ok h0];exact hx
  have hfb:FlsB (filesW w (makeW w i n)).1.s.spc.files:=by rw[filesW_ok h0];exact(hok h0).1.b
  have hrow2:((filesW w (makeW w i n)).1.r.changes.map chgA)[0]?=some (chgA c):=by rw[hch];rfl
  refine aw_region (m_ (h:=m_ (h:=m_ (h:=k_ (h:=f_ (h:=f_ (h:=l_ (h:=?_))))))))
  refine al_p rfl (st_index (n:=0) rfl rfl rfl hrow2 ?_)
  refine f_ (h:=l_ (h:=?_))
  refine al_p rfl (s_callM [0,1] rfl (.cons _ _ _ _ _ rfl (LeA.refl _) (.cons _ _ _ _ _ rfl (LeA.refl _) (.cons _ _ _ _ _ rfl (LeA.refl _) .nil))) (by decide) (.cons _ _ _ _ _ rfl rfl (.cons _ _ _ _ _ rfl (ren_LB itmF _ _ _) .nil)) (Rmadew (filesW w (makeW w i n)).1 cap i c.2.2.2 x hfb hx1) ?_)
  rintro r bc tc ⟨rfl,rfl,rfl⟩
  refine⟨rfl,_,back_W rfl (madeW (filesW w (makeW w i n)).1 i c.2.2.2) cap,?_⟩
  refine e_ (w_ (m_ (h:=a_ (h:=e_ (aw_ret (?_))))))
  refine rt_ (r:= .v (.int .i64 (createW w i n).2)) none (h4:=(by simp[bpLtB,bpLtL,bpLt,bp_LB itmF,bp_wrk,WA,IB,fndS])) (h5:=(by rw[createW,if_pos h0];exact LeA.of_eq (vi h0))) (h6:=⟨rfl,rfl,?_⟩)
  rw[createW,if_pos h0,hc]
  rfl
 have hc1:=bp hb1
 have h0:¬(makeW w i n).2.2=0:=hc1
 refine kt_ (w_ (m_ (h:=a_ (h:=e_ (aw_ret (?_))))))
 refine rt_ (r:= .v (.int .i64 (createW w i n).2)) none (h4:=(by simp[bpLtB,bpLtL,bpLt,bp_LB itmF,bp_wrk,WA,IB,fndS])) (h5:=(by rw[createW,if_neg h0];exact LeA.refl _)) (h6:=⟨rfl,rfl,?_⟩)
 rw[createW,if_neg h0,filesW_no h0]
 rfl
theorem Ropenw(w:Wrk)(cap:Nat)(f:Fnd)(x:Itm)(hv:SpcV w.s.spc)(hm:w.s.spc.mounts.length≤1000)(htb:TabB w.s.tab)(hf:w.found[0]?=some f)(hx:w.r.items[0]?=some x)(hn:f.name.size≤100000):ACall Tryz.prog 114 [.bp 0 0] [WA w cap,IB w cap] (fun r b t=>t=[]∧r= .v (.int .i64 (openW w).2)∧b=[WA (openW w).1 cap,IB (openW w).1 cap]):=by
 have hsb:=hv.b hm
 have hrow:(w.found.map fndA)[0]?=some (fndA f):=by rw[List.getElem?_map,hf];rfl
 have hfn:fnK w 0=f:=by unfold fnK;rw[hf];rfl
 refine enter Tryz.func114 rfl rfl rfl rfl rfl 2 rfl ?_
 refine w_ (a_ (h:=e_ (q_ (yk_ ([(0,WA w cap),(1,IB w cap)]) 15 (h:=dm_ 0 (h:=dk_ 1 (h:=df_ 2 (h:=dl_ 3 (h:=di_ 4 (h:=dl_ 5 (h:=dm_ 6 (h:=dk_ 7 (h:=df_ 8 (h:=df_ 9 (h:=?_)))))))))))))))
 refine tk_ 10 rfl (fun _ hS=>st_indexB (len:=4) (sz:=1) (n:=0) (by kernel_rfl) rfl rfl rfl rfl ⟨rfl,rfl⟩) ?_
 refine dl_ 11 (h:=?_)
 refine c_ 12 rfl (s_alloc (by repeat constructor) ?_)
 refine o_ (h:=?_)
 refine c0_ 13 rfl (s_store rfl rfl rfl rfl rfl rfl (by repeat constructor) (by repeat constructor) ?_)
 refine o_ (h:=da_ 14 (h:=z_ (h:=t_ (?_))))
 refine aw_midI (fun s=>∃(w2:Wrk) (F2:Fnd),openW w=fdW w2 F2.file∧TabB w2.s.tab∧s=⟨look [(0, .bp 0 0),(3, .bp 2 0),(4, .v (.int .i64 w2.c.a0))],⟨[WA w2 cap,IB w2 cap,fndA F2],[]⟩⟩) ?_ ?_
 ·skip
  refine w_ (f_ (h:=l_ (h:=e_ (?_))))
  refine aw_cond rfl (fun hb1=>?_) (fun hb1=>?_)
  ·have hc1:=bp hb1
   have hex:(fnK w 0).ex=true:=by rw[hfn];exact hc1
   refine aw_midI (fun s=>s=⟨look [(0, .bp 0 0),(3, .bp 2 0),(4, .v (.int .i64 w.c.a0)),(5, .bp 3 0)],⟨[WA w cap,IB w cap,fndA f,nodA (nodG w.s.spc.files f.file)],[]⟩⟩) ?_ ?_
   ·skip
    refine yk_ ([(0,WA w cap),(1,IB w cap),(2,fndA f)]) 15 (h:=dm_ 0 (h:=dk_ 1 (h:=df_ 2 (h:=df_ 3 (h:=df_ 4 (h:=dl_ 5 (h:=df_ 6 (h:=dl_ 7 (h:=?_)))))))))
    refine c2_ 8 12 rfl rfl ?_ ?_
    ·refine q_call (Rnode w.s.spc.files f.file hsb.files) ?_
     rintro r rfl
     refine o_ (h:=?_)
     refine dm_ 9 (h:=dx_ 10 (h:=dx_ 11 (h:=?_)))
     refine c_ 12 rfl (s_alloc (by repeat constructor) ?_)
     refine o_ (h:=?_)
     refine c0_ 13 rfl (s_store rfl rfl rfl rfl rfl rfl (by repeat constructor) (by repeat constructor) ?_)
     refine o_ (h:=da_ 14 (h:=z_ (h:=?_)))
     refine x_then ?_
     exact⟨_,rfl,wb_ 4 0 (by simp[bpLtB,bpLtL,bpLt,bp_LB itmF,bp_wrk,WA,IB,fndS,fndA,nodA,filA])⟩
    refine s_alloc (by repeat constructor) ?_
    refine o_ (h:=?_)
    refine c_ 8 rfl (q_call (Rnode w.s.spc.files f.file hsb.files) ?_)
    rintro r rfl
    refine o_ (h:=dm_ 9 (h:=dx_ 10 (h:=dx_ 11 (h:=?_))))
    refine c0_ 13 rfl (s_store rfl rfl rfl rfl rfl rfl (by repeat constructor) (by repeat constructor) ?_)
    refine o_ (h:=da_ 14 (h:=z_ (h:=?_)))
    refine x_then ?_
    exact⟨_,rfl,wb_ 4 0 (by simp[bpLtB,bpLtL,bpLt,bp_LB itmF,bp_wrk,WA,IB,fndS,fndA,nodA,filA])⟩
   rintro s rfl
   refine w_ (a_ (h:=e_ (?_)))
   refine aw_midI (fun s=>s=⟨look [(0, .bp 0 0),(3, .bp 2 0),(4, .v (.int .i64 w.c.a0)),(5, .bp 3 0),(7, .v (.int .i64 (if flg w.c.a0 1=true then 4 else 0)))],⟨[WA w cap,IB w cap,fndA f,nodA (nodG w.s.spc.files f.file)],[]⟩⟩) ?_ ?_
   ·skip
    refine w_ (m_ (h:=an_ (h:=nq_ (h:=e_ (?_)))))
    refine aw_cond rfl (fun hb2=>?_) (fun hb2=>?_)
    ·have hc2:=bp hb2
     have k0:flg w.c.a0 1=true:=by simpa[flg]using hc2
     refine aw_region (m_ (h:=ad_ (h:=a_ (h:=al_nil (?_)))))
     refine x_then ?_
     refine⟨_,rfl,?_⟩
     first|(rw[if_pos k0];exact wb_ 4 0 (by simp[bpLtB,bpLtL,bpLt,bp_LB itmF,bp_wrk,WA,IB,fndS,fndA,nodA]))|(rw[if_neg k0];exact wb_ 4 0 (by simp[bpLtB,bpLtL,bpLt,bp_LB itmF,bp_wrk,WA,IB,fndS,fndA,nodA]))
    have hc2:=bp hb2
    have k0:¬flg w.c.a0 1=true:=by simpa[flg]using hc2
    refine aw_skip (?_)
    refine x_then ?_
    refine⟨_,rfl,?_⟩
    first|(rw[if_pos k0];exact wb_ 4 0 (by simp[bpLtB,bpLtL,bpLt,bp_LB itmF,bp_wrk,WA,IB,fndS,fndA,nodA]))|(rw[if_neg k0];exact wb_ 4 0 (by simp[bpLtB,bpLtL,bpLt,bp_LB itmF,bp_wrk,WA,IB,fndS,fndA,nodA]))
   rintro s rfl
   refine aw_midI (fun s=>s=⟨look [(0, .bp 0 0),(3, .bp 2 0),(4, .v (.int .i64 w.c.a0)),(5, .bp 3 0),(7, .v (.int .i64 (wantK w.c.a0)))],⟨[WA w cap,IB w cap,fndA f,nodA (nodG w.s.spc.files f.file)],[]⟩⟩) ?_ ?_
   ·skip
    refine w_ (m_ (h:=an_ (h:=nq_ (h:=e_ (?_)))))
    refine aw_cond rfl (fun hb3=>?_) (fun hb3=>?_)
    ·have hc3:=bp hb3
     have k00:flg w.c.a0 18=true:=by simpa[flg]using hc3
     refine aw_region (m_ (h:=ad_ (h:=a_ (h:=al_nil (?_)))))
     refine x_then ?_
     refine⟨_,rfl,?_⟩
     unfold wantK
     first|(rw[if_pos k00];exact wb_ 4 0 (by simp[bpLtB,bpLtL,bpLt,bp_LB itmF,bp_wrk,WA,IB,fndS,fndA,nodA]))|(rw[if_neg k00,Int.add_zero];exact wb_ 4 0 (by simp[bpLtB,bpLtL,bpLt,bp_LB itmF,bp_wrk,WA,IB,fndS,fndA,nodA]))
    have hc3:=bp hb3
    have k00:¬flg w.c.a0 18=true:=by simpa[flg]using hc3
    refine aw_skip (?_)
    refine x_then ?_
    refine⟨_,rfl,?_⟩
    unfold wantK
    first|(rw[if_pos k00];exact wb_ 4 0 (by simp[bpLtB,bpLtL,bpLt,bp_LB itmF,bp_wrk,WA,IB,fndS,fndA,nodA]))|(rw[if_neg k00,Int.add_zero];exact wb_ 4 0 (by simp[bpLtB,bpLtL,bpLt,bp_LB itmF,bp_wrk,WA,IB,fndS,fndA,nodA]))
   rintro s rfl
   refine aw_block (?_)
   refine aw_midI (fun s=>s=⟨look [(0, .bp 0 0),(3, .bp 2 0),(4, .v (.int .i64 w.c.a0)),(5, .bp 3 0),(7, .v (.int .i64 (wantK w.c.a0))),(48, .v (.bool (flg w.c.a0 4&&flg w.c.a0 8)))],⟨[WA w cap,IB w cap,fndA f,nodA (nodG w.s.spc.files f.file)],[]⟩⟩) ?_ ?_
   ·skip
    refine aw_region (m_ (h:=an_ (h:=nq_ (h:=m_ (h:=?_)))))
    refine al_gs true rfl rfl (fun hb4=>?_) (fun hb4=>?_)
    ·have hc4:=bp hb4
     refine m_ (h:=an_ (h:=nq_ (h:=pt_ (h:=a_ (h:=al_nil (?_))))))
     refine x_then ?_
     exact⟨_,rfl,weak_of 4 0 rfl rfl rfl (by simp[bpLtB,bpLtL,bpLt,bp_LB itmF,bp_wrk,WA,IB,fndS,fndA,nodA]) (by repeat (first|exact Sub.nil|refine Sub.cons _ _ _ rfl rfl ?_|refine Sub.any _ _ ?_|refine Sub.sl _ _ _ _ _ rfl ?_|refine Sub.slnil _ _ _ rfl ?_|(apply Sub.of;(focus exact rfl);(focus exact LeA.of_eq (vb (by simp[flg,*])));(focus exact rfl))))⟩
    have hc4:=bp hb4
    refine g0_ (h:=g0_ (h:=g0_ (h:=pf_ (h:=a_ (h:=al_nil (?_))))))
    refine x_then ?_
    exact⟨_,rfl,weak_of 4 0 rfl rfl rfl (by simp[bpLtB,bpLtL,bpLt,bp_LB itmF,bp_wrk,WA,IB,fndS,fndA,nodA]) (by repeat (first|exact Sub.nil|refine Sub.cons _ _ _ rfl rfl ?_|refine Sub.any _ _ ?_|refine Sub.sl _ _ _ _ _ rfl ?_|refine Sub.slnil _ _ _ rfl ?_|(apply Sub.of;(focus exact rfl);(focus exact LeA.of_eq (vb (by simp[flg,*])));(focus exact rfl))))⟩
   rintro s rfl
   refine aw_cond rfl (fun hb5=>?_) (fun hb5=>?_)
   ·have hc5:=bp hb5
    have k1:flg w.c.a0 4=true∧flg w.c.a0 8=true:=by simpa using hc5
    refine w_ (a_ (h:=e_ (aw_ret (x_blockR (x_thenR (?_))))))
    refine rt_ (r:= .v (.int .i64 (openW w).2)) none (h4:=(by simp[bpLtB,bpLtL,bpLt,bp_LB itmF,bp_wrk,WA,IB,fndS])) (h5:=(by rw[openW,if_pos hex,if_pos k1];exact LeA.refl _)) (h6:=⟨rfl,rfl,?_⟩)
    rw[openW,if_pos hex,if_pos k1]
    rfl
   have hc5:=bp hb5
   have k1:¬(flg w.c.a0 4=true∧flg w.c.a0 8=true):=by simpa using hc5
   refine w_ (f_ (h:=l_ (h:=eq_ (h:=a_ (h:=e_ (?_))))))
   refine aw_cond rfl (fun hb6=>?_) (fun hb6=>?_)
   ·have hc6:=bp hb6
    have k2:(nodG w.s.spc.files (fnK w 0).file).kind=3:=by rw[hfn];exact hc6
    refine w_ (a_ (h:=e_ (aw_ret (x_blockR (x_thenR (?_))))))
    refine rt_ (r:= .v (.int .i64 (openW w).2)) none (h4:=(by simp[bpLtB,bpLtL,bpLt,bp_LB itmF,bp_wrk,WA,IB,fndS])) (h5:=(by rw[openW,if_pos hex,if_neg k1,if_pos k2];exact LeA.refl _)) (h6:=⟨rfl,rfl,?_⟩)
    rw[openW,if_pos hex,if_neg k1,if_pos k2]
    rfl
   have hc6:=bp hb6
   have k2:¬(nodG w.s.spc.files (fnK w 0).file).kind=3:=by rw[hfn];exact hc6
   refine aw_midI (fun s=>s=⟨look [(0, .bp 0 0),(3, .bp 2 0),(4, .v (.int .i64 w.c.a0)),(5, .bp 3 0),(7, .v (.int .i64 (wantK w.c.a0))),(61, .v (.bool (decide ((nodG w.s.spc.files f.file).kind=2)&&flg w.c.a0 22)))],⟨[WA w cap,IB w cap,fndA f,nodA (nodG w.s.spc.files f.file)],[]⟩⟩) ?_ ?_
   ·skip
    refine aw_region (f_ (h:=l_ (h:=eq_ (h:=m_ (h:=?_)))))
    refine al_gs true rfl rfl (fun hb7=>?_) (fun hb7=>?_)
    ·have hc7:=bp hb7
     refine m_ (h:=an_ (h:=nq_ (h:=pt_ (h:=a_ (h:=al_nil (?_))))))
     refine x_then ?_
     exact⟨_,rfl,weak_of 4 0 rfl rfl rfl (by simp[bpLtB,bpLtL,bpLt,bp_LB itmF,bp_wrk,WA,IB,fndS,fndA,nodA]) (by repeat (first|exact Sub.nil|refine Sub.cons _ _ _ rfl rfl ?_|refine Sub.any _ _ ?_|refine Sub.sl _ _ _ _ _ rfl ?_|refine Sub.slnil _ _ _ rfl ?_|(apply Sub.of;(focus exact rfl);(focus exact LeA.of_eq (vb (by simp[flg,*])));(focus exact rfl))))⟩
    have hc7:=bp hb7
    refine g0_ (h:=g0_ (h:=g0_ (h:=pf_ (h:=a_ (h:=al_nil (?_))))))
    refine x_then ?_
    exact⟨_,rfl,weak_of 4 0 rfl rfl rfl (by simp[bpLtB,bpLtL,bpLt,bp_LB itmF,bp_wrk,WA,IB,fndS,fndA,nodA]) (by repeat (first|exact Sub.nil|refine Sub.cons _ _ _ rfl rfl ?_|refine Sub.any _ _ ?_|refine Sub.sl _ _ _ _ _ rfl ?_|refine Sub.slnil _ _ _ rfl ?_|(apply Sub.of;(focus exact rfl);(focus exact LeA.of_eq (vb (by simp[flg,*])));(focus exact rfl))))⟩
   rintro s rfl
   refine aw_cond rfl (fun hb8=>?_) (fun hb8=>?_)
   ·have hc8:=bp hb8
    have k3:(nodG w.s.spc.files (fnK w 0).file).kind=2∧flg w.c.a0 22=true:=by rw[hfn];simpa using hc8
    refine w_ (a_ (h:=e_ (aw_ret (x_blockR (x_thenR (?_))))))
    refine rt_ (r:= .v (.int .i64 (openW w).2)) none (h4:=(by simp[bpLtB,bpLtL,bpLt,bp_LB itmF,bp_wrk,WA,IB,fndS])) (h5:=(by rw[openW,if_pos hex,if_neg k1,if_neg k2,if_pos k3];exact LeA.refl _)) (h6:=⟨rfl,rfl,?_⟩)
    rw[openW,if_pos hex,if_neg k1,if_neg k2,if_pos k3]
    rfl
   have hc8:=bp hb8
   have k3:¬((nodG w.s.spc.files (fnK w 0).file).kind=2∧flg w.c.a0 22=true):=by rw[hfn];simpa using hc8
   refine w_ (m_ (h:=f_ (h:=l_ (h:=m_ (h:=?_)))))
   refine al_p rfl (s_callR 1 rfl (.cons _ _ _ _ _ rfl (LeA.of_eq rfl) (.cons _ _ _ _ _ rfl (LeA.refl _) (.cons _ _ _ _ _ rfl (LeA.refl _) .nil))) (Rmayw w .any f.file (wantK w.c.a0) hsb) ?_)
   rintro r rfl
   refine⟨rfl,?_⟩
   refine nt_ (h:=a_ (h:=e_ (?_)))
   refine aw_cond rfl (fun hb9=>?_) (fun hb9=>?_)
   ·have hc9:=bp hb9
    have k4:mayW w (fnK w 0).file (wantK w.c.a0)=false:=by rw[hfn];simpa using hc9
    refine w_ (a_ (h:=e_ (aw_ret (x_blockR (x_thenR (?_))))))
    refine rt_ (r:= .v (.int .i64 (openW w).2)) none (h4:=(by simp[bpLtB,bpLtL,bpLt,bp_LB itmF,bp_wrk,WA,IB,fndS])) (h5:=(by rw[openW,if_pos hex,if_neg k1,if_neg k2,if_neg k3,if_pos k4];exact LeA.refl _)) (h6:=⟨rfl,rfl,?_⟩)
    rw[openW,if_pos hex,if_neg k1,if_neg k2,if_neg k3,if_pos k4]
    rfl
   have hc9:=bp hb9
   have k4:¬mayW w (fnK w 0).file (wantK w.c.a0)=false:=by rw[hfn];simpa using hc9
   refine aw_skip (x_blockN (?_))
   refine x_then ?_
   first|exact⟨_,⟨w,f,(by rw[openW,if_pos hex,if_neg k1,if_neg k2,if_neg k3,if_neg k4,hfn]),htb,rfl⟩,wb_ 3 0 (by simp[bpLtB,bpLtL,bpLt,bp_LB itmF,bp_wrk,WA,IB,fndS,fndA])⟩|(obtain⟨q1,q2,q3⟩:=createW_keep w 0 (fileN w.c.a1);exact⟨_,⟨(createW w 0 (fileN w.c.a1)).1,{f with file:=c.2.2.2},(by rw[openW,if_neg hex,if_neg k1,if_neg k2,if_neg k3,if_neg (by simp[k4]),hc];rfl),by rw[q1];exact htb,rfl⟩,by rw[q3];exact wb_ 3 0 (by simp[bpLtB,bpLtL,bpLt,bp_LB itmF,bp_wrk,WA,IB,fndS,fndA])⟩)
  have hc1:=bp hb1
  have hex:¬(fnK w 0).ex=true:=by rw[hfn];simpa using hc1
  refine q_ (aw_block (w_ (m_ (h:=an_ (h:=eq_ (h:=a_ (h:=e_ (?_))))))))
  refine aw_cond rfl (fun hb10=>?_) (fun hb10=>?_)
  ·have hc10:=bp hb10
   have k1:flg w.c.a0 4=false:=by simp only[flg];simpa using hc10
   refine w_ (a_ (h:=e_ (aw_ret (x_blockR (x_thenR (x_thenR (?_)))))))
   refine rt_ (r:= .v (.int .i64 (openW w).2)) none (h4:=(by simp[bpLtB,bpLtL,bpLt,bp_LB itmF,bp_wrk,WA,IB,fndS])) (h5:=(by rw[openW,if_neg hex,if_pos k1];exact LeA.refl _)) (h6:=⟨rfl,rfl,?_⟩)
   rw[openW,if_neg hex,if_pos k1]
   rfl
  have hc10:=bp hb10
  have k1:¬flg w.c.a0 4=false:=by simp only[flg];simpa using hc10
  refine w_ (f_ (h:=l_ (h:=a_ (h:=e_ (?_)))))
  refine aw_cond rfl (fun hb11=>?_) (fun hb11=>?_)
  ·have hc11:=bp hb11
   have k2:(fnK w 0).slash=true:=by rw[hfn];exact hc11
   refine w_ (a_ (h:=e_ (aw_ret (x_blockR (x_thenR (x_thenR (?_)))))))
   refine rt_ (r:= .v (.int .i64 (openW w).2)) none (h4:=(by simp[bpLtB,bpLtL,bpLt,bp_LB itmF,bp_wrk,WA,IB,fndS])) (h5:=(by rw[openW,if_neg hex,if_neg k1,if_pos k2];exact LeA.refl _)) (h6:=⟨rfl,rfl,?_⟩)
   rw[openW,if_neg hex,if_neg k1,if_pos k2]
   rfl
  have hc11:=bp hb11
  have k2:¬(fnK w 0).slash=true:=by rw[hfn];simpa using hc11
  refine w_ (m_ (h:=f_ (h:=l_ (h:=?_))))
  refine al_p rfl (s_callR 1 rfl (.cons _ _ _ _ _ rfl (LeA.of_eq rfl) (.cons _ _ _ _ _ rfl (LeA.refl _) (.cons _ _ _ _ _ rfl (LeA.refl _) .nil))) (Rmayw w .any f.dir 2 hsb) ?_)
  rintro r rfl
  refine⟨rfl,?_⟩
  refine nt_ (h:=a_ (h:=e_ (?_)))
  refine aw_cond rfl (fun hb12=>?_) (fun hb12=>?_)
  ·have hc12:=bp hb12
   have k3:mayW w (fnK w 0).dir 2=false:=by rw[hfn];simpa using hc12
   refine w_ (a_ (h:=e_ (aw_ret (x_blockR (x_thenR (x_thenR (?_)))))))
   refine rt_ (r:= .v (.int .i64 (openW w).2)) none (h4:=(by simp[bpLtB,bpLtL,bpLt,bp_LB itmF,bp_wrk,WA,IB,fndS])) (h5:=(by rw[openW,if_neg hex,if_neg k1,if_neg k2,if_pos k3];exact LeA.refl _)) (h6:=⟨rfl,rfl,?_⟩)
   rw[openW,if_neg hex,if_neg k1,if_neg k2,if_pos k3]
   rfl
  have hc12:=bp hb12
  have k3:¬mayW w (fnK w 0).dir 2=false:=by rw[hfn];simpa using hc12
  refine aw_skip (x_blockN (t_ (q_ (w_ (m_ (h:=m_ (h:=k_ (h:=f_ (h:=f_ (h:=?_))))))))))
  refine al_p rfl (st_indexB (len:=4) (sz:=1) (n:=1) (by kernel_rfl) rfl rfl rfl rfl ?_)
  refine l_ (h:=?_)
  refine al_p rfl (lf_ (y:= .agg (nodA (fileN w.c.a1))) (bz_ ⟨rfl,rfl⟩) ?_)
  refine al_p rfl (s_callM [0,1] rfl (.cons _ _ _ _ _ rfl (LeA.refl _) (.cons _ _ _ _ _ rfl (LeA.refl _) (.cons _ _ _ _ _ rfl (LeA.refl _) .nil))) (by decide) (.cons _ _ _ _ _ rfl rfl (.cons _ _ _ _ _ rfl (ren_LB itmF _ _ _) .nil)) (Rcreatew w cap 0 (fileN w.c.a1) f x hv.files hf hx hn (Nat.zero_le _) rfl) ?_)
  rintro r bc tc ⟨rfl,rfl,rfl⟩
  refine⟨rfl,_,back_W rfl (createW w 0 (fileN w.c.a1)).1 cap,?_⟩
  refine a_ (h:=e_ (w_ (m_ (h:=nq_ (h:=e_ (?_))))))
  refine aw_cond rfl (fun hb13=>?_) (fun hb13=>?_)
  ·have hc13:=bp hb13
   have k4:(createW w 0 (fileN w.c.a1)).2≠0:=by simpa using hc13
   refine w_ (m_ (h:=a_ (h:=e_ (aw_ret (x_thenR (x_thenR (?_)))))))
   refine rt_ (r:= .v (.int .i64 (openW w).2)) none (h4:=(by simp[bpLtB,bpLtL,bpLt,bp_LB itmF,bp_wrk,WA,IB,fndS])) (h5:=(by rw[openW,if_neg hex,if_neg k1,if_neg k2,if_neg k3,if_pos k4];exact LeA.refl _)) (h6:=⟨rfl,rfl,?_⟩)
   rw[openW,if_neg hex,if_neg k1,if_neg k2,if_neg k3,if_pos k4]
   rfl
  have hc13:=bp hb13
  have k4:(createW w 0 (fileN w.c.a1)).2=0:=by simpa using hc13
  obtain⟨c,hc⟩:=createW_one k4
  have hrow2:((createW w 0 (fileN w.c.a1)).1.r.changes.map chgA)[0]?=some (chgA c):=by rw[hc];rfl
  refine kt_ (aw_region (m_ (h:=k_ (h:=f_ (h:=f_ (h:=l_ (h:=?_)))))))
  refine al_p rfl (st_index (n:=0) rfl rfl rfl hrow2 ?_)
  refine f_ (h:=l_ (h:=f_ (h:=s_ (h:=al_nil (?_)))))
  refine x_then ?_
  first|exact⟨_,⟨w,f,(by rw[openW,if_pos hex,if_neg k1,if_neg k2,if_neg k3,if_neg k4,hfn]),htb,rfl⟩,wb_ 3 0 (by simp[bpLtB,bpLtL,bpLt,bp_LB itmF,bp_wrk,WA,IB,fndS,fndA])⟩|(obtain⟨q1,q2,q3⟩:=createW_keep w 0 (fileN w.c.a1);exact⟨_,⟨(createW w 0 (fileN w.c.a1)).1,{f with file:=c.2.2.2},(by rw[openW,if_neg hex,if_neg k1,if_neg k2,if_neg k3,if_neg (by simp[k4]),hc];rfl),by rw[q1];exact htb,rfl⟩,by rw[q3];exact wb_ 3 0 (by simp[bpLtB,bpLtL,bpLt,bp_LB itmF,bp_wrk,WA,IB,fndS,fndA])⟩)
 rintro s ⟨w2,F2,hop,htb2,rfl⟩
 refine aw_midI (fun s=>s=⟨look [(0, .bp 0 0),(9, .bp 3 0),(10, .v (.int .i64 (openT w2.s.tab w2.p.pid F2.file w2.c.a0).2.1)),(11, .v (.int .i64 (openT w2.s.tab w2.p.pid F2.file w2.c.a0).2.2))],⟨[WA w2 cap,IB w2 cap,fndA F2,tabA (openT w2.s.tab w2.p.pid F2.file w2.c.a0).1],[]⟩⟩) ?_ ?_
 ·skip
  refine yk_ ([(0,WA w2 cap),(1,IB w2 cap),(2,fndA F2)]) 22 (h:=dm_ 0 (h:=dk_ 1 (h:=df_ 2 (h:=df_ 3 (h:=dl_ 4 (h:=dm_ 5 (h:=dk_ 6 (h:=df_ 7 (h:=df_ 8 (h:=dl_ 9 (h:=df_ 10 (h:=dl_ 11 (h:=dm_ 12 (h:=?_))))))))))))))
  refine c2_ 13 18 rfl rfl ?_ ?_
  ·refine q_call (Ropen w2.s.tab w2.p.pid F2.file w2.c.a0 htb2) ?_
   rintro r rfl
   refine o_ (h:=?_)
   refine dm_ 14 (h:=dx_ 15 (h:=dx_ 16 (h:=dx_ 17 (h:=?_))))
   refine c_ 18 rfl (s_alloc (by repeat constructor) ?_)
   refine o_ (h:=?_)
   refine c0_ 19 rfl (s_store rfl rfl rfl rfl rfl rfl (by repeat constructor) (by repeat constructor) ?_)
   refine o_ (h:=da_ 20 (h:=da_ 21 (h:=z_ (h:=?_))))
   refine x_then ?_
   exact⟨_,rfl,wb_ 4 0 (by simp[bpLtB,bpLtL,bpLt,bp_LB itmF,bp_wrk,WA,IB,fndS,fndA,tabA])⟩
  refine s_alloc (by repeat constructor) ?_
  refine o_ (h:=?_)
  refine c_ 13 rfl (q_call (Ropen w2.s.tab w2.p.pid F2.file w2.c.a0 htb2) ?_)
  rintro r rfl
  refine o_ (h:=dm_ 14 (h:=dx_ 15 (h:=dx_ 16 (h:=dx_ 17 (h:=?_)))))
  refine c0_ 19 rfl (s_store rfl rfl rfl rfl rfl rfl (by repeat constructor) (by repeat constructor) ?_)
  refine o_ (h:=da_ 20 (h:=da_ 21 (h:=z_ (h:=?_))))
  refine x_then ?_
  exact⟨_,rfl,wb_ 4 0 (by simp[bpLtB,bpLtL,bpLt,bp_LB itmF,bp_wrk,WA,IB,fndS,fndA,tabA])⟩
 rintro s rfl
 refine w_ (m_ (h:=m_ (h:=k_ (h:=f_ (h:=f_ (h:=s_ (h:=e_ (w_ (m_ (h:=l_ (h:=m_ (h:=?_))))))))))))
 refine al_p rfl (s_callM [0,1] rfl (.cons _ _ _ _ _ rfl (LeA.refl _) (.cons _ _ _ _ _ rfl (LeA.refl _) (.cons _ _ _ _ _ rfl (LeA.refl _) .nil))) (by decide) (.cons _ _ _ _ _ rfl rfl (.cons _ _ _ _ _ rfl (ren_LB itmF _ _ _) .nil)) (Rtablew (exitW w2 (openT w2.s.tab w2.p.pid F2.file w2.c.a0).2.1) cap (openT w2.s.tab w2.p.pid F2.file w2.c.a0).1 (openT w2.s.tab w2.p.pid F2.file w2.c.a0).2.2) ?_)
 rintro r bc tc ⟨rfl,rfl,rfl⟩
 refine⟨rfl,_,back_W rfl (fdW w2 F2.file).1 cap,?_⟩
 refine a_ (h:=e_ (aw_ret (?_)))
 refine rt_ (r:= .v (.int .i64 (openW w).2)) none (h4:=(by simp[bpLtB,bpLtL,bpLt,bp_LB itmF,bp_wrk,WA,IB,fndS])) (h5:=(by rw[hop,fdW,tableW_e];exact LeA.refl _)) (h6:=⟨rfl,rfl,?_⟩)
 rw[hop]
 rfl
end
theorem busy_iff{e:Int}{y x:Fil}{c d:Bool}:(decide (e=0)&& !decide ((y.1,y.2)=(x.1,x.2))&&c&&d)=true↔(e=0∧y≠x∧c=true∧d=true):=by
 have:decide ((y.1,y.2)=(x.1,x.2))=decide (y=x):=rfl
 rw[this]
 simp[and_assoc]
theorem movW_yes{w:Wrk}{R:ChgRes}{x:Fil}(h:(decide (R.2.2=0)&&decide (0<(R.2.1.length:Int)))=true):movW w R x=(madeW (roleW (filesW w R).1 0 3) 1 x,R.2.2):=by
 rw[Bool.and_eq_true]at h
 have h1:=of_decide_eq_true h.1
 unfold movW
 rw[if_neg (by simp[h1]),if_pos (of_decide_eq_true h.2),h1]
theorem movW_not{w:Wrk}{R:ChgRes}{x:Fil}(h:(decide (R.2.2=0)&&decide (0<(R.2.1.length:Int)))=false):movW w R x=((filesW w R).1,R.2.2):=by
 unfold movW
 by_cases h0:R.2.2=0
 ·rw[if_neg (by simp[h0]),if_neg (by simpa[h0]using h),h0]
 rw[if_pos h0,filesW_no h0]
theorem role_WA(w:Wrk)(i:Nat)(r:Int)(cap:Nat):WA (roleW w i r) cap=WA w cap:=by
 unfold WA roleW
 simp only[List.length_modify]
 rfl
theorem role_IB{w:Wrk}{i:Nat}{x:Itm}(hx:w.r.items[i]?=some x)(r:Int)(cap:Nat):IB (roleW w i r) cap=LB 13 itmK (w.r.items.set i {x with role:=r}) cap:=by
 unfold IB roleW
 rw[modify_set hx]
section
set_option maxRecDepth 10000
set_option maxHeartbeats 4000000
theorem Rrenamew(w:Wrk)(cap:Nat)(f g:Fnd)(x0 x1:Itm)(hv:SpcV w.s.spc)(hm:w.s.spc.mounts.length≤1000)(hps:w.s.tab.ps.length≤1000)(hf:w.found[0]?=some f)(hg:w.found[1]?=some g)(hx0:w.r.items[0]?=some x0)(hx1:w.r.items[1]?=some x1)(hn:f.name.size≤100000)(hn2:g.name.size≤100000):ACall Tryz.prog 117 [.bp 0 0] [WA w cap,IB w cap] (fun r b t=>t=[]∧r= .v (.int .i64 (renameW w).2)∧b=[WA (renameW w).1 cap,IB (renameW w).1 cap]):=by
 have hsb:=hv.b hm
 have hrow0:(w.found.map fndA)[0]?=some (fndA f):=by rw[List.getElem?_map,hf];rfl
 have hrow1:(w.found.map fndA)[1]?=some (fndA g):=by rw[List.getElem?_map,hg];rfl
 have hfn:fnK w 0=f:=by unfold fnK;rw[hf];rfl
 have hgn:fnK w 1=g:=by unfold fnK;rw[hg];rfl
 have hil:0<w.r.items.length:=(List.getElem?_eq_some_iff.1 hx0).1
 obtain⟨R,hR⟩:∃R,R=renameL w.s.spc.files f.dir f.name g.dir g.name:=⟨_,rfl⟩
 have hok:=rename_okay hv.files f.dir f.name g.dir g.name
 rw[←hR]at hok
 have hcall:AFn Tryz.prog 39 [.agg (flsA w.s.spc.files), .agg (filA f.dir), .v (.string f.name), .agg (filA g.dir), .v (.string g.name)] (fun r=>r=chgR R):=by rw[hR];exact Rrename _ _ _ _ _ hv.files hn hn2
 obtain⟨x,hxd⟩:∃x,x=(lookL w.s.spc.files f.dir f.name).1:=⟨_,rfl⟩
 obtain⟨y,hyd⟩:∃y,y=(lookL w.s.spc.files g.dir g.name).1:=⟨_,rfl⟩
 have hl1:AFn Tryz.prog 38 [.agg (flsA w.s.spc.files), .agg (filA f.dir), .v (.string f.name)] (fun r=>r= .tup [.agg (filA x), .v (.int .i64 (lookL w.s.spc.files f.dir f.name).2)]):=by rw[hxd];exact Rlook _ _ _ hsb.files
 have hl2:AFn Tryz.prog 38 [.agg (flsA w.s.spc.files), .agg (filA g.dir), .v (.string g.name)] (fun r=>r= .tup [.agg (filA y), .v (.int .i64 (lookL w.s.spc.files g.dir g.name).2)]):=by rw[hyd];exact Rlook _ _ _ hsb.files
 obtain⟨e2,he2⟩:∃e,e=(lookL w.s.spc.files g.dir g.name).2:=⟨_,rfl⟩
 rw[←he2]at hl2
 have hren:renameW w=if f.ex=false then(w,2)else if f.name=⟨#[]⟩∨g.name=⟨#[]⟩then(w,16)else if g.slash=true∧dirL w.s.spc.files f.file=false then(w,20)else if f.dir.1≠g.dir.1 then(w,18)else if mayW w f.dir 2=false∨mayW w g.dir 2=false then(w,13)else if e2=0∧y≠x∧dirL w.s.spc.files y=true∧usedW w y=true then(w,16)else movW w R x:=by
  unfold renameW dirW
  rw[hfn,hgn,←hxd,←hyd,←he2,←hR]
 clear hxd hyd he2 hR
 refine enter Tryz.func117 rfl rfl rfl rfl rfl 2 rfl ?_
 refine w_ (a_ (h:=e_ (?_)))
 refine aw_midI (fun s=>s=⟨look [(0, .bp 0 0),(3, .bp 2 0),(4, .bp 3 0)],⟨[WA w cap,IB w cap,fndA f,fndA g],[]⟩⟩) ?_ ?_
 ·skip
  refine yk_ ([(0,WA w cap)]) 16 (h:=dm_ 0 (h:=dk_ 1 (h:=df_ 2 (h:=dl_ 3 (h:=?_)))))
  refine tk_ 4 rfl (fun _ hS=>st_index (n:=0) rfl rfl rfl hrow0 ⟨rfl,rfl⟩) ?_
  refine dl_ 5 (h:=dm_ 6 (h:=dk_ 7 (h:=df_ 8 (h:=dl_ 9 (h:=?_)))))
  refine tk_ 10 rfl (fun _ hS=>st_index (n:=1) rfl rfl rfl hrow1 ⟨rfl,rfl⟩) ?_
  refine dl_ 11 (h:=?_)
  refine c2_ 12 13 rfl rfl ?_ ?_
  ·refine s_alloc (by repeat constructor) ?_
   refine o_ (h:=?_)
   refine c_ 13 rfl (s_alloc (by repeat constructor) ?_)
   refine o_ (h:=?_)
   refine c0_ 14 rfl (s_store rfl rfl rfl rfl rfl rfl (by repeat constructor) (by repeat constructor) ?_)
   refine o_ (h:=?_)
   refine c0_ 15 rfl (s_store rfl rfl rfl rfl rfl rfl (by repeat constructor) (by repeat constructor) ?_)
   refine o_ (h:=z_ (h:=?_))
   refine x_then ?_
   first|exact⟨_,rfl,wb_ 4 0 (by simp[bpLtB,bpLtL,bpLt,bp_LB itmF,bp_wrk,WA,IB,fndS,fndA])⟩|exact⟨_,rfl,weak_ren [0,1,3,2] ni2 (by decide) (.cons _ _ _ _ _ rfl rfl (.cons _ _ _ _ _ rfl (renK_LB itmF _ _ _) (.cons _ _ _ _ _ rfl rfl (.cons _ _ _ _ _ rfl rfl .nil)))) (by repeat (first|exact SubK.nil|refine SubK.cons _ _ _ _ rfl (LeA.refl _) ?_))⟩
  refine s_alloc (by repeat constructor) ?_
  refine o_ (h:=?_)
  refine c_ 12 rfl (s_alloc (by repeat constructor) ?_)
  refine o_ (h:=?_)
  refine c0_ 14 rfl (s_store rfl rfl rfl rfl rfl rfl (by repeat constructor) (by repeat constructor) ?_)
  refine o_ (h:=?_)
  refine c0_ 15 rfl (s_store rfl rfl rfl rfl rfl rfl (by repeat constructor) (by repeat constructor) ?_)
  refine o_ (h:=z_ (h:=?_))
  refine x_then ?_
  first|exact⟨_,rfl,wb_ 4 0 (by simp[bpLtB,bpLtL,bpLt,bp_LB itmF,bp_wrk,WA,IB,fndS,fndA])⟩|exact⟨_,rfl,weak_ren [0,1,3,2] ni2 (by decide) (.cons _ _ _ _ _ rfl rfl (.cons _ _ _ _ _ rfl (renK_LB itmF _ _ _) (.cons _ _ _ _ _ rfl rfl (.cons _ _ _ _ _ rfl rfl .nil)))) (by repeat (first|exact SubK.nil|refine SubK.cons _ _ _ _ rfl (LeA.refl _) ?_))⟩
 rintro s rfl
 refine q_ (aw_block (w_ (f_ (h:=l_ (h:=nt_ (h:=a_ (h:=e_ (?_))))))))
 refine aw_cond rfl (fun hb1=>?_) (fun hb1=>?_)
 ·have hc1:=bp hb1
  have k1:f.ex=false:=by simpa using hc1
  refine w_ (a_ (h:=e_ (aw_ret (x_blockR (x_thenR (?_))))))
  refine rt_ (r:= .v (.int .i64 (renameW w).2)) none (h4:=(by simp[bpLtB,bpLtL,bpLt,bp_LB itmF,bp_wrk,WA,IB,fndS])) (h5:=(by rw[hren,if_pos k1];exact LeA.refl _)) (h6:=⟨rfl,rfl,?_⟩)
  rw[hren,if_pos k1]
  rfl
 have hc1:=bp hb1
 have k1:¬f.ex=false:=by simpa using hc1
 refine aw_midI (fun s=>s=⟨look [(0, .bp 0 0),(3, .bp 2 0),(4, .bp 3 0),(26, .v (.bool (decide (f.name=⟨#[]⟩)||decide (g.name=⟨#[]⟩))))],⟨[WA w cap,IB w cap,fndA f,fndA g],[]⟩⟩) ?_ ?_
 ·skip
  refine aw_region (f_ (h:=l_ (h:=eq_ (h:=m_ (h:=?_)))))
  refine al_gs false rfl rfl (fun hb2=>?_) (fun hb2=>?_)
  ·have hc2:=bp hb2
   refine g0_ (h:=g0_ (h:=g0_ (h:=pt_ (h:=a_ (h:=al_nil (?_))))))
   refine x_then ?_
   exact⟨_,rfl,wc_ 4 0 (by simp[bpLtB,bpLtL,bpLt,bp_LB itmF,bp_wrk,WA,IB,fndS,fndA])⟩
  have hc2:=bp hb2
  refine f_ (h:=l_ (h:=eq_ (h:=pf_ (h:=a_ (h:=al_nil (?_))))))
  refine x_then ?_
  exact⟨_,rfl,wc_ 4 0 (by simp[bpLtB,bpLtL,bpLt,bp_LB itmF,bp_wrk,WA,IB,fndS,fndA])⟩
 rintro s rfl
 refine aw_cond rfl (fun hb3=>?_) (fun hb3=>?_)
 ·have hc3:=bp hb3
  have k2:f.name=⟨#[]⟩∨g.name=⟨#[]⟩:=by simpa using hc3
  refine w_ (a_ (h:=e_ (aw_ret (x_blockR (x_thenR (?_))))))
  refine rt_ (r:= .v (.int .i64 (renameW w).2)) none (h4:=(by simp[bpLtB,bpLtL,bpLt,bp_LB itmF,bp_wrk,WA,IB,fndS])) (h5:=(by rw[hren,if_neg k1,if_pos k2];exact LeA.refl _)) (h6:=⟨rfl,rfl,?_⟩)
  rw[hren,if_neg k1,if_pos k2]
  rfl
 have hc3:=bp hb3
 have k2:¬(f.name=⟨#[]⟩∨g.name=⟨#[]⟩):=by simpa using hc3
 refine aw_midI (fun s=>s=⟨look [(0, .bp 0 0),(3, .bp 2 0),(4, .bp 3 0),(35, .v (.bool (g.slash&& !dirL w.s.spc.files f.file)))],⟨[WA w cap,IB w cap,fndA f,fndA g],[]⟩⟩) ?_ ?_
 ·skip
  refine aw_region (f_ (h:=l_ (h:=m_ (h:=?_))))
  refine al_gs true rfl rfl (fun hb4=>?_) (fun hb4=>?_)
  ·have hc4:=bp hb4
   refine m_ (h:=?_)
   refine g_y (s_callR 1 rfl (.cons _ _ _ _ _ rfl (LeA.of_eq rfl) (.cons _ _ _ _ _ rfl (LeA.refl _) .nil)) (Rdirw w .any 0 f hsb hf) ?_)
   rintro r rfl
   refine⟨rfl,?_⟩
   refine nt_ (h:=pt_ (h:=a_ (h:=al_nil (?_))))
   refine x_then ?_
   exact⟨_,rfl,wc_ 4 0 (by simp[bpLtB,bpLtL,bpLt,bp_LB itmF,bp_wrk,WA,IB,fndS,fndA])⟩
  have hc4:=bp hb4
  refine g0_ (h:=g0_ (h:=g0_ (h:=pf_ (h:=a_ (h:=al_nil (?_))))))
  refine x_then ?_
  exact⟨_,rfl,wc_ 4 0 (by simp[bpLtB,bpLtL,bpLt,bp_LB itmF,bp_wrk,WA,IB,fndS,fndA])⟩
 rintro s rfl
 refine aw_cond rfl (fun hb5=>?_) (fun hb5=>?_)
 ·have hc5:=bp hb5
  have k3:g.slash=true∧dirL w.s.spc.files f.file=false:=by simpa using hc5
  refine w_ (a_ (h:=e_ (aw_ret (x_blockR (x_thenR (?_))))))
  refine rt_ (r:= .v (.int .i64 (renameW w).2)) none (h4:=(by simp[bpLtB,bpLtL,bpLt,bp_LB itmF,bp_wrk,WA,IB,fndS])) (h5:=(by rw[hren,if_neg k1,if_neg k2,if_pos k3];exact LeA.refl _)) (h6:=⟨rfl,rfl,?_⟩)
  rw[hren,if_neg k1,if_neg k2,if_pos k3]
  rfl
 have hc5:=bp hb5
 have k3:¬(g.slash=true∧dirL w.s.spc.files f.file=false):=by simpa using hc5
 refine w_ (f_ (h:=f_ (h:=l_ (h:=f_ (h:=f_ (h:=l_ (h:=nq_ (h:=a_ (h:=e_ (?_))))))))))
 refine aw_cond rfl (fun hb6=>?_) (fun hb6=>?_)
 ·have hc6:=bp hb6
  have k4:f.dir.1≠g.dir.1:=by simpa using hc6
  refine w_ (a_ (h:=e_ (aw_ret (x_blockR (x_thenR (?_))))))
  refine rt_ (r:= .v (.int .i64 (renameW w).2)) none (h4:=(by simp[bpLtB,bpLtL,bpLt,bp_LB itmF,bp_wrk,WA,IB,fndS])) (h5:=(by rw[hren,if_neg k1,if_neg k2,if_neg k3,if_pos k4];exact LeA.refl _)) (h6:=⟨rfl,rfl,?_⟩)
  rw[hren,if_neg k1,if_neg k2,if_neg k3,if_pos k4]
  rfl
 have hc6:=bp hb6
 have k4:¬f.dir.1≠g.dir.1:=by simpa using hc6
 refine aw_midI (fun s=>s=⟨look [(0, .bp 0 0),(3, .bp 2 0),(4, .bp 3 0),(51, .v (.bool (!mayW w f.dir 2|| !mayW w g.dir 2)))],⟨[WA w cap,IB w cap,fndA f,fndA g],[]⟩⟩) ?_ ?_
 ·skip
  refine aw_region (m_ (h:=f_ (h:=l_ (h:=?_))))
  refine al_p rfl (s_callR 1 rfl (.cons _ _ _ _ _ rfl (LeA.of_eq rfl) (.cons _ _ _ _ _ rfl (LeA.refl _) (.cons _ _ _ _ _ rfl (LeA.refl _) .nil))) (Rmayw w .any f.dir 2 hsb) ?_)
  rintro r rfl
  refine⟨rfl,?_⟩
  refine nt_ (h:=m_ (h:=?_))
  refine al_gs false rfl rfl (fun hb7=>?_) (fun hb7=>?_)
  ·have hc7:=bp hb7
   refine g0_ (h:=g0_ (h:=g0_ (h:=g0_ (h:=g0_ (h:=pt_ (h:=a_ (h:=al_nil (?_))))))))
   refine x_then ?_
   exact⟨_,rfl,wc_ 4 0 (by simp[bpLtB,bpLtL,bpLt,bp_LB itmF,bp_wrk,WA,IB,fndS,fndA])⟩
  have hc7:=bp hb7
  refine m_ (h:=f_ (h:=l_ (h:=?_)))
  refine g_y (s_callR 1 rfl (.cons _ _ _ _ _ rfl (LeA.of_eq rfl) (.cons _ _ _ _ _ rfl (LeA.refl _) (.cons _ _ _ _ _ rfl (LeA.refl _) .nil))) (Rmayw w .any g.dir 2 hsb) ?_)
  rintro r rfl
  refine⟨rfl,?_⟩
  refine nt_ (h:=pf_ (h:=a_ (h:=al_nil (?_))))
  refine x_then ?_
  exact⟨_,rfl,wc_ 4 0 (by simp[bpLtB,bpLtL,bpLt,bp_LB itmF,bp_wrk,WA,IB,fndS,fndA])⟩
 rintro s rfl
 refine aw_cond rfl (fun hb8=>?_) (fun hb8=>?_)
 ·have hc8:=bp hb8
  have k5:mayW w f.dir 2=false∨mayW w g.dir 2=false:=by simpa using hc8
  refine w_ (a_ (h:=e_ (aw_ret (x_blockR (x_thenR (?_))))))
  refine rt_ (r:= .v (.int .i64 (renameW w).2)) none (h4:=(by simp[bpLtB,bpLtL,bpLt,bp_LB itmF,bp_wrk,WA,IB,fndS])) (h5:=(by rw[hren,if_neg k1,if_neg k2,if_neg k3,if_neg k4,if_pos k5];exact LeA.refl _)) (h6:=⟨rfl,rfl,?_⟩)
  rw[hren,if_neg k1,if_neg k2,if_neg k3,if_neg k4,if_pos k5]
  rfl
 have hc8:=bp hb8
 have k5:¬(mayW w f.dir 2=false∨mayW w g.dir 2=false):=by simpa using hc8
 refine aw_skip (x_blockN (t_ (?_)))
 refine aw_midI (fun s=>s=⟨look [(0, .bp 0 0),(3, .bp 2 0),(4, .bp 3 0),(5, .bp 4 0)],⟨[WA w cap,IB w cap,fndA f,fndA g,filA x],[]⟩⟩) ?_ ?_
 ·skip
  refine yk_ ([(0,WA w cap),(1,IB w cap),(2,fndA f),(3,fndA g)]) 17 (h:=dm_ 0 (h:=dk_ 1 (h:=df_ 2 (h:=df_ 3 (h:=df_ 4 (h:=dl_ 5 (h:=df_ 6 (h:=dl_ 7 (h:=df_ 8 (h:=dl_ 9 (h:=?_)))))))))))
  refine c2_ 10 14 rfl rfl ?_ ?_
  ·refine q_call (hl1) ?_
   rintro r rfl
   refine o_ (h:=?_)
   refine dm_ 11 (h:=dx_ 12 (h:=dx_ 13 (h:=?_)))
   refine c_ 14 rfl (s_alloc (by repeat constructor) ?_)
   refine o_ (h:=?_)
   refine c0_ 15 rfl (s_store rfl rfl rfl rfl rfl rfl (by repeat constructor) (by repeat constructor) ?_)
   refine o_ (h:=da_ 16 (h:=z_ (h:=?_)))
   refine x_then ?_
   exact⟨_,rfl,wb_ 5 0 (by simp[bpLtB,bpLtL,bpLt,bp_LB itmF,bp_wrk,WA,IB,fndS,fndA,filA])⟩
  refine s_alloc (by repeat constructor) ?_
  refine o_ (h:=?_)
  refine c_ 10 rfl (q_call (hl1) ?_)
  rintro r rfl
  refine o_ (h:=dm_ 11 (h:=dx_ 12 (h:=dx_ 13 (h:=?_))))
  refine c0_ 15 rfl (s_store rfl rfl rfl rfl rfl rfl (by repeat constructor) (by repeat constructor) ?_)
  refine o_ (h:=da_ 16 (h:=z_ (h:=?_)))
  refine x_then ?_
  exact⟨_,rfl,wb_ 5 0 (by simp[bpLtB,bpLtL,bpLt,bp_LB itmF,bp_wrk,WA,IB,fndS,fndA,filA])⟩
 rintro s rfl
 refine q_ (?_)
 refine aw_midI (fun s=>s=⟨look [(0, .bp 0 0),(3, .bp 2 0),(4, .bp 3 0),(5, .bp 4 0),(7, .bp 5 0),(8, .v (.int .i64 e2))],⟨[WA w cap,IB w cap,fndA f,fndA g,filA x,filA y],[]⟩⟩) ?_ ?_
 ·skip
  refine yk_ ([(0,WA w cap),(1,IB w cap),(2,fndA f),(3,fndA g),(4,filA x)]) 17 (h:=dm_ 0 (h:=dk_ 1 (h:=df_ 2 (h:=df_ 3 (h:=df_ 4 (h:=dl_ 5 (h:=df_ 6 (h:=dl_ 7 (h:=df_ 8 (h:=dl_ 9 (h:=?_)))))))))))
  refine c2_ 10 14 rfl rfl ?_ ?_
  ·refine q_call (hl2) ?_
   rintro r rfl
   refine o_ (h:=?_)
   refine dm_ 11 (h:=dx_ 12 (h:=dx_ 13 (h:=?_)))
   refine c_ 14 rfl (s_alloc (by repeat constructor) ?_)
   refine o_ (h:=?_)
   refine c0_ 15 rfl (s_store rfl rfl rfl rfl rfl rfl (by repeat constructor) (by repeat constructor) ?_)
   refine o_ (h:=da_ 16 (h:=z_ (h:=?_)))
   refine x_then ?_
   exact⟨_,rfl,wb_ 6 0 (by simp[bpLtB,bpLtL,bpLt,bp_LB itmF,bp_wrk,WA,IB,fndS,fndA,filA])⟩
  refine s_alloc (by repeat constructor) ?_
  refine o_ (h:=?_)
  refine c_ 10 rfl (q_call (hl2) ?_)
  rintro r rfl
  refine o_ (h:=dm_ 11 (h:=dx_ 12 (h:=dx_ 13 (h:=?_))))
  refine c0_ 15 rfl (s_store rfl rfl rfl rfl rfl rfl (by repeat constructor) (by repeat constructor) ?_)
  refine o_ (h:=da_ 16 (h:=z_ (h:=?_)))
  refine x_then ?_
  exact⟨_,rfl,wb_ 6 0 (by simp[bpLtB,bpLtL,bpLt,bp_LB itmF,bp_wrk,WA,IB,fndS,fndA,filA])⟩
 rintro s rfl
 refine aw_midI (fun s=>s=⟨look [(0, .bp 0 0),(3, .bp 2 0),(4, .bp 3 0),(5, .bp 4 0),(113, .v (.bool (decide (e2=0)&& !decide ((y.1,y.2)=(x.1,x.2))&&dirL w.s.spc.files y&&usedW w y)))],⟨[WA w cap,IB w cap,fndA f,fndA g,filA x],[]⟩⟩) ?_ ?_
 ·skip
  refine yr_ 22 (h:=dm_ 0 (h:=deq_ 1 (h:=dm_ 2 (h:=?_))))
  refine aa_both (j:=2) rfl (fun hb9=>?_) (fun hb9=>?_)
  ·have hc9:=bp hb9
   refine dl_ 3 (h:=dl_ 4 (h:=?_))
   refine r_y (i:=5) rfl (st_binA rfl rfl (by repeat constructor) (by repeat constructor) (fun w=>neqlFil _ _ _ _ w) (by kernel_rfl) ⟨rfl,rfl⟩) ?_
   refine dpt_ 6 (h:=dm_ 7 (h:=?_))
   refine aa_both (j:=7) rfl (fun hb10=>?_) (fun hb10=>?_)
   ·have hc10:=bp hb10
    refine dm_ 8 (h:=dk_ 9 (h:=df_ 10 (h:=df_ 11 (h:=df_ 12 (h:=dl_ 13 (h:=dl_ 14 (h:=?_)))))))
    refine c_ 15 rfl (q_call (Rdir w.s.spc.files y hsb.files) ?_)
    rintro r rfl
    refine o_ (h:=dpt_ 16 (h:=dm_ 17 (h:=?_)))
    refine aa_both (j:=17) rfl (fun hb11=>?_) (fun hb11=>?_)
    ·have hc11:=bp hb11
     refine dm_ 18 (h:=dl_ 19 (h:=?_))
     refine c_ 20 rfl (s_callR 1 rfl (.cons _ _ _ _ _ rfl (LeA.of_eq rfl) (.cons _ _ _ _ _ rfl (LeA.refl _) .nil)) (Rusedw w .any y hsb hps) ?_)
     rintro r rfl
     refine⟨rfl,?_⟩
     refine o_ (h:=dpt_ 21 (h:=z_ (h:=?_)))
     refine x_then ?_
     exact⟨_,rfl,weak_of 5 0 rfl rfl rfl (by simp[bpLtB,bpLtL,bpLt,bp_LB itmF,bp_wrk,WA,IB,fndS,fndA,filA]) (by repeat (first|exact Sub.nil|refine Sub.cons _ _ _ rfl rfl ?_|refine Sub.any _ _ ?_|refine Sub.sl _ _ _ _ _ rfl ?_|refine Sub.slnil _ _ _ rfl ?_|(apply Sub.of;(focus exact rfl);(focus exact LeA.of_eq (vb (by first|(simp[*];done)|(simp only[*,decide_true,decide_false,Bool.not_true,Bool.not_false,Bool.true_and,Bool.and_true,Bool.false_and,Bool.and_false]))));(focus exact rfl))))⟩
    have hc11:=bp hb11
    refine d0_ 18 (h:=d0_ 19 (h:=d0_ 20 (h:=dpf_ 21 (h:=z_ (h:=?_)))))
    refine x_then ?_
    exact⟨_,rfl,weak_of 5 0 rfl rfl rfl (by simp[bpLtB,bpLtL,bpLt,bp_LB itmF,bp_wrk,WA,IB,fndS,fndA,filA]) (by repeat (first|exact Sub.nil|refine Sub.cons _ _ _ rfl rfl ?_|refine Sub.any _ _ ?_|refine Sub.sl _ _ _ _ _ rfl ?_|refine Sub.slnil _ _ _ rfl ?_|(apply Sub.of;(focus exact rfl);(focus exact LeA.of_eq (vb (by first|(simp[*];done)|(simp only[*,decide_true,decide_false,Bool.not_true,Bool.not_false,Bool.true_and,Bool.and_true,Bool.false_and,Bool.and_false]))));(focus exact rfl))))⟩
   have hc10:=bp hb10
   refine d0_ 8 (h:=d0_ 9 (h:=d0_ 10 (h:=d0_ 11 (h:=d0_ 12 (h:=d0_ 13 (h:=d0_ 14 (h:=d0_ 15 (h:=dpf_ 16 (h:=dm_ 17 (h:=d0_ 18 (h:=d0_ 19 (h:=d0_ 20 (h:=dpf_ 21 (h:=z_ (h:=?_)))))))))))))))
   refine x_then ?_
   exact⟨_,rfl,weak_of 5 0 rfl rfl rfl (by simp[bpLtB,bpLtL,bpLt,bp_LB itmF,bp_wrk,WA,IB,fndS,fndA,filA]) (by repeat (first|exact Sub.nil|refine Sub.cons _ _ _ rfl rfl ?_|refine Sub.any _ _ ?_|refine Sub.sl _ _ _ _ _ rfl ?_|refine Sub.slnil _ _ _ rfl ?_|(apply Sub.of;(focus exact rfl);(focus exact LeA.of_eq (vb (by first|(simp[*];done)|(simp only[*,decide_true,decide_false,Bool.not_true,Bool.not_false,Bool.true_and,Bool.and_true,Bool.false_and,Bool.and_false]))));(focus exact rfl))))⟩
  have hc9:=bp hb9
  refine d0_ 3 (h:=d0_ 4 (h:=d0_ 5 (h:=dpf_ 6 (h:=dm_ 7 (h:=d0_ 8 (h:=d0_ 9 (h:=d0_ 10 (h:=d0_ 11 (h:=d0_ 12 (h:=d0_ 13 (h:=d0_ 14 (h:=d0_ 15 (h:=dpf_ 16 (h:=dm_ 17 (h:=d0_ 18 (h:=d0_ 19 (h:=d0_ 20 (h:=dpf_ 21 (h:=z_ (h:=?_))))))))))))))))))))
  refine x_then ?_
  exact⟨_,rfl,weak_of 5 0 rfl rfl rfl (by simp[bpLtB,bpLtL,bpLt,bp_LB itmF,bp_wrk,WA,IB,fndS,fndA,filA]) (by repeat (first|exact Sub.nil|refine Sub.cons _ _ _ rfl rfl ?_|refine Sub.any _ _ ?_|refine Sub.sl _ _ _ _ _ rfl ?_|refine Sub.slnil _ _ _ rfl ?_|(apply Sub.of;(focus exact rfl);(focus exact LeA.of_eq (vb (by first|(simp[*];done)|(simp only[*,decide_true,decide_false,Bool.not_true,Bool.not_false,Bool.true_and,Bool.and_true,Bool.false_and,Bool.and_false]))));(focus exact rfl))))⟩
 rintro s rfl
 refine aw_cond rfl (fun hb12=>?_) (fun hb12=>?_)
 ·have hc12:=bp hb12
  have k6:=busy_iff.1 hb12
  refine w_ (a_ (h:=e_ (aw_ret (x_thenR (?_)))))
  refine rt_ (r:= .v (.int .i64 (renameW w).2)) none (h4:=(by simp[bpLtB,bpLtL,bpLt,bp_LB itmF,bp_wrk,WA,IB,fndS])) (h5:=(by rw[hren,if_neg k1,if_neg k2,if_neg k3,if_neg k4,if_neg k5,if_pos k6];exact LeA.refl _)) (h6:=⟨rfl,rfl,?_⟩)
  rw[hren,if_neg k1,if_neg k2,if_neg k3,if_neg k4,if_neg k5,if_pos k6]
  rfl
 have hc12:=bp hb12
 have k6:¬(e2=0∧y≠x∧dirL w.s.spc.files y=true∧usedW w y=true):=fun h=>by rw[busy_iff.2 h]at hb12;cases hb12
 refine kt_ (q_ (yk_ ([(0,WA w cap),(1,IB w cap),(2,fndA f),(3,fndA g)]) 19 (h:=dm_ 0 (h:=dm_ 1 (h:=dk_ 2 (h:=df_ 3 (h:=df_ 4 (h:=df_ 5 (h:=dl_ 6 (h:=df_ 7 (h:=dl_ 8 (h:=df_ 9 (h:=dl_ 10 (h:=df_ 11 (h:=dl_ 12 (h:=df_ 13 (h:=dl_ 14 (h:=?_))))))))))))))))))
 refine c_ 15 rfl (q_call (hcall) ?_)
 rintro r rfl
 refine o_ (h:=dx_ 16 (h:=dx_ 17 (h:=dx_ 18 (h:=?_))))
 refine c_ 19 rfl (s_callM [0,1] rfl (.cons _ _ _ _ _ rfl (LeA.refl _) (.cons _ _ _ _ _ rfl (LeA.refl _) (.cons _ _ _ _ _ rfl (LeA.refl _) (.cons _ _ _ _ _ rfl (LeA.refl _) .nil)))) (by decide) (.cons _ _ _ _ _ rfl rfl (.cons _ _ _ _ _ rfl (ren_LB itmF _ _ _) .nil)) (Rfilesw w cap R.1 R.2.1 R.2.2) ?_)
 rintro r bc tc ⟨rfl,rfl,rfl⟩
 refine⟨rfl,_,back_W rfl (filesW w R).1 cap,?_⟩
 refine o_ (h:=?_)
 refine c_ 20 rfl (st_assign rfl ?_)
 refine o_ (h:=z_ (h:=t_ (q_ (?_))))
 refine aw_midI (fun s=>s=⟨look [(0, .bp 0 0),(5, .bp 4 0),(9, .v (.int .i64 R.2.2)),(144, .v (.bool (decide (R.2.2=0)&&decide (0<(R.2.1.length:Int)))))],⟨[WA (filesW w R).1 cap,IB (filesW w R).1 cap,fndA f,fndA g,filA x],[]⟩⟩) ?_ ?_
 ·skip
  refine aw_region (m_ (h:=eq_ (h:=m_ (h:=?_))))
  refine al_gs true rfl rfl (fun hb13=>?_) (fun hb13=>?_)
  ·have hc13:=bp hb13
   have hch:(filesW w R).1.r.changes=R.2.1:=by rw[filesW_ok hc13]
   refine m_ (h:=k_ (h:=f_ (h:=f_ (h:=l_ (h:=n_ (h:=gt_ (h:=pt_ (h:=al_nil (?_)))))))))
   refine x_then ?_
   exact⟨_,rfl,wc_ 5 0 (by simp[bpLtB,bpLtL,bpLt,bp_LB itmF,bp_wrk,WA,IB,fndS,fndA,filA])⟩
  have hc13:=bp hb13
  refine g0_ (h:=g0_ (h:=g0_ (h:=g0_ (h:=g0_ (h:=g0_ (h:=g0_ (h:=pf_ (h:=al_nil (?_)))))))))
  refine x_then ?_
  exact⟨_,rfl,wc_ 5 0 (by simp[bpLtB,bpLtL,bpLt,bp_LB itmF,bp_wrk,WA,IB,fndS,fndA,filA])⟩
 rintro s rfl
 refine aw_cond rfl (fun hb14=>?_) (fun hb14=>?_)
 ·have hc14:=bp hb14
  have h0:R.2.2=0:=of_decide_eq_true ((Bool.and_eq_true _ _).mp hb14).1
  have hfb:FlsB (roleW (filesW w R).1 0 3).s.spc.files:=by rw[filesW_ok h0];exact(hok h0).1.b
  have hit:(filesW w R).1.r.items=w.r.items:=by rw[filesW_ok h0]
  have hxa:(filesW w R).1.r.items[0]?=some x0:=by rw[hit];exact hx0
  have hil1:0<(filesW w R).1.r.items.length:=by rw[hit];exact hil
  have hxr:(roleW (filesW w R).1 0 3).r.items[1]?=some x1:=by
   show((filesW w R).1.r.items.modify 0 _)[1]?=_
   rw[hit,List.getElem?_modify]
   simp[hx1]
  refine aw_midI (fun s=>s=⟨look [(0, .bp 0 0),(5, .bp 4 0),(9, .v (.int .i64 R.2.2))],⟨[WA (roleW (filesW w R).1 0 3) cap,IB (roleW (filesW w R).1 0 3) cap,fndA f,fndA g,filA x],[]⟩⟩) ?_ ?_
  ·skip
   refine aw_region (m_ (h:=k_ (h:=f_ (h:=f_ (h:=l_ (h:=?_))))))
   refine al_p rfl (st_indexS (m:=0) rfl rfl rfl hil1 ?_)
   refine f_ (h:=?_)
   refine al_p0 (s_store rfl rfl rfl rfl rfl rfl (LB_set itmF (x':={x0 with role:=3}) hxa (by repeat constructor) (List.cons_ne_nil _ _)) (by repeat constructor) ?_)
   refine al_nil (?_)
   refine x_then ?_
   refine⟨_,rfl,?_⟩
   rw[role_WA,role_IB hxa]
   exact wb_ 5 0 (by simp[bpLtB,bpLtL,bpLt,bp_LB itmF,bp_wrk,WA,IB,fndS,fndA,filA])
  rintro s rfl
  refine aw_region (m_ (h:=l_ (h:=?_)))
  refine al_p rfl (s_callM [0,1] rfl (.cons _ _ _ _ _ rfl (LeA.refl _) (.cons _ _ _ _ _ rfl (LeA.refl _) (.cons _ _ _ _ _ rfl (LeA.refl _) .nil))) (by decide) (.cons _ _ _ _ _ rfl rfl (.cons _ _ _ _ _ rfl (ren_LB itmF _ _ _) .nil)) (Rmadew (roleW (filesW w R).1 0 3) cap 1 x x1 hfb hxr) ?_)
  rintro r bc tc ⟨rfl,rfl,rfl⟩
  refine⟨rfl,_,back_W rfl (madeW (roleW (filesW w R).1 0 3) 1 x) cap,?_⟩
  refine e_ (w_ (m_ (h:=a_ (h:=e_ (aw_ret (?_))))))
  refine rt_ (r:= .v (.int .i64 (renameW w).2)) none (h4:=(by simp[bpLtB,bpLtL,bpLt,bp_LB itmF,bp_wrk,WA,IB,fndS])) (h5:=(by rw[hren,if_neg k1,if_neg k2,if_neg k3,if_neg k4,if_neg k5,if_neg k6,movW_yes hb14];exact LeA.refl _)) (h6:=⟨rfl,rfl,?_⟩)
  rw[hren,if_neg k1,if_neg k2,if_neg k3,if_neg k4,if_neg k5,if_neg k6,movW_yes hb14]
  rfl
 have hc14:=bp hb14
 refine kt_ (w_ (m_ (h:=a_ (h:=e_ (aw_ret (?_))))))
 refine rt_ (r:= .v (.int .i64 (renameW w).2)) none (h4:=(by simp[bpLtB,bpLtL,bpLt,bp_LB itmF,bp_wrk,WA,IB,fndS])) (h5:=(by rw[hren,if_neg k1,if_neg k2,if_neg k3,if_neg k4,if_neg k5,if_neg k6,movW_not hb14];exact LeA.refl _)) (h6:=⟨rfl,rfl,?_⟩)
 rw[hren,if_neg k1,if_neg k2,if_neg k3,if_neg k4,if_neg k5,if_neg k6,movW_not hb14]
 rfl
end
theorem lks_nm{s:Spc}{fl:Bool}{p:Str}{ps:List Str}{a:Fil}{lk:Nat}{τ:Lk}(h:lkS s fl p ps a lk= .inr τ):τ.name.size≤12:=by
 unfold lkS at h
 split at h
 ·cases h
 split at h
 ·cases h
 rename_i h2
 repeat' split at h
 all_goals first|(cases h;done)|(injection h with h;subst h;first|exact Nat.zero_le 12|exact Nat.le_of_not_lt h2)
theorem lkg_nm{s:Spc}{fl:Bool}:∀(k:Nat) (σ:Lk),σ.name.size≤12→(lkG s fl k σ).2.name.size≤12:=by
 intro k
 induction k with
 |zero=>intro σ h;exact h
 |succ k ih=>
   intro σ h
   unfold lkG
   cases σ.ps with
   |nil=>exact h
   |cons p ps=>
     simp only
     cases hs:lkS s fl p ps σ.file σ.links with
     |inl e=>exact Nat.zero_le 12
     |inr τ=>exact ih _ (lks_nm hs)
theorem find_name(s:Spc)(st:Fil)(p:Str)(fl:Bool):(findL s st p fl).1.name.size≤12:=by
 unfold findL
 generalize (if hdL p=true then rootD s else st)=d
 repeat' split
 all_goals first|exact Nat.zero_le 12|exact lkg_nm _ _ (Nat.zero_le 12)
theorem lookS_fnd{s:Spc}{cwd:Fil}{fl:Bool}{X:List Itm×List Fnd×Int}{g:Str×Int}(h:∀f∈X.2.1,f.name.size≤12):(∀f∈(lookS s cwd fl X g).2.1,f.name.size≤12)∧(lookS s cwd fl X g).1.length=X.1.length+1∧(lookS s cwd fl X g).2.1.length=X.2.1.length+1:=by
 unfold lookS
 split
 ·split
  ·refine⟨fun f hf=>?_,by simp,by simp⟩
   rcases List.mem_append.1 hf with hf|hf
   ·exact h f hf
   rw[List.mem_singleton.1 hf];exact find_name _ _ _ _
  refine⟨fun f hf=>?_,by simp,by simp⟩
  rcases List.mem_append.1 hf with hf|hf
  ·exact h f hf
  rw[List.mem_singleton.1 hf];exact find_name _ _ _ _
 refine⟨fun f hf=>?_,by simp,by simp⟩
 rcases List.mem_append.1 hf with hf|hf
 ·exact h f hf
 rw[List.mem_singleton.1 hf];exact Nat.zero_le 12
theorem lookK_fnd(s:Spc)(cwd:Fil)(fl:Bool)(e:Int):∀(l:List (Str×Int)),(∀f∈(lookK s cwd fl l e).2.1,f.name.size≤12)∧(lookK s cwd fl l e).1.length=l.length∧(lookK s cwd fl l e).2.1.length=l.length:=by
 have key:∀(l:List (Str×Int)) (X:List Itm×List Fnd×Int),(∀f∈X.2.1,f.name.size≤12)→(∀f∈(l.foldl (lookS s cwd fl) X).2.1,f.name.size≤12)∧(l.foldl (lookS s cwd fl) X).1.length=X.1.length+l.length∧(l.foldl (lookS s cwd fl) X).2.1.length=X.2.1.length+l.length:=by
  intro l
  induction l with
  |nil=>intro X h;exact⟨h,rfl,rfl⟩
  |cons g l ih=>
    intro X h
    obtain⟨h1,h2,h3⟩:=lookS_fnd (s:=s) (cwd:=cwd) (fl:=fl) (g:=g) h
    obtain⟨k1,k2,k3⟩:=ih _ h1
    rw[List.foldl_cons]
    refine⟨k1,?_,?_⟩
    ·rw[k2,h2,List.length_cons];omega
    rw[k3,h3,List.length_cons];omega
 intro l
 have:=key l ([],[],e) (fun f hf=>by cases hf)
 refine⟨this.1,by rw[lookK,this.2.1];simp,by rw[lookK,this.2.2];simp⟩
theorem chk_ok{c:Cal}(h:chkC c=0):(c.paths.length:Int)=(rowK c.num).2.2.1∧(rowK c.num).2.2.2.1≤(c.args.length:Int)∧(c.args.length:Int)≤(rowK c.num).2.2.2.2∧(∀p∈c.paths,p.size≤128)∧∀p∈c.args,p.size≤64:=by
 unfold chkC at h
 split at h
 ·exact absurd h (by decide)
 split at h
 ·exact absurd h (by decide)
 split at h
 ·exact absurd h (by decide)
 rename_i h3
 split at h
 ·exact absurd h (by decide)
 rename_i h4
 split at h
 ·exact absurd h (by decide)
 rename_i h5
 refine⟨by omega,by omega,by omega,fun p hp=>?_,fun p hp=>?_⟩
 ·refine Nat.le_of_not_lt fun hl=>h4 (List.any_eq_true.2 ⟨p,hp,decide_eq_true hl⟩)
 refine Nat.le_of_not_lt fun hl=>h5 (List.any_eq_true.2 ⟨p,hp,decide_eq_true hl⟩)
theorem back_look{c0 c1 c2 c3 c4 c5:List AV}(w:Wrk)(rows:List (List AV))(n cap:Nat)(L:List Itm):Back [c0,c1,c2,c3,c4,c5] [5] [wrkA w (.sl 8 rows none) (.bs 1 0 13 n cap),LB 13 itmK L cap] [c0,c1,c2,c3,c4,wrkA w (.sl 8 rows none) (.bs 6 0 13 n cap),LB 13 itmK L cap]:=by
 have:=back_F (bx:=[c0,c1,c2,c3,c4,c5]) (is:=[5]) (bc:=[wrkA w (.sl 8 rows none) (.bs 1 0 13 n cap),LB 13 itmK L cap]) (by simp) (by simp) (by simp)
 have e2:renL (backS [5] [c0,c1,c2,c3,c4,c5].length) (LB 13 itmK L cap)=LB 13 itmK L cap:=ren_LB itmF _ _ _
 have hb:backF [c0,c1,c2,c3,c4,c5] (backS [5] [c0,c1,c2,c3,c4,c5].length) [5] [wrkA w (.sl 8 rows none) (.bs 1 0 13 n cap),LB 13 itmK L cap]=[c0,c1,c2,c3,c4,wrkA w (.sl 8 rows none) (.bs 6 0 13 n cap),LB 13 itmK L cap]:=by
  unfold backF
  unfold backF
  rw[List.map_cons,e2]
  rfl
 rw[hb]at this
 exact this
theorem wrkL_wf(s:Syst)(pid:Int)(c:Cal):(∀f∈(wrkL s pid c).found,f.name.size≤12)∧(wrkL s pid c).found.length=(c.paths.zip (permL c)).length∧(wrkL s pid c).r.items.length=(c.paths.zip (permL c)).length:=by
 obtain⟨h1,h2,h3⟩:=lookK_fnd s.spc (gotT s.tab pid).cwd (folK c) (befK (gotT s.tab pid) c) (c.paths.zip (permL c))
 exact⟨h1,h3,h2⟩
section
set_option maxRecDepth 10000
set_option maxHeartbeats 4000000
theorem RbefK(w:Wrk)(F I:AV)(h9:w.c.num=9→0<w.c.args.length)(hsz:∀p∈w.c.args,p.size≤1000):AFn Tryz.prog 67 [.fp (wrkA w F I)] (fun r=>r= .v (.int .i64 (befK w.p w.c))):=by
 have hol:(w.p.opens.map dscA).length=w.p.opens.length:=List.length_map _
 refine enter Tryz.func67 rfl rfl rfl rfl rfl 0 rfl ?_
 refine w_ (a_ (h:=e_ (w_ (m_ (h:=k_ (h:=f_ (h:=f_ (h:=l_ (h:=al_ (h:=s_ (h:=e_ (q_ (w_ (m_ (h:=k_ (h:=f_ (h:=f_ (h:=l_ (h:=e_ (aw_block (w_ (eq_ (h:=a_ (h:=?_))))))))))))))))))))))))
 refine e_ (?_)
 refine aw_cond rfl (fun hb1=>?_) (fun hb1=>?_)
 ·have hc1:=bp hb1
  refine q_ (w_ (?_))
  refine al_p rfl (st_indexB (len:=4) (sz:=1) (n:=0) (by kernel_rfl) rfl rfl rfl rfl ?_)
  refine l_ (h:=lt_ (h:=m_ (h:=?_)))
  refine al_gs false rfl rfl (fun hb2=>?_) (fun hb2=>?_)
  ·have hc2:=bp hb2
   refine g0_ (h:=g0_ (h:=g0_ (h:=pt_ (h:=m_ (h:=g0_ (h:=g0_ (h:=g0_ (h:=g0_ (h:=pt_ (h:=m_ (h:=g0_ (h:=g0_ (h:=g0_ (h:=g0_ (h:=pt_ (h:=e_ (cy_ (h:=w_ (a_ (h:=e_ (aw_ret (x_thenR (x_blockR (?_))))))))))))))))))))))))
   refine x_thenR (?_)
   refine e_ret ?_
   first|(exfalso;first|contradiction|omega)|(exact vi (by simp[befK,*]))
  have hc2:=bp hb2
  refine g_y (st_indexB (len:=4) (sz:=1) (n:=0) (by kernel_rfl) rfl rfl rfl rfl ?_)
  refine l_ (h:=gt_ (h:=pf_ (h:=m_ (h:=?_))))
  refine al_gs false rfl rfl (fun hb3=>?_) (fun hb3=>?_)
  ·have hc3:=bp hb3
   refine g0_ (h:=g0_ (h:=g0_ (h:=g0_ (h:=pt_ (h:=m_ (h:=g0_ (h:=g0_ (h:=g0_ (h:=g0_ (h:=pt_ (h:=e_ (cy_ (h:=w_ (a_ (h:=e_ (aw_ret (x_thenR (x_blockR (x_thenR (?_))))))))))))))))))))
   refine e_ret ?_
   first|(exfalso;first|contradiction|omega)|(exact vi (by simp[befK,*]))
  have hc3:=bp hb3
  refine g_y (st_indexB (len:=4) (sz:=1) (n:=0) (by kernel_rfl) rfl rfl rfl rfl ?_)
  refine l_ (h:=an_ (h:=eq_ (h:=pf_ (h:=m_ (h:=?_)))))
  refine al_gs false rfl rfl (fun hb4=>?_) (fun hb4=>?_)
  ·have hc4:=bp hb4
   refine g0_ (h:=g0_ (h:=g0_ (h:=g0_ (h:=pt_ (h:=e_ (cy_ (h:=w_ (a_ (h:=e_ (aw_ret (x_thenR (x_blockR (x_thenR (?_))))))))))))))
   refine e_ret ?_
   first|(exfalso;first|contradiction|omega)|(exact vi (by simp[befK,*]))
  have hc4:=bp hb4
  refine g_y (st_indexB (len:=4) (sz:=1) (n:=1) (by kernel_rfl) rfl rfl rfl rfl ?_)
  refine l_ (h:=?_)
  refine g_y (q_call (Rmode w.c.a1) ?_)
  rintro r rfl
  refine nt_ (h:=pf_ (h:=e_ (?_)))
  refine aw_cond rfl (fun hb5=>?_) (fun hb5=>?_)
  ·have hc5:=bp hb5
   refine w_ (a_ (h:=e_ (aw_ret (x_thenR (x_blockR (x_thenR (?_)))))))
   refine e_ret ?_
   first|(exfalso;first|contradiction|omega)|(exact vi (by simp[befK,*]))
  have hc5:=bp hb5
  refine kt_ (w_ (m_ (h:=k_ (h:=f_ (h:=f_ (h:=l_ (h:=n_ (h:=ge_ (h:=e_ (?_))))))))))
  refine aw_cond rfl (fun hb6=>?_) (fun hb6=>?_)
  ·have hc6:=bp hb6
   have h8:8≤(w.p.opens.length:Int):=by rw[List.length_map]at hc6;exact hc6
   refine w_ (a_ (h:=e_ (aw_ret (x_blockR (x_thenR (?_))))))
   refine e_ret ?_
   first|(exfalso;first|contradiction|omega)|(exact vi (by simp[befK,*]))
  have hc6:=bp hb6
  have h8:¬8≤(w.p.opens.length:Int):=by rw[List.length_map]at hc6;exact hc6
  refine aw_skip (x_blockN (t_ (w_ (a_ (h:=e_ (aw_ret (?_)))))))
  refine e_ret ?_
  first|(exfalso;first|contradiction|omega)|(exact vi (by simp[befK,*]))
 have hc1:=bp hb1
 refine w_ (eq_ (h:=a_ (h:=e_ (?_))))
 refine aw_cond rfl (fun hb7=>?_) (fun hb7=>?_)
 ·have hc7:=bp hb7
  obtain⟨a0,ha0⟩:∃a,w.c.args[0]?=some a:=⟨_,List.getElem?_eq_getElem (h9 hc7)⟩
  have harg:(w.c.args.map stK)[0]?=some (stK a0):=by rw[List.getElem?_map,ha0];rfl
  have hag:arg0 w.c=a0:=by unfold arg0;rw[List.headD_eq_head?_getD,List.head?_eq_getElem?,ha0];rfl
  have hsa:=hsz a0 (List.mem_of_getElem? ha0)
  refine q_ (w_ (m_ (h:=k_ (h:=f_ (h:=f_ (h:=l_ (h:=?_)))))))
  refine al_p rfl (st_index (n:=0) rfl rfl rfl harg ?_)
  refine l_ (h:=eq_ (h:=e_ (?_)))
  refine aw_cond rfl (fun hb8=>?_) (fun hb8=>?_)
  ·have hc8:=bp hb8
   refine w_ (a_ (h:=e_ (aw_ret (x_thenR (x_blockR (x_thenR (?_)))))))
   refine e_ret ?_
   first|(exfalso;first|contradiction|omega)|(exact vi (by simp[befK,*]))
  have hc8:=bp hb8
  refine kt_ (w_ (a_ (h:=e_ (aw_block (?_)))))
  refine aw_loopW (fun m s=>∃j:Nat,j≤a0.size∧m=a0.size - j∧(∀(i:Nat) (h:i<a0.data.toList.length),i<j→a0.data.toList[i]≠0)∧s=⟨look [(0, .fp (wrkA w F I)),(4, .v (.int .i64 (j:Int)))],⟨[],[]⟩⟩) (a0.size) ((wk 0 0)) (⟨0,Nat.zero_le _,rfl,fun i h1 h2=>by omega,rfl⟩) ?_
  rintro m s ⟨j,hj,rfl,hz,rfl⟩
  refine q_ (w_ (m_ (h:=m_ (h:=k_ (h:=f_ (h:=f_ (h:=l_ (h:=?_))))))))
  refine al_p rfl (st_index (n:=0) rfl rfl rfl harg ?_)
  refine l_ (h:=n_ (h:=lt_ (h:=e_ (?_))))
  refine aw_cond rfl (fun hb9=>?_) (fun hb9=>?_)
  ·have hc9:=bp hb9
   have hlt:j<a0.size:=by omega
   refine kt_ (q_ (aw_block (w_ (m_ (h:=k_ (h:=f_ (h:=f_ (h:=l_ (h:=?_)))))))))
   refine al_p rfl (st_index (n:=0) rfl rfl rfl harg ?_)
   refine l_ (h:=m_ (h:=?_))
   refine al_p rfl (st_strIdx (n:=j) Tryz.underlying9 rfl rfl rfl hlt ?_)
   refine eq_ (h:=e_ (?_))
   refine aw_cond rfl (fun hb10=>?_) (fun hb10=>?_)
   ·have hc10:=bp hb10
    have hany:(a0.data.toList.any fun b=>decide (b=0))=true:=by
     rw[List.any_eq_true]
     refine⟨a0.data.toList[j]'(by simpa using hlt),List.getElem_mem _,?_⟩
     have h00:a0[j].toNat=0:=by have:=hc10;omega
     simp
     exact UInt8.toNat_inj.1 h00
    refine w_ (a_ (h:=e_ (aw_ret (x_blockR (x_thenR (x_thenR (x_blockR (x_blockR (x_thenR (?_))))))))))
    refine e_ret ?_
    first|(exfalso;first|contradiction|omega)|(exact vi (by simp[befK,*]))
   have hc10:=bp hb10
   have hne:a0.data.toList[j]'(by simpa using hlt)≠0:=by
    intro e
    have h00:¬a0[j].toNat=0:=by have:=hc10;omega
    simp at e
    exact h00 (congrArg UInt8.toNat e)
   refine aw_skip (x_blockN (t_ (aw_region (m_ (h:=ad_ (h:=a_ (h:=al_nil (?_))))))))
   refine x_then ?_
   refine⟨_,_,?_,⟨j+1,by omega,rfl,(fun i h1 h2=>by
    by_cases e:i=j
    ·subst e;exact hne
    exact hz i h1 (by omega)),rfl⟩,(wk 0 0)⟩
   omega
  have hc9:=bp hb9
  have hany:(a0.data.toList.any fun b=>decide (b=0))=false:=by
   rw[List.any_eq_false]
   intro b hb
   obtain⟨i,hi,rfl⟩:=List.mem_iff_getElem.1 hb
   have:=hz i hi (by have hl:=Lib.size_eq a0;omega)
   simpa using this
  refine aw_exit (x_thenE (x_thenE (ABlock_out (x_blockN (t_ (w_ (a_ (h:=e_ (aw_ret (?_))))))))))
  refine e_ret ?_
  first|(exfalso;first|contradiction|omega)|(exact vi (by simp[befK,*]))
 have hc7:=bp hb7
 refine q_ (w_ (eq_ (h:=a_ (h:=e_ (?_)))))
 refine aw_cond rfl (fun hb11=>?_) (fun hb11=>?_)
 ·have hc11:=bp hb11
  refine kt_ (cy_ (h:=w_ (?_)))
  refine al_p rfl (st_indexB (len:=4) (sz:=1) (n:=0) (by kernel_rfl) rfl rfl rfl rfl ?_)
  refine l_ (h:=?_)
  refine al_p rfl (q_call (Rmode w.c.a0) ?_)
  rintro r rfl
  refine nt_ (h:=e_ (?_))
  refine aw_cond rfl (fun hb12=>?_) (fun hb12=>?_)
  ·have hc12:=bp hb12
   refine w_ (a_ (h:=e_ (aw_ret (x_blockR (x_thenR (?_))))))
   refine e_ret ?_
   first|(exfalso;first|contradiction|omega)|(exact vi (by simp[befK,*]))
  have hc12:=bp hb12
  refine aw_skip (x_blockN (t_ (w_ (a_ (h:=e_ (aw_ret (?_)))))))
  refine e_ret ?_
  first|(exfalso;first|contradiction|omega)|(exact vi (by simp[befK,*]))
 have hc11:=bp hb11
 refine aw_region (eq_ (h:=a_ (h:=e_ (?_))))
 refine aw_cond rfl (fun hb13=>?_) (fun hb13=>?_)
 ·have hc13:=bp hb13
  refine w_ (?_)
  refine al_p rfl (st_indexB (len:=4) (sz:=1) (n:=0) (by kernel_rfl) rfl rfl rfl rfl ?_)
  refine l_ (h:=?_)
  refine al_p rfl (q_call (Rmode w.c.a0) ?_)
  rintro r rfl
  refine nt_ (h:=e_ (?_))
  refine aw_cond rfl (fun hb14=>?_) (fun hb14=>?_)
  ·have hc14:=bp hb14
   refine w_ (a_ (h:=e_ (aw_ret (x_blockR (x_thenR (?_))))))
   refine e_ret ?_
   first|(exfalso;first|contradiction|omega)|(exact vi (by simp[befK,*]))
  have hc14:=bp hb14
  refine aw_skip (x_blockN (t_ (w_ (a_ (h:=e_ (aw_ret (?_)))))))
  refine e_ret ?_
  first|(exfalso;first|contradiction|omega)|(exact vi (by simp[befK,*]))
 have hc13:=bp hb13
 refine w_ (eq_ (h:=a_ (h:=e_ (?_))))
 refine aw_cond rfl (fun hb15=>?_) (fun hb15=>?_)
 ·have hc15:=bp hb15
  refine w_ (?_)
  refine al_p rfl (st_indexB (len:=4) (sz:=1) (n:=0) (by kernel_rfl) rfl rfl rfl rfl ?_)
  refine l_ (h:=lt_ (h:=m_ (h:=?_)))
  refine al_gs false rfl rfl (fun hb16=>?_) (fun hb16=>?_)
  ·have hc16:=bp hb16
   refine g0_ (h:=g0_ (h:=g0_ (h:=pt_ (h:=m_ (h:=g0_ (h:=g0_ (h:=g0_ (h:=pt_ (h:=m_ (h:=g0_ (h:=g0_ (h:=g0_ (h:=pt_ (h:=e_ (cy_ (h:=w_ (a_ (h:=e_ (aw_ret (x_blockR (x_thenR (?_))))))))))))))))))))))
   refine e_ret ?_
   first|(exfalso;first|contradiction|omega)|(exact vi (by simp[befK,*]))
  have hc16:=bp hb16
  refine g_y (st_indexB (len:=4) (sz:=1) (n:=0) (by kernel_rfl) rfl rfl rfl rfl ?_)
  refine l_ (h:=gt_ (h:=pf_ (h:=m_ (h:=?_))))
  refine al_gs false rfl rfl (fun hb17=>?_) (fun hb17=>?_)
  ·have hc17:=bp hb17
   refine g0_ (h:=g0_ (h:=g0_ (h:=pt_ (h:=m_ (h:=g0_ (h:=g0_ (h:=g0_ (h:=pt_ (h:=e_ (cy_ (h:=w_ (a_ (h:=e_ (aw_ret (x_blockR (x_thenR (?_)))))))))))))))))
   refine e_ret ?_
   first|(exfalso;first|contradiction|omega)|(exact vi (by simp[befK,*]))
  have hc17:=bp hb17
  refine g_y (st_indexB (len:=4) (sz:=1) (n:=1) (by kernel_rfl) rfl rfl rfl rfl ?_)
  refine l_ (h:=lt_ (h:=pf_ (h:=m_ (h:=?_))))
  refine al_gs false rfl rfl (fun hb18=>?_) (fun hb18=>?_)
  ·have hc18:=bp hb18
   refine g0_ (h:=g0_ (h:=g0_ (h:=pt_ (h:=e_ (cy_ (h:=w_ (a_ (h:=e_ (aw_ret (x_blockR (x_thenR (?_))))))))))))
   refine e_ret ?_
   first|(exfalso;first|contradiction|omega)|(exact vi (by simp[befK,*]))
  have hc18:=bp hb18
  refine g_y (st_indexB (len:=4) (sz:=1) (n:=1) (by kernel_rfl) rfl rfl rfl rfl ?_)
  refine l_ (h:=gt_ (h:=pf_ (h:=e_ (?_))))
  refine aw_cond rfl (fun hb19=>?_) (fun hb19=>?_)
  ·have hc19:=bp hb19
   refine w_ (a_ (h:=e_ (aw_ret (x_blockR (x_thenR (?_))))))
   refine e_ret ?_
   first|(exfalso;first|contradiction|omega)|(exact vi (by simp[befK,*]))
  have hc19:=bp hb19
  refine aw_skip (x_blockN (t_ (w_ (a_ (h:=e_ (aw_ret (?_)))))))
  refine e_ret ?_
  first|(exfalso;first|contradiction|omega)|(exact vi (by simp[befK,*]))
 have hc15:=bp hb15
 refine w_ (eq_ (h:=a_ (h:=e_ (?_))))
 refine aw_cond rfl (fun hb20=>?_) (fun hb20=>?_)
 ·have hc20:=bp hb20
  refine w_ (m_ (h:=k_ (h:=f_ (h:=f_ (h:=l_ (h:=nq_ (h:=e_ (?_))))))))
  refine aw_cond rfl (fun hb21=>?_) (fun hb21=>?_)
  ·have hc21:=bp hb21
   refine w_ (a_ (h:=e_ (aw_ret (x_blockR (x_thenR (?_))))))
   refine e_ret ?_
   first|(exfalso;first|contradiction|omega)|(exact vi (by simp[befK,*]))
  have hc21:=bp hb21
  refine aw_skip (x_blockN (t_ (w_ (a_ (h:=e_ (aw_ret (?_)))))))
  refine e_ret ?_
  first|(exfalso;first|contradiction|omega)|(exact vi (by simp[befK,*]))
 have hc20:=bp hb20
 refine w_ (eq_ (h:=a_ (h:=e_ (?_))))
 refine aw_cond rfl (fun hb22=>?_) (fun hb22=>?_)
 ·have hc22:=bp hb22
  refine w_ (?_)
  refine al_p rfl (st_indexB (len:=4) (sz:=1) (n:=0) (by kernel_rfl) rfl rfl rfl rfl ?_)
  refine l_ (h:=lt_ (h:=e_ (?_)))
  refine aw_cond rfl (fun hb23=>?_) (fun hb23=>?_)
  ·have hc23:=bp hb23
   refine w_ (a_ (h:=e_ (aw_ret (x_blockR (x_thenR (?_))))))
   refine e_ret ?_
   first|(exfalso;first|contradiction|omega)|(exact vi (by simp[befK,*]))
  have hc23:=bp hb23
  refine aw_skip (x_blockN (t_ (w_ (a_ (h:=e_ (aw_ret (?_)))))))
  refine e_ret ?_
  first|(exfalso;first|contradiction|omega)|(exact vi (by simp[befK,*]))
 have hc22:=bp hb22
 refine aw_skip (x_blockN (t_ (w_ (a_ (h:=e_ (aw_ret (?_)))))))
 refine e_ret ?_
 first|(exfalso;first|contradiction|omega)|(exact vi (by simp[befK,*]))
end
def negK(n:Int):Int:=IntKind.i64.wrap (0 - n)
def runK(s:Syst)(pid:Int)(c:Cal):Syst×Res:=
 if hasT s.tab pid=false then(s,{res0 with exit:= -4})else if chkC c≠0 then(s,{res0 with exit:= -22})
 else if(lokC s (gotT s.tab pid) c).2.2≠0 then(s,{res0 with exit:=negK (lokC s (gotT s.tab pid) c).2.2,items:=(lokC s (gotT s.tab pid) c).1})
 else if(actW (wrkL s pid c)).2≠0 then(s,{res0 with exit:=negK (actW (wrkL s pid c)).2,items:=(lokC s (gotT s.tab pid) c).1})
 else((actW (wrkL s pid c)).1.s,(actW (wrkL s pid c)).1.r)
def runR(R:Syst×Res):AV:= .tup [.agg (sysA R.1), .agg (resK R.2)]
theorem LB_clone{α:Type}{sz:Nat}{F:α→List AV}(hF:RowF sz F)(l:List α)(cap0 cap:Nat):((LB sz F l cap0).drop 0).take (l.length * sz)++List.replicate ((cap - l.length) * sz) .any=LB sz F l cap:=by
 unfold LB
 have h:=rowsB_take (cap:=cap0) (LB_rows hF l)
 rw[List.length_map]at h
 rw[h]
 unfold rowsB
 rw[List.length_map]
def zSys:List AV:=[.v (.slice none 0 0), .v (.slice none 0 0), .v (.int .i64 0), .v (.int .i64 0), .v (.slice none 0 0)]
def zRes:List AV:=[.v (.int .i64 0), .v (.int .i64 0), .v (.int .i64 0), .v (.slice none 0 0), .v (.slice none 0 0)]
def resX(r:Res)(I:AV):List AV:=[.v (.int .i64 r.exit), .v (.int .i64 r.child), .v (.int .i64 r.gone),I, .sl 7 (r.changes.map chgA) none]
def wrk0(s:Syst)(pid:Int)(c:Cal):Wrk:=⟨s,gotT s.tab pid,c,[],res0⟩
theorem wrk0_le(s:Syst)(pid:Int)(c:Cal):LeA (.agg (sysA s++(prcA (gotT s.tab pid)++(calA c++[.v (.slice none 0 0), .v (.int .i64 0), .v (.int .i64 0), .v (.int .i64 0), .v (.slice none 0 0), .v (.slice none 0 0)])))) (.agg (wrkA (wrk0 s pid c) (.v (.slice none 0 0)) (.v (.slice none 0 0)))):=by
 refine LeA.agg ?_
 repeat (first|exact LeL.nil|refine LeL.cons (LeA.refl _) ?_|refine LeL.cons (LeA.nil _) ?_)
theorem filesW_len(w:Wrk)(R:ChgRes):(filesW w R).1.r.items.length=w.r.items.length:=by
 unfold filesW
 split<;>rfl
theorem tableW_len(w:Wrk)(R:Tab×Int):(tableW w R).1.r.items.length=w.r.items.length:=by
 unfold tableW
 split<;>rfl
theorem madeW_len(w:Wrk)(i:Nat)(a:Fil):(madeW w i a).r.items.length=w.r.items.length:=List.length_modify ..
theorem roleW_len(w:Wrk)(i:Nat)(r:Int):(roleW w i r).r.items.length=w.r.items.length:=List.length_modify ..
theorem createW_len(w:Wrk)(i:Nat)(n:Nod):(createW w i n).1.r.items.length=w.r.items.length:=by
 unfold createW
 split
 ·rw[madeW_len,filesW_len]
 rfl
theorem fdW_len(w:Wrk)(a:Fil):(fdW w a).1.r.items.length=w.r.items.length:=by
 unfold fdW
 rw[tableW_len]
 rfl
theorem openW_len(w:Wrk):(openW w).1.r.items.length=w.r.items.length:=by
 unfold openW
 repeat' split
 all_goals first|rfl|exact createW_len _ _ _|exact fdW_len _ _|exact(fdW_len _ _).trans (createW_len _ _ _)
theorem movW_len(w:Wrk)(R:ChgRes)(x:Fil):(movW w R x).1.r.items.length=w.r.items.length:=by
 unfold movW
 repeat' split
 all_goals first|rfl|exact filesW_len _ _|exact(madeW_len _ _ _).trans ((roleW_len _ _ _).trans (filesW_len _ _))
theorem renameW_len(w:Wrk):(renameW w).1.r.items.length=w.r.items.length:=by
 unfold renameW
 repeat' split
 all_goals first|rfl|exact movW_len _ _ _
theorem act6_len{w:Wrk}(h:w.c.num=6∨w.c.num=13):(actW w).1.r.items.length=w.r.items.length:=by
 rcases h with h|h
 ·rw[actW,if_pos h];exact openW_len w
 rw[actW,if_neg (show¬w.c.num=6 by omega),if_neg (show¬w.c.num=8 by omega),if_neg (show¬(w.c.num=10∨w.c.num=12) by omega),if_pos h];exact renameW_len w
section
variable {P:Program}{ev:Operand→Option AV}{h:AH}{R:AV→AH→Prop}{d:Option Tmp}{ty:TypeId}{pos:String}{af:Array Edge}{gd:Option (Nat×Bool)}
theorem st_neg{T:TypeId}{x:Operand}{a:Int}(hx:ev x=some (.v (.int .i64 a)))(hR:R (.v (.int .i64 (negK a))) h):AStep P ⟨d, .unOp .neg T x,ty,pos,af,gd⟩ ev h R:=
 st_val (fun _ G w ec _ he=>⟨.int .i64 (negK a),by
  have h1:=he x (by simp[Op.operands]) _ hx
  simp only[rep]at h1
  simp[execOp,h1,Op.unary,Op.intArith,negK],by simp only[rep]⟩) hR
end
section
set_option maxRecDepth 10000
set_option maxHeartbeats 4000000
theorem Ract6(w:Wrk)(cap:Nat)(hv:SpcV w.s.spc)(hm:w.s.spc.mounts.length≤1000)(htb:TabB w.s.tab)(hnm:∀f∈w.found,f.name.size≤12)(h6:(w.c.num=6∧1≤w.found.length∧1≤w.r.items.length)∨(w.c.num=13∧2≤w.found.length∧2≤w.r.items.length)):ACall Tryz.prog 68 [.bp 0 0] [WA w cap,IB w cap] (fun r b t=>t=[]∧r= .v (.int .i64 (actW w).2)∧b=[WA (actW w).1 cap,IB (actW w).1 cap]):=by
 have hps:w.s.tab.ps.length≤1000:=by have:=htb.few;omega
 refine enter Tryz.func68 rfl rfl rfl rfl rfl 2 rfl ?_
 refine w_ (a_ (h:=e_ (q_ (w_ (m_ (h:=k_ (h:=f_ (h:=f_ (h:=l_ (h:=e_ (aw_block (w_ (eq_ (h:=a_ (h:=e_ (?_))))))))))))))))
 refine aw_cond rfl (fun hb1=>?_) (fun hb1=>?_)
 ·have hc1:=bp hb1
  obtain⟨f,hf⟩:∃f,w.found[0]?=some f:=⟨_,List.getElem?_eq_getElem (by omega)⟩
  obtain⟨x,hx⟩:∃x,w.r.items[0]?=some x:=⟨_,List.getElem?_eq_getElem (by omega)⟩
  have hact:actW w=openW w:=by rw[actW,if_pos hc1]
  refine w_ (m_ (h:=?_))
  refine al_p rfl (s_callM [0,1] rfl (.cons _ _ _ _ _ rfl (LeA.refl _) .nil) (by decide) (.cons _ _ _ _ _ rfl rfl (.cons _ _ _ _ _ rfl (ren_LB itmF _ _ _) .nil)) (Ropenw w cap f x hv hm htb hf hx (by have:=hnm f (List.mem_of_getElem? hf);omega)) ?_)
  rintro r bc tc ⟨rfl,rfl,rfl⟩
  refine⟨rfl,_,back_W rfl (openW w).1 cap,?_⟩
  refine a_ (h:=e_ (aw_ret (x_blockR (x_thenR (?_)))))
  refine rt_ (r:= .v (.int .i64 (actW w).2)) none (h4:=(by simp[bpLtB,bpLtL,bpLt,bp_LB itmF,bp_wrk,WA,IB,fndS])) (h5:=(by rw[hact];exact LeA.refl _)) (h6:=⟨rfl,rfl,?_⟩)
  rw[hact]
  rfl
 have hc1:=bp hb1
 refine w_ (eq_ (h:=a_ (h:=e_ (?_))))
 refine aw_cond rfl (fun hb2=>?_) (fun hb2=>?_)
 ·have hc2:=bp hb2
  exfalso;first|contradiction|omega
 have hc2:=bp hb2
 refine q_ (w_ (eq_ (h:=a_ (h:=e_ (?_)))))
 refine aw_cond rfl (fun hb3=>?_) (fun hb3=>?_)
 ·have hc3:=bp hb3
  exfalso;first|contradiction|omega
 have hc3:=bp hb3
 refine aw_region (eq_ (h:=a_ (h:=e_ (?_))))
 refine aw_cond rfl (fun hb4=>?_) (fun hb4=>?_)
 ·have hc4:=bp hb4
  exfalso;first|contradiction|omega
 have hc4:=bp hb4
 refine w_ (eq_ (h:=a_ (h:=e_ (?_))))
 refine aw_cond rfl (fun hb5=>?_) (fun hb5=>?_)
 ·have hc5:=bp hb5
  obtain⟨f,hf⟩:∃f,w.found[0]?=some f:=⟨_,List.getElem?_eq_getElem (by omega)⟩
  obtain⟨g,hg⟩:∃f,w.found[1]?=some f:=⟨_,List.getElem?_eq_getElem (by omega)⟩
  obtain⟨x,hx⟩:∃x,w.r.items[0]?=some x:=⟨_,List.getElem?_eq_getElem (by omega)⟩
  obtain⟨x1,hx1⟩:∃x,w.r.items[1]?=some x:=⟨_,List.getElem?_eq_getElem (by omega)⟩
  have hact:actW w=renameW w:=by rw[actW,if_neg (show¬w.c.num=6 by omega),if_neg (show¬w.c.num=8 by omega),if_neg (show¬(w.c.num=10∨w.c.num=12) by omega),if_pos hc5]
  refine w_ (m_ (h:=?_))
  refine al_p rfl (s_callM [0,1] rfl (.cons _ _ _ _ _ rfl (LeA.refl _) .nil) (by decide) (.cons _ _ _ _ _ rfl rfl (.cons _ _ _ _ _ rfl (ren_LB itmF _ _ _) .nil)) (Rrenamew w cap f g x x1 hv hm hps hf hg hx hx1 (by have:=hnm f (List.mem_of_getElem? hf);omega) (by have:=hnm g (List.mem_of_getElem? hg);omega)) ?_)
  rintro r bc tc ⟨rfl,rfl,rfl⟩
  refine⟨rfl,_,back_W rfl (renameW w).1 cap,?_⟩
  refine a_ (h:=e_ (aw_ret (x_blockR (x_thenR (?_)))))
  refine rt_ (r:= .v (.int .i64 (actW w).2)) none (h4:=(by simp[bpLtB,bpLtL,bpLt,bp_LB itmF,bp_wrk,WA,IB,fndS])) (h5:=(by rw[hact];exact LeA.refl _)) (h6:=⟨rfl,rfl,?_⟩)
  rw[hact]
  rfl
 have hc5:=bp hb5
 exfalso;first|contradiction|omega
theorem Rrun6(s:Syst)(pid:Int)(c:Cal)(hv:SpcV s.spc)(hm:s.spc.mounts.length≤1000)(ht:TabB s.tab)(hcp:c.paths.length≤1000)(hca:c.args.length≤1000)(h6:c.num=6∨c.num=13):AFn Tryz.prog 35 [.agg (sysA s), .v (.int .i64 pid), .agg (calA c)] (fun r=>r=runR (runK s pid c)):=by
 have hsb:=hv.b hm
 obtain⟨W1,hW1⟩:∃W,W=wrkL s pid c:=⟨_,rfl⟩
 have hwf:=wrkL_wf s pid c
 rw[←hW1]at hwf
 have hWs:W1.s=s:=by rw[hW1];rfl
 have hWc:W1.c=c:=by rw[hW1];rfl
 refine enter Tryz.func35 rfl rfl rfl rfl rfl 0 rfl ?_
 refine w_ (b_ (h:=b_ (h:=al_ (h:=al_ (h:=e_ (w_ (f_ (h:=l_ (h:=m_ (h:=?_))))))))))
 refine al_p rfl (q_call (RgetT s.tab pid ht) ?_)
 rintro r rfl
 refine m_ (h:=x_ (h:=x_ (h:=al_ (h:=s_ (h:=a_ (h:=e_ (q_ (w_ (m_ (h:=nt_ (h:=e_ (?_))))))))))))
 refine aw_cond rfl (fun hb1=>?_) (fun hb1=>?_)
 ·have hc1:=bp hb1
  have hno:hasT s.tab pid=false:=by simpa using hc1
  refine w_ (l_ (h:=?_))
  refine al_p rfl (q_call (RcpK s hsb ht) ?_)
  rintro r rfl
  refine al_p rfl (lf_ (y:= .agg (resK {res0 with exit:= -4})) (bz_ ⟨rfl,rfl⟩) ?_)
  refine s_ (h:=s_ (h:=e_ (aw_ret (x_thenR (?_)))))
  refine e_ret ?_
  rw[runK,if_pos hno];rfl
 have hc1:=bp hb1
 have hno:¬hasT s.tab pid=false:=by simpa using hc1
 refine kt_ (q_ (w_ (l_ (h:=?_))))
 refine al_p rfl (q_call (RchkK c hcp hca) ?_)
 rintro r rfl
 refine nq_ (h:=e_ (?_))
 refine aw_cond rfl (fun hb2=>?_) (fun hb2=>?_)
 ·have hc2:=bp hb2
  have hck:chkC c≠0:=by simpa using hc2
  refine w_ (l_ (h:=?_))
  refine al_p rfl (q_call (RcpK s hsb ht) ?_)
  rintro r rfl
  refine al_p rfl (lf_ (y:= .agg (resK {res0 with exit:= -22})) (bz_ ⟨rfl,rfl⟩) ?_)
  refine s_ (h:=s_ (h:=e_ (aw_ret (x_thenR (?_)))))
  refine e_ret ?_
  rw[runK,if_neg hno,if_pos hck];rfl
 have hc2:=bp hb2
 have hck:chkC c=0:=by simpa using hc2
 obtain⟨hk1,hk2,hk3,hk4,hk5⟩:=chk_ok hck
 have hargs:∀p∈(wrk0 s pid c).c.args,p.size≤1000:=fun p hp=>by have:=hk5 p hp;omega
 have hpaths:∀p∈(wrk0 s pid c).c.paths,p.size≤100000:=fun p hp=>by have:=hk4 p hp;omega
 have hpn:(c.num=6∧c.paths.length=1∧(permL c).length=1)∨(c.num=13∧c.paths.length=2∧(permL c).length=2):=by
  rcases h6 with h|h
  ·refine .inl ⟨h,?_,?_⟩
   ·rw[h]at hk1;have:(rowK 6).2.2.1=1:=rfl;omega
   simp[permL,h]
  refine .inr ⟨h,?_,?_⟩
  ·rw[h]at hk1;have:(rowK 13).2.2.1=2:=rfl;omega
  simp[permL,h]
 have hpp:(wrk0 s pid c).c.paths.length=(permL (wrk0 s pid c).c).length:=by show c.paths.length=(permL c).length;omega
 have hp0:0<(wrk0 s pid c).c.paths.length:=by show 0<c.paths.length;omega
 have hzl:(c.paths.zip (permL c)).length=c.paths.length:=by rw[List.length_zip];omega
 have hil0:0<W1.r.items.length:=by rw[hwf.2.2,hzl];omega
 refine kt_ (q_ (yk_ ([(0,sysA s),(1,calA c),(4,prcA (gotT s.tab pid))]) 7 (h:=?_)))
 first|refine dl_ 0 (h:=?_)|refine tk_ 0 rfl (fun _ hS=>st_loadBE (row:=sysA s) rfl (kb hS rfl) (Nat.le_of_ble_eq_true rfl) rfl ⟨rfl,rfl⟩) ?_|refine tk_ 0 rfl (fun _ hS=>st_loadBE (row:=calA c) rfl (kb hS rfl) (Nat.le_of_ble_eq_true rfl) rfl ⟨rfl,rfl⟩) ?_|refine tk_ 0 rfl (fun _ hS=>st_loadBE (row:=prcA (gotT s.tab pid)) rfl (kb hS rfl) (Nat.le_of_ble_eq_true rfl) rfl ⟨rfl,rfl⟩) ?_
 first|refine dl_ 2 (h:=?_)|refine tk_ 2 rfl (fun _ hS=>st_loadBE (row:=sysA s) rfl (kb hS rfl) (Nat.le_of_ble_eq_true rfl) rfl ⟨rfl,rfl⟩) ?_|refine tk_ 2 rfl (fun _ hS=>st_loadBE (row:=calA c) rfl (kb hS rfl) (Nat.le_of_ble_eq_true rfl) rfl ⟨rfl,rfl⟩) ?_|refine tk_ 2 rfl (fun _ hS=>st_loadBE (row:=prcA (gotT s.tab pid)) rfl (kb hS rfl) (Nat.le_of_ble_eq_true rfl) rfl ⟨rfl,rfl⟩) ?_
 first|refine dl_ 3 (h:=?_)|refine tk_ 3 rfl (fun _ hS=>st_loadBE (row:=sysA s) rfl (kb hS rfl) (Nat.le_of_ble_eq_true rfl) rfl ⟨rfl,rfl⟩) ?_|refine tk_ 3 rfl (fun _ hS=>st_loadBE (row:=calA c) rfl (kb hS rfl) (Nat.le_of_ble_eq_true rfl) rfl ⟨rfl,rfl⟩) ?_|refine tk_ 3 rfl (fun _ hS=>st_loadBE (row:=prcA (gotT s.tab pid)) rfl (kb hS rfl) (Nat.le_of_ble_eq_true rfl) rfl ⟨rfl,rfl⟩) ?_
 refine c_ 1 rfl (q_call (RcpK s hsb ht) ?_)
 rintro r rfl
 refine o_ (h:=?_)
 refine tk_ 4 rfl (fun _ hS=>st_le (y:= .agg (wrkA (wrk0 s pid c) (.v (.slice none 0 0)) (.v (.slice none 0 0)))) (bz_ ⟨rfl,rfl⟩) (wrk0_le s pid c) ⟨rfl,rfl⟩) ?_
 first|refine c_ 5 rfl (s_boxA rfl rfl (by repeat constructor) ?_)|refine c_ 5 rfl (s_box rfl rfl (by repeat constructor) ?_)
 refine o_ (h:=da_ 6 (h:=z_ (h:=t_ (?_))))
 refine aw_midI (fun S=>∃cap,W1.r.items.length≤cap∧S=⟨look [(3, .bp 2 0),(6, .bp 3 0),(7, .bp 4 0),(10, .bp 0 0),(11, .v (.int .i64 (lokC s (gotT s.tab pid) c).2.2))],⟨[WA W1 cap,IB W1 cap,sysA s,zSys,zRes],[]⟩⟩) ?_ ?_
 ·skip
  refine aw_region (m_ (h:=m_ (h:=?_)))
  refine al_p rfl (s_callR 1 rfl (.cons _ _ _ _ _ rfl (LeA.of_eq rfl) .nil) (RbefK (wrk0 s pid c) (.v (.slice none 0 0)) (.v (.slice none 0 0)) (fun h=>by have:c.num=9:=h;omega) hargs) ?_)
  rintro r rfl
  refine⟨rfl,?_⟩
  refine al_p rfl (s_callM [5] rfl (.cons _ _ _ _ _ rfl (LeA.refl _) (.cons _ _ _ _ _ rfl (LeA.refl _) .nil)) (by decide) (.cons _ _ _ _ _ rfl rfl .nil) (Rlookw (wrk0 s pid c) (befK (gotT s.tab pid) c) hv hm hpp (by show c.paths.length≤1000;omega) hp0 hpaths) ?_)
  rintro r bc tc ⟨rfl,cap,hcap,rfl,rfl⟩
  refine⟨rfl,_,back_look (wrk0 s pid c) _ _ cap _,?_⟩
  refine a_ (h:=al_nil (?_))
  refine x_then ?_
  rw[hW1]
  exact⟨_,⟨cap,hcap,rfl⟩,weak_ren [5,6,0,2,3] (fun i hi=>absurd hi (Nat.not_lt_zero i)) (by decide) (.cons _ _ _ _ _ rfl rfl (.cons _ _ _ _ _ rfl (renK_LB itmF _ _ _) (.cons _ _ _ _ _ rfl rfl (.cons _ _ _ _ _ rfl rfl (.cons _ _ _ _ _ rfl rfl .nil))))) (by repeat (first|exact SubK.nil|refine SubK.cons _ _ _ _ rfl (LeA.refl _) ?_))⟩
 rintro S ⟨cap,hcap,rfl⟩
 refine w_ (m_ (h:=k_ (h:=f_ (h:=f_ (h:=l_ (h:=?_))))))
 refine al_p rfl (st_append0B rfl rfl (SrcA.bs 1 0 _ cap _ rfl (by rw[show IB W1 cap=LB 13 itmK W1.r.items cap from rfl,LB_len itmF hcap];omega)) hil0 (by rw[hwf.2.2,hzl];omega) ?_)
 rintro cap2 k bx2 hcp2 hs
 rw[show((IB W1 cap).drop 0).take (W1.r.items.length * 13)++List.replicate ((cap2 - W1.r.items.length) * 13) AV.any=LB 13 itmK W1.r.items cap2 from LB_clone itmF _ cap cap2]at hs
 obtain⟨rfl,rfl⟩:k=5∧bx2=[_,_,_,_,_,_]:=hs.eq
 refine a_ (h:=e_ (?_))
 refine aw_midI (fun S=>∃(W2:Wrk) (E2:Int),((¬(lokC s (gotT s.tab pid) c).2.2=0∧E2=(lokC s (gotT s.tab pid) c).2.2)∨((lokC s (gotT s.tab pid) c).2.2=0∧W2=(actW W1).1∧E2=(actW W1).2))∧S=⟨look [(3, .bp 2 0),(6, .bp 3 0),(7, .bp 4 0),(10, .bp 0 0),(11, .v (.int .i64 E2)),(12, .bs 5 0 13 W1.r.items.length cap2)],⟨[WA W2 cap,IB W2 cap,sysA s,zSys,zRes,LB 13 itmK W1.r.items cap2],[]⟩⟩) ?_ ?_
 ·skip
  refine w_ (m_ (h:=eq_ (h:=e_ (?_))))
  refine aw_cond rfl (fun hb3=>?_) (fun hb3=>?_)
  ·have hc3:=bp hb3
   have he1:(lokC s (gotT s.tab pid) c).2.2=0:=by simpa using hc3
   refine aw_region (m_ (h:=?_))
   refine al_p rfl (s_callM [0,1] rfl (.cons _ _ _ _ _ rfl (LeA.refl _) .nil) (by decide) (.cons _ _ _ _ _ rfl rfl (.cons _ _ _ _ _ rfl (ren_LB itmF _ _ _) .nil)) (Ract6 W1 cap (by rw[hWs];exact hv) (by rw[hWs];exact hm) (by rw[hWs];exact ht) hwf.1 (by rw[hWc,hwf.2.1,hwf.2.2,hzl];omega)) ?_)
   rintro r bc tc ⟨rfl,rfl,rfl⟩
   refine⟨rfl,_,back_W rfl (actW W1).1 cap,?_⟩
   refine a_ (h:=al_nil (?_))
   refine x_then ?_
   first|exact⟨_,⟨(actW W1).1,(actW W1).2, .inr ⟨he1,rfl,rfl⟩,rfl⟩,wb_ 6 0 (by simp[bpLtB,bpLtL,bpLt,bp_LB itmF,bp_wrk,WA,IB,fndS,sysA,zSys,zRes])⟩|exact⟨_,⟨W1,_, .inl ⟨he1,rfl⟩,rfl⟩,wb_ 6 0 (by simp[bpLtB,bpLtL,bpLt,bp_LB itmF,bp_wrk,WA,IB,fndS,sysA,zSys,zRes])⟩
  have hc3:=bp hb3
  have he1:¬(lokC s (gotT s.tab pid) c).2.2=0:=by simpa using hc3
  refine aw_skip (?_)
  refine x_then ?_
  first|exact⟨_,⟨(actW W1).1,(actW W1).2, .inr ⟨he1,rfl,rfl⟩,rfl⟩,wb_ 6 0 (by simp[bpLtB,bpLtL,bpLt,bp_LB itmF,bp_wrk,WA,IB,fndS,sysA,zSys,zRes])⟩|exact⟨_,⟨W1,_, .inl ⟨he1,rfl⟩,rfl⟩,wb_ 6 0 (by simp[bpLtB,bpLtL,bpLt,bp_LB itmF,bp_wrk,WA,IB,fndS,sysA,zSys,zRes])⟩
 rintro S ⟨W2,E2,hQ,rfl⟩
 refine q_ (w_ (m_ (h:=nq_ (h:=e_ (?_)))))
 refine aw_cond rfl (fun hb4=>?_) (fun hb4=>?_)
 ·have hc4:=bp hb4
  have he2:E2≠0:=by simpa using hc4
  have hrun:runK s pid c=(s,{res0 with exit:=negK E2,items:=W1.r.items}):=by
   rw[runK,if_neg hno,if_neg (by simp[hck])]
   rcases hQ with⟨q1,q2⟩|⟨q1,q2,q3⟩
   ·rw[if_pos q1,←q2,hW1];rfl
   rw[if_neg (by simp[q1]),←hW1,←q3,if_pos he2,hW1];rfl
  refine aw_midI (fun S=>S=⟨look [(6, .bp 0 0),(7, .bp 1 0)],⟨[sysA s,resX {res0 with exit:=negK E2} (.sl 13 (W1.r.items.map itmK) none)],[]⟩⟩) ?_ ?_
  ·skip
   refine aw_region (l_ (h:=?_))
   refine al_p rfl (q_call (RcpK s hsb ht) ?_)
   rintro r rfl
   refine m_ (h:=?_)
   refine al_p rfl (st_neg rfl ?_)
   refine m_ (h:=?_)
   refine al_p rfl (lf_ (y:= .agg (resX {res0 with exit:=negK E2} (.bs 5 0 13 W1.r.items.length cap2))) (bz_ ⟨rfl,rfl⟩) ?_)
   refine s_ (h:=s_ (h:=al_nil (?_)))
   refine x_then ?_
   refine⟨_,rfl,(weak_ren [3,4,5] (rows:=[sysA s,resX {res0 with exit:=negK E2} (.bs 2 0 13 W1.r.items.length cap2),LB 13 itmK W1.r.items cap2]) (l:=[(6, .bp 0 0),(7, .bp 1 0)]) (fun i hi=>absurd hi (Nat.not_lt_zero i)) (by decide) (.cons _ _ _ _ _ rfl rfl (.cons _ _ _ _ _ rfl rfl (.cons _ _ _ _ _ rfl (renK_LB itmF _ _ _) .nil))) (by repeat (first|exact SubK.nil|refine SubK.cons _ _ _ _ rfl (LeA.refl _) ?_))).trans (weak_fz 2 1 rfl (congrArg (fun x=>[sysA s,resX {res0 with exit:=negK E2} x]) (low_bsv itmF rfl rfl hcp2)) (.cons _ _ _ _ rfl (LeA.refl _) (.cons _ _ _ _ rfl (LeA.refl _) .nil)))⟩
  rintro S rfl
  refine aw_ret (x_thenR (?_))
  refine rt_ (r:=runR (runK s pid c)) none (h5:=(by rw[hrun];exact(by repeat (first|exact LeA.refl _|exact LeA.nil _|exact LeL.refl _|refine LeA.agg ?_|refine LeA.tup ?_|exact LeL.nil|refine LeL.cons ?_ ?_|exact LeA.any _)))) (h6:=⟨rfl,rfl,rfl⟩)
 have hc4:=bp hb4
 have he2:E2=0:=by simpa using hc4
 have hlen2:W2.r.items.length≤cap:=by
  rcases hQ with⟨q1,q2⟩|⟨q1,q2,q3⟩
  ·exact absurd (q2.symm.trans he2) q1
  rw[q2,act6_len (by rw[hWc];exact h6)];exact hcap
 have hrun:runK s pid c=(W2.s,W2.r):=by
  rcases hQ with⟨q1,q2⟩|⟨q1,q2,q3⟩
  ·exact absurd (q2.symm.trans he2) q1
  rw[runK,if_neg hno,if_neg (by simp[hck]),if_neg (by simp[q1]),←hW1,←q3,if_neg (by simp[he2]),q2]
 refine kt_ (?_)
 refine aw_midI (fun S=>S=⟨look [(6, .bp 0 0),(7, .bp 1 0)],⟨[sysA W2.s,resX W2.r (.sl 13 (W2.r.items.map itmK) none)],[]⟩⟩) ?_ ?_
 ·skip
  refine yk_ ([(0,WA W2 cap)]) 10 (h:=dm_ 0 (h:=dk_ 1 (h:=df_ 2 (h:=dl_ 3 (h:=dm_ 4 (h:=dk_ 5 (h:=df_ 6 (h:=dl_ 7 (h:=?_)))))))))
  refine c0_ 8 rfl (s_store rfl rfl rfl rfl rfl rfl (by repeat constructor) (by repeat constructor) ?_)
  refine o_ (h:=?_)
  refine c0_ 9 rfl (s_store rfl rfl rfl rfl rfl rfl (by repeat constructor) (by repeat constructor) ?_)
  refine o_ (h:=z_ (h:=?_))
  refine x_then ?_
  refine⟨_,rfl,(weak_ren [3,4,1] (rows:=[sysA W2.s,resX W2.r (.bs 2 0 13 W2.r.items.length cap),LB 13 itmK W2.r.items cap]) (l:=[(6, .bp 0 0),(7, .bp 1 0)]) (fun i hi=>absurd hi (Nat.not_lt_zero i)) (by decide) (.cons _ _ _ _ _ rfl rfl (.cons _ _ _ _ _ rfl rfl (.cons _ _ _ _ _ rfl (renK_LB itmF _ _ _) .nil))) (by repeat (first|exact SubK.nil|refine SubK.cons _ _ _ _ rfl (LeA.refl _) ?_))).trans (weak_fz 2 1 rfl (congrArg (fun x=>[sysA W2.s,resX W2.r x]) (low_bsv itmF rfl rfl hlen2)) (.cons _ _ _ _ rfl (LeA.refl _) (.cons _ _ _ _ rfl (LeA.refl _) .nil)))⟩
 rintro S rfl
 refine aw_ret (?_)
 refine e_ret ?_
 rw[hrun];rfl
end
structure Wch where
 kind:Int
 dir:Fil
 name:Str
 file:Fil
deriving DecidableEq
def wch0:Wch:=⟨0,(0,0),⟨#[]⟩,(0,0)⟩
def wchA(w:Wch):List AV:=[.v (.int .i64 w.kind), .v (.int .i64 w.dir.1), .v (.int .i64 w.dir.2), .v (.string w.name), .v (.int .i64 w.file.1), .v (.int .i64 w.file.2)]
def thereW(s:Spc)(a:Fil):Bool:=dirL s.files a&&mtdL s a.1
def plcW(s:Spc)(k:Int)(p:Str):Wch×Int:=
 if(k≠1∧k≠2)∨cleanL p.data.toList=false then(wch0,22)
 else if(findL s (0,0) p (decide (k=2))).2≠0 then(wch0,(findL s (0,0) p (decide (k=2))).2)
 else if k=2 then
  (if(findL s (0,0) p true).1.ex=false then(wch0,2)else if dirL s.files (findL s (0,0) p true).1.file=false then(wch0,20)
  else(⟨k,(0,0),⟨#[]⟩,(findL s (0,0) p true).1.file⟩,0))
 else if(findL s (0,0) p false).1.name=⟨#[]⟩then(wch0,22)
 else(⟨k,(findL s (0,0) p false).1.dir,(findL s (0,0) p false).1.name,(lookL s.files (findL s (0,0) p false).1.dir (findL s (0,0) p false).1.name).1⟩,0)
def curW(s:Spc)(w:Wch):Bool:=
 if w.kind=1 then thereW s w.dir&&decide ((lookL s.files w.dir w.name).1=w.file)&&nameL w.name
 else if w.kind=2 then thereW s w.file&&decide (w.dir=(0,0))&&decide (w.name=⟨#[]⟩)else false
def dirOfW(w:Wch):Fil:=if w.kind=2 then w.file else w.dir
def folW(s:Spc)(w:Wch):Wch×Bool:=
 if(w.kind≠1∧w.kind≠2)∨thereW s (dirOfW w)=false then(wch0,false)
 else if w.kind=1 then({w with file:=(lookL s.files w.dir w.name).1},true)else(w,true)
def movedW(w:Wch)(l:List Chg):Wch:=if w.kind=1 then{w with file:=l.foldl (fun a c=>if c.1=w.dir∧c.2.1=w.name then c.2.2.2 else a) w.file}else w
def chgW(w:Wch)(gone:Int)(l:List Chg):Wch×Bool:=
 if(w.kind≠1∧w.kind≠2)∨(gone≠0∧gone=(dirOfW w).1)∨((l.any fun c=>decide (c.2.2.1=dirOfW w))=true∧(l.any fun c=>decide (c.2.2.2=dirOfW w))=false)then(wch0,false)
 else(movedW w l,true)
theorem lks_at{s:Spc}{fl:Bool}{p:Str}{ps:List Str}{a:Fil}{lk:Nat}{τ:Lk}(h:lkS s fl p ps a lk= .inr τ)(hn:τ.name≠⟨#[]⟩):τ.dir=a∧dirL s.files a=true:=by
 unfold lkS at h
 split at h
 ·cases h
 rename_i c
 repeat' split at h
 all_goals first|(cases h;done)|(injection h with h;subst h;first|exact absurd rfl hn|exact⟨rfl,by simpa using c⟩)
section
variable {s:Spc}(hv:SpcV s)
include hv
theorem root01:dirL s.files (0,1)=true:=root_dir hv (Int.le_refl 0) (by have:=hv.pos;omega)
theorem vis_there{a:Fil}(h:visP s a=true):thereW s a=true:=by
 have h2:=where_ok ((vis_iff hv a).1 h).1.1
 unfold thereW
 rw[h2.1,h2.2]
 rfl
theorem lkg_plc{fl:Bool}:∀(k:Nat) (σ:Lk),(dirL s.files σ.file=true→visP s σ.file=true)→(σ.name≠⟨#[]⟩→visP s σ.dir=true)→(lkG s fl k σ).1=0→(lkG s fl k σ).2.name≠⟨#[]⟩→visP s (lkG s fl k σ).2.dir=true:=by
 intro k
 induction k with
 |zero=>intro σ _ h _ hn;exact h hn
 |succ k ih=>
   intro σ h1 h2
   unfold lkG
   cases σ.ps with
   |nil=>exact fun _=>h2
   |cons p ps=>
     simp only
     cases hs:lkS s fl p ps σ.file σ.links with
     |inl e=>exact fun c=>absurd c (lks_err hs)
     |inr τ=>exact ih τ (lks_vis hv (root01 hv) h1 hs) fun hn=>by obtain⟨e1,e2⟩:=lks_at hs hn;rw[e1];exact h1 e2
theorem place_cur{k:Int}{p:Str}(h:(plcW s k p).2=0):curW s (plcW s k p).1=true:=by
 unfold plcW at h ⊢
 split at h
 ·exact absurd h (by decide)
 rename_i c1
 rw[if_neg c1]
 have hr:visP s (rootD s)=true:=vis_down hv (wvis_root hv (root01 hv))
 split at h
 ·rename_i c2;exact absurd h c2
 rename_i c2
 rw[if_neg c2]
 have hfnd:∀fl,(findL s (0,0) p fl).2=0→∃σ,(lkG s (fl||lsL p) (lkM σ) σ).1=0∧(dirL s.files σ.file=true→visP s σ.file=true)∧(σ.name≠⟨#[]⟩→visP s σ.dir=true)∧(findL s (0,0) p fl).1=fndOf s (lsL p) (lkG s (fl||lsL p) (lkM σ) σ).2:=by
  intro fl h0
  unfold findL at h0 ⊢
  have hst:dirL s.files (if hdL p=true then rootD s else(0,0))=true→visP s (if hdL p=true then rootD s else(0,0))=true:=by
   split
   ·exact fun _=>hr
   intro h;rw[no_zero hv]at h;cases h
  generalize (if hdL p=true then rootD s else(0,0))=d at h0 hst ⊢
  repeat' split at h0
  all_goals first|(exact absurd h0 (by decide);done)|(rename_i c;exact absurd h0 c;done)|skip
  rename_i d1 d2 d3 d4 d5
  refine⟨lk0 (splS p) d,by have:=d4;unfold lkT at this;simpa using this,hst,fun hn=>absurd rfl hn,?_⟩
  rw[if_neg d1,if_neg d2,if_neg d3,if_neg d4,if_neg d5]
  rfl
 split at h
 ·rename_i c3
  rw[if_pos c3]
  split at h
  ·exact absurd h (by decide)
  rename_i c4
  rw[if_neg c4]
  split at h
  ·exact absurd h (by decide)
  rename_i c5
  rw[if_neg c5]
  have c5:dirL s.files (findL s (0,0) p true).1.file=true:=by simpa using c5
  have c2:(findL s (0,0) p true).2=0:=by
   have:=c2
   rw[decide_eq_true c3]at this
   simpa using this
  obtain⟨σ,h1,h2,h3,h4⟩:=hfnd true c2
  have hv2:visP s (findL s (0,0) p true).1.file=true:=by
   rw[h4]at c5 ⊢
   exact lkt_vis hv (root01 hv) _ σ h2 h1 c5
  unfold curW
  simp only
  rw[if_neg (by omega),if_pos c3,vis_there hv hv2]
  rfl
 rename_i c3
 rw[if_neg c3]
 split at h
 ·exact absurd h (by decide)
 rename_i c4
 rw[if_neg c4]
 have hk:k=1:=by
  simp only[not_or,not_and,Decidable.not_not]at c1
  exact Decidable.byContradiction fun hk=>c3 (c1.1 hk)
 have c2:(findL s (0,0) p false).2=0:=by
  have:=c2
  rw[decide_eq_false c3]at this
  simpa using this
 obtain⟨σ,h1,h2,h3,h4⟩:=hfnd false c2
 have hv2:visP s (findL s (0,0) p false).1.dir=true:=by
  rw[h4]at c4 ⊢
  exact lkg_plc hv _ σ h2 h3 h1 c4
 have hnm:nameL (findL s (0,0) p false).1.name=true:=by
  obtain⟨τ,ht,he⟩:=find_fin hv (st:=(0,0)) (p:=p) (fl:=false) (x:=(findL s (0,0) p false).1) (Prod.ext rfl c2)
  rw[he]at c4 ⊢
  rcases ht with ht|ht
  ·exact absurd ht.1 c4
  exact ht.1
 unfold curW
 simp only
 rw[if_pos hk,vis_there hv hv2,hnm]
 simp
end
end Go.Proofs.YtbglbmnhgbgelaaGreatDoor
