/-
  Part 8 of the proof of WatchPlacesP: what the statement's proof uses of the texts in wip/tpl.
-/
import Derived.Test.YtbglbmnhgbgelaaGreatDoorQa7
namespace Go.Proofs.YtbglbmnhgbgelaaGreatDoor
open Go.RowKit
theorem back_none(n:Nat):∀j,backS [] n j=some (n+j):=fun j=>by simp[backS]
theorem back_new2{bx:List (List AV)}{n:Nat}(hn:bx.length=n)(f:Fls)(q:Nat)(d:Dvc)(ns:List Nod)(cap cap1:Nat):Back bx [] [DB f q d 1 cap cap1,NB ns cap1] (bx++[DB f q d (n+1) cap cap1,NB ns cap1]):=by
 subst hn
 refine⟨by simp,fun i row _ h=>?_,fun k i row h=>by simp at h,fun k row h=>?_⟩
 ·rw[List.getElem?_append_left (List.getElem?_eq_some_iff.1 h).1];exact h
 rw[List.getElem?_append_right (by omega),show bx.length+k - bx.length=k by omega]
 simp only[List.length_nil,Nat.zero_add]at h
 match k,h with
 |0,h=>injection h with h;subst h;rw[ren_DB (back_none _ 1)];rfl
 |1,h=>injection h with h;subst h;rw[ren_NB];rfl
 |k+2,h=>simp at h
theorem back_two{bx:List (List AV)}{i0 i1:Nat}(h0:i0<bx.length)(h1:i1<bx.length)(hne:i0≠i1)(f:Fls)(q:Nat)(d:Dvc)(ns:List Nod)(cap cap1 cap1':Nat):
    Back bx [i0,i1] [DB f q d 1 cap cap1,NB ns cap1'] ((bx.set i0 (DB f q d i1 cap cap1)).set i1 (NB ns cap1')):=by
 refine⟨by simp,fun i row hi h=>?_,fun k i row h hr=>?_,fun k row h=>by simp at h⟩
 ·simp only[List.mem_cons,List.not_mem_nil,or_false,not_or]at hi
  rw[List.getElem?_set_ne (Ne.symm hi.2),List.getElem?_set_ne (Ne.symm hi.1)];exact h
 match k,h,hr with
 |0,h,hr=>
   simp at h hr;subst h;subst hr
   rw[List.getElem?_set_ne (Ne.symm hne),List.getElem?_set_self h0,ren_DB (g:=backS [i0,i1] bx.length) (j:=1) (j':=i1) rfl]
 |1,h,hr=>
   simp at h hr;subst h;subst hr
   rw[List.getElem?_set_self (by simpa using h1),ren_NB]
 |k+2,h,_=>simp at h
theorem back_five{bx:List (List AV)}{n i0 i1:Nat}(hn:bx.length=n)(h0:i0<n)(h1:i1<n)(hne:i0≠i1)(f:Fls)(q:Nat)(d:Dvc)(ns ns':List Nod)(a:Fil)(l cap0 cap cap1 cap2:Nat):
    Back bx [i0,i1] [DB f q d 4 cap cap2,NB ns cap1,[.bs 0 0 2 l cap0],filA a,NB ns' cap2] ((bx.set i0 (DB f q d (n+2) cap cap2)).set i1 (NB ns cap1)++[[.bs i0 0 2 l cap0],filA a,NB ns' cap2]):=by
 subst hn
 have hl:((bx.set i0 (DB f q d (bx.length+2) cap cap2)).set i1 (NB ns cap1)).length=bx.length:=by simp
 refine⟨by simp,fun i row hi h=>?_,fun k i row h hr=>?_,fun k row h=>?_⟩
 ·simp only[List.mem_cons,List.not_mem_nil,or_false,not_or]at hi
  rw[List.getElem?_append_left (by rw[hl];exact(List.getElem?_eq_some_iff.1 h).1),List.getElem?_set_ne (Ne.symm hi.2),List.getElem?_set_ne (Ne.symm hi.1)];exact h
 ·match k,h,hr with
  |0,h,hr=>
    simp at h hr;subst h;subst hr
    rw[List.getElem?_append_left (by rw[hl];exact h0),List.getElem?_set_ne (Ne.symm hne),List.getElem?_set_self h0,ren_DB (g:=backS [i0,i1] bx.length) (j:=4) (j':=bx.length+2) rfl]
  |1,h,hr=>
    simp at h hr;subst h;subst hr
    rw[List.getElem?_append_left (by rw[hl];exact h1),List.getElem?_set_self (by simpa using h1),ren_NB]
  |k+2,h,_=>simp at h
 rw[List.getElem?_append_right (by rw[hl];omega),hl,show bx.length+k - bx.length=k by omega]
 match k,h with
 |0,h=>injection h with h;subst h;rfl
 |1,h=>injection h with h;subst h;rfl
 |2,h=>injection h with h;subst h;rw[ren_NB];rfl
 |k+3,h=>rw[List.getElem?_eq_none (by simp;omega)]at h;cases h
theorem back_four{bx:List (List AV)}{n i0 i1:Nat}(hn:bx.length=n)(h0:i0<n)(h1:i1<n)(hne:i0≠i1)(f:Fls)(q:Nat)(d:Dvc)(ns:List Nod)(a:Fil)(l cap0 cap cap1 cap1':Nat):
    Back bx [i0,i1] [DB f q d 1 cap cap1,NB ns cap1',[.bs 0 0 2 l cap0],filA a] ((bx.set i0 (DB f q d i1 cap cap1)).set i1 (NB ns cap1')++[[.bs i0 0 2 l cap0],filA a]):=by
 subst hn
 have hl:((bx.set i0 (DB f q d i1 cap cap1)).set i1 (NB ns cap1')).length=bx.length:=by simp
 refine⟨by simp,fun i row hi h=>?_,fun k i row h hr=>?_,fun k row h=>?_⟩
 ·simp only[List.mem_cons,List.not_mem_nil,or_false,not_or]at hi
  rw[List.getElem?_append_left (by rw[hl];exact(List.getElem?_eq_some_iff.1 h).1),List.getElem?_set_ne (Ne.symm hi.2),List.getElem?_set_ne (Ne.symm hi.1)];exact h
 ·match k,h,hr with
  |0,h,hr=>
    simp at h hr;subst h;subst hr
    rw[List.getElem?_append_left (by rw[hl];exact h0),List.getElem?_set_ne (Ne.symm hne),List.getElem?_set_self h0,ren_DB (g:=backS [i0,i1] bx.length) (j:=1) (j':=i1) rfl]
  |1,h,hr=>
    simp at h hr;subst h;subst hr
    rw[List.getElem?_append_left (by rw[hl];exact h1),List.getElem?_set_self (by simpa using h1),ren_NB]
  |k+2,h,_=>simp at h
 rw[List.getElem?_append_right (by rw[hl];omega),hl,show bx.length+k - bx.length=k by omega]
 match k,h with
 |0,h=>injection h with h;subst h;rfl
 |1,h=>injection h with h;subst h;rfl
 |k+2,h=>rw[List.getElem?_eq_none (by simp;omega)]at h;cases h
theorem DB_upd{f:Fls}{q:Nat}{d d':Dvc}(hn:d'.next=d.next)(hl:d'.nodes.length=d.nodes.length)(j cap cap1:Nat):DB f q d j cap cap1=DB (f.set q d') q d' j cap cap1:=by
 unfold DB devB devR
 rw[List.map_set,List.set_set,hn,hl]
theorem liv_upd{n:Nat}{bx:List (List AV)}{k i j:Nat}{f:Fls}{q:Nat}{d d':Dvc}{cap cap0 cap1:Nat}(hq:q<f.length)(hn:d'.next=d.next)(hl:d'.nodes.length=d.nodes.length)(hc:f.length≤cap)(hc1:d'.nodes.length≤cap1)(hni:n≤i)(hnj:n≤j)
    (hi:bx[i]?=some (DB f q d j cap cap1)) (hj:bx[j]?=some (NB d'.nodes cap1)):livL n (frzG n bx (k+2)) [.bs i 0 2 f.length cap0]=flsA (f.set q d'):=by
 have:Nat.blt i n=false:=by rw[←Bool.not_eq_true,Nat.blt_eq];omega
 have key:=low_fls (n:=n) (bx:=bx) (k:=k) (i:=i) (j:=j) (f:=f.set q d') (K:=q) (d:=d') (cap:=cap) (cap0:=cap0) (cap1:=cap1) (by simp[hq]) (by simpa using hc) hc1 hni hnj (by rw[hi,DB_upd hn hl]) hj
 rw[List.length_set]at key
 have key2:AV.agg [lowG (frzG n bx (k+2)) (.bs i 0 2 f.length cap0)]=AV.agg (flsA (f.set q d')):=key
 have e:livL n (frzG n bx (k+2)) [.bs i 0 2 f.length cap0]=[lowG (frzG n bx (k+2)) (.bs i 0 2 f.length cap0)]:=by simp only[livL,liv,this]
 rw[e]
 injection key2
structure FlsV(f:Fls):Prop where
 few:f.length≤3
 vd:∀d∈f,VD d
theorem FlsV.b{f:Fls}(h:FlsV f):FlsB f:=⟨by have:=h.few;omega,fun d hd=>by have:=(h.vd d hd).len;omega,fun d hd n hn=>by have:=(h.vd d hd).many n hn;omega⟩
theorem set_updI{ns:List Nod}(h:Asc ns){i:Nat}{n:Nod}(hi:ns[i]?=some n)(g:Nod→Nod):ns.set i (g n)=updI ns n.ino g:=by
 apply List.ext_getElem?
 intro k
 unfold updI
 rw[List.getElem?_map,List.getElem?_set]
 have hil:=(List.getElem?_eq_some_iff.1 hi).1
 split
 ·rename_i e
  subst e
  rw[hi]
  simp[hil]
 rename_i e
 cases hk:ns[k]? with
 |none=>rfl
 |some m=>
   have:m.ino≠n.ino:=by
    intro em
    obtain⟨l1,e1⟩:=List.getElem?_eq_some_iff.1 hi
    obtain⟨l2,e2⟩:=List.getElem?_eq_some_iff.1 hk
    have hp:=List.pairwise_iff_getElem.1 h
    rcases Nat.lt_or_gt_of_ne e with hlt|hlt
    ·have:=hp i k l1 l2 hlt;rw[e1,e2]at this;omega
    have:=hp k i l2 l1 hlt;rw[e1,e2]at this;omega
   simp[this]
def onD(f:Fls)(q:Nat)(g:List Nod→List Nod):Fls:=f.modify q fun d=>{d with nodes:=g d.nodes}
theorem onD_set{f:Fls}{q:Nat}{d:Dvc}(h:f[q]?=some d)(g:List Nod→List Nod):onD f q g=f.set q {d with nodes:=g d.nodes}:=by
 apply List.ext_getElem?
 intro k
 unfold onD
 rw[List.getElem?_modify,List.getElem?_set]
 split
 ·rename_i e
  subst e
  rw[h]
  simp[(List.getElem?_eq_some_iff.1 h).1]
 simp
theorem place_ok{f:Fls}{dir:Fil}{name:Str}(h:placeL f dir name=0):∃(q i:Nat) (d:Dvc) (n0:Nod),dir.1=(q:Int)∧f[q]?=some d∧d.nodes[i]?=some n0∧n0.ino=dir.2∧indexL f dir=(i:Int)∧nodeL f dir=some n0∧n0.kind=2∧nameL name=true:=by
 rcases index_node f dir with⟨_,h2⟩|⟨q,i,d,n,h1,h2,h3,h4,h5,h6⟩
 ·simp[placeL,h2]at h
 refine⟨q,i,d,n,h1,h2,h3,h4,h5,h6,?_⟩
 simp only[placeL,h6]at h
 split at h
 ·rename_i hk
  split at h
  ·rename_i hn;exact⟨hk,hn⟩
  omega
 omega
def chgR(R:ChgRes):AV:= .tup [.agg (flsA R.1), .sl 7 (R.2.1.map chgA) none, .v (.int .i64 R.2.2)]
theorem err_le(e:Int):LeA (.tup [.agg [.v (.slice none 0 0)], .v (.slice none 0 0), .v (.int .i64 e)]) (chgR ([],[],e)):=(by repeat (first|exact LeA.refl _|exact LeA.nil _|exact LeL.refl _|refine LeA.agg ?_|refine LeA.tup ?_|exact LeL.nil|refine LeL.cons ?_ ?_|exact LeA.any _))
def linkL(f:Fls)(dir:Fil)(name:Str)(a:Fil):ChgRes:=
 if placeL f dir name≠0 then([],[],placeL f dir name)else if hasG f a=false then([],[],2)else if a.1≠dir.1 then([],[],18)else if(nodG f a).kind=2 then([],[],1)else
 if(lookL f dir name).2=0 then([],[],17)else if fullL f dir=true then([],[],28)else(onD f dir.1.toNat fun ns=>entD ns dir.2 name a.2,[(dir,name,(0,0),a)],0)
section
set_option maxRecDepth 10000
set_option maxHeartbeats 2000000
theorem Rlink(f:Fls)(dir:Fil)(name:Str)(a:Fil)(hv:FlsV f)(hs:name.size≤100000):AFn Tryz.prog 46 [.agg (flsA f), .agg (filA dir), .v (.string name), .agg (filA a)] (fun r=>r=chgR (linkL f dir name a)):=by
 have hf:=hv.b
 refine enter Tryz.func46 rfl rfl rfl rfl rfl 0 rfl ?_
 refine w_ (b_ (h:=b_ (h:=b_ (h:=al_ (h:=a_ (h:=a_ (h:=e_ (q_ (w_ (l_ (h:=l_ (h:=m_ (h:=?_)))))))))))))
 refine al_p rfl (q_call (Rplace f dir name hf hs) ?_)
 rintro r rfl
 refine a_ (h:=e_ (w_ (m_ (h:=nq_ (h:=e_ (?_))))))
 refine aw_cond rfl (fun hb1=>?_) (fun hb1=>?_)
 ·have hc1:=bp hb1
  refine w_ (bd_ (h:=m_ (h:=s_ (h:=a_ (h:=a_ (h:=e_ (aw_ret (x_thenR (?_)))))))))
  refine rt_ (r:=chgR (linkL f dir name a)) none (h5:=?_) (h6:=⟨rfl,rfl,rfl⟩)
  rw[linkL,if_pos (by omega)]
  exact err_le _
 have hc1:=bp hb1
 refine kt_ (w_ (l_ (h:=l_ (h:=?_))))
 refine al_p rfl (q_call (Rnode f a hf) ?_)
 rintro r rfl
 refine m_ (h:=x_ (h:=x_ (h:=al_ (h:=s_ (h:=a_ (h:=e_ (q_ (w_ (m_ (h:=nt_ (h:=e_ (?_))))))))))))
 refine aw_cond rfl (fun hb2=>?_) (fun hb2=>?_)
 ·have hc2:=bp hb2
  refine w_ (bd_ (h:=s_ (h:=a_ (h:=a_ (h:=e_ (aw_ret (x_thenR (?_))))))))
  refine rt_ (r:=chgR (linkL f dir name a)) none (h5:=?_) (h6:=⟨rfl,rfl,rfl⟩)
  rw[linkL,if_neg (by omega),if_pos hc2]
  exact err_le _
 have hc2:=bp hb2
 refine kt_ (q_ (w_ (f_ (h:=l_ (h:=f_ (h:=l_ (h:=nq_ (h:=e_ (?_)))))))))
 refine aw_cond rfl (fun hb3=>?_) (fun hb3=>?_)
 ·have hc3:=bp hb3
  refine w_ (bd_ (h:=s_ (h:=a_ (h:=a_ (h:=e_ (aw_ret (x_thenR (?_))))))))
  refine rt_ (r:=chgR (linkL f dir name a)) none (h5:=?_) (h6:=⟨rfl,rfl,rfl⟩)
  rw[linkL,if_neg (by omega),if_neg (by simp[hc2]),if_pos (by omega)]
  exact err_le _
 have hc3:=bp hb3
 refine kt_ (q_ (w_ (f_ (h:=l_ (h:=eq_ (h:=e_ (?_)))))))
 refine aw_cond rfl (fun hb4=>?_) (fun hb4=>?_)
 ·have hc4:=bp hb4
  refine w_ (bd_ (h:=s_ (h:=a_ (h:=a_ (h:=e_ (aw_ret (x_thenR (?_))))))))
  refine rt_ (r:=chgR (linkL f dir name a)) none (h5:=?_) (h6:=⟨rfl,rfl,rfl⟩)
  rw[linkL,if_neg (by omega),if_neg (by simp[hc2]),if_neg (by omega),if_pos hc4]
  exact err_le _
 have hc4:=bp hb4
 refine kt_ (q_ (w_ (l_ (h:=l_ (h:=m_ (h:=?_))))))
 refine al_p rfl (q_call (Rlook f dir name hf) ?_)
 rintro r rfl
 refine m_ (h:=x_ (h:=x_ (h:=al_ (h:=s_ (h:=a_ (h:=e_ (w_ (m_ (h:=eq_ (h:=e_ (?_)))))))))))
 refine aw_cond rfl (fun hb5=>?_) (fun hb5=>?_)
 ·have hc5:=bp hb5
  refine w_ (bd_ (h:=s_ (h:=a_ (h:=a_ (h:=e_ (aw_ret (x_thenR (?_))))))))
  refine rt_ (r:=chgR (linkL f dir name a)) none (h5:=?_) (h6:=⟨rfl,rfl,rfl⟩)
  rw[linkL,if_neg (by omega),if_neg (by simp[hc2]),if_neg (by omega),if_neg hc4,if_pos hc5]
  exact err_le _
 have hc5:=bp hb5
 refine kt_ (q_ (w_ (l_ (h:=l_ (h:=?_)))))
 refine al_p rfl (q_call (Rfull f dir hf) ?_)
 rintro r rfl
 refine e_ (?_)
 refine aw_cond rfl (fun hb6=>?_) (fun hb6=>?_)
 ·have hc6:=bp hb6
  refine w_ (bd_ (h:=s_ (h:=a_ (h:=a_ (h:=e_ (aw_ret (x_thenR (?_))))))))
  refine rt_ (r:=chgR (linkL f dir name a)) none (h5:=?_) (h6:=⟨rfl,rfl,rfl⟩)
  rw[linkL,if_neg (by omega),if_neg (by simp[hc2]),if_neg (by omega),if_neg hc4,if_neg hc5,if_pos hc6]
  exact err_le _
 have hc6:=bp hb6
 obtain⟨q,i,d,n0,hdq,hq,hn0,hino,hidx,hnode,hk0,hnm⟩:=place_ok (name:=name) (dir:=dir) (f:=f) (by omega)
 have hil:=(List.getElem?_eq_some_iff.1 hn0).1
 have hql:=(List.getElem?_eq_some_iff.1 hq).1
 refine kt_ (w_ (l_ (h:=?_)))
 refine al_p rfl (s_callM [] rfl (.cons _ _ _ _ _ rfl (LeA.refl _) .nil) (by decide) .nil (RcopyK f q d hf hq (by omega)) ?_)
 rintro r bc tc ⟨rfl,cap,cap1,hcap,hcap1,rfl,rfl⟩
 refine⟨rfl,_,(back_new2 (n:=6) rfl f q d d.nodes cap cap1:Back _ [] _ [_,_,_,_,_,_,_,_]),?_⟩
 refine al_ (h:=s_ (h:=e_ (w_ (l_ (h:=l_ (h:=m_ (h:=f_ (h:=l_ (h:=?_)))))))))
 refine al_p rfl (s_callM [6,7] rfl (.cons _ _ _ _ _ rfl (LeA.refl _) (.cons _ _ _ _ _ rfl (LeA.refl _) (.cons _ _ _ _ _ rfl (LeA.refl _) (.cons _ _ _ _ _ rfl (LeA.refl _) .nil)))) (by decide) (.cons _ _ _ _ _ rfl (ren_DB (by rfl) _ _ _ _ _) (.cons _ _ _ _ _ rfl (ren_NB _ _ _) .nil)) (Renter f q d n0 i dir name a.2 cap cap1 hf hq hdq hidx hn0 hcap hcap1) ?_)
 rintro r bc tc ⟨rfl,rfl,rfl⟩
 refine⟨rfl,_,(back_two (Nat.le_of_ble_eq_true rfl) (Nat.le_of_ble_eq_true rfl) (by decide) f q d _ cap cap1 cap1:Back _ [6,7] _ [_,_,_,_,_,_,_,_,_]),?_⟩
 refine e_ (?_)
 refine aw_midI (fun t=>t=⟨look [(8, .bp 3 0),(9, .sl 7 [chgA (dir,name,(0,0),a)] none),(10, .v (.int .i64 0))],⟨[flsA f,filA dir,filA a,flsA (f.set q {d with nodes:=d.nodes.set i {n0 with entries:=entL n0.entries name a.2}})],[]⟩⟩) ?_ ?_
 ·skip
  refine yk_ ([(0,flsA f),(1,filA dir),(2,filA a),(6,DB f q d 7 cap cap1),(7,NB (d.nodes.set i {n0 with entries:=entL n0.entries name a.2}) cap1),(8,[.bs 6 0 2 f.length cap])]) 9 (h:=dl_ 0 (h:=dl_ 1 (h:=dm_ 2 (h:=?_))))
  refine tk_ 3 rfl (fun _ hS=>st_le (y:= .agg (filA (0,0))) (bz_ ⟨rfl,rfl⟩) (by repeat (first|exact LeA.refl _|exact LeA.nil _|exact LeL.refl _|refine LeA.agg ⟨rfl,rfl⟩|refine LeA.tup ⟨rfl,rfl⟩|exact LeL.nil|refine LeL.cons ⟨rfl,rfl⟩ ⟨rfl,rfl⟩|exact LeA.any _)) ⟨rfl,rfl⟩) ?_
  refine dl_ 4 (h:=?_)
  refine c_ 5 rfl (q_call (Rone dir name (0,0) a) ?_)
  rintro r rfl
  refine o_ (h:=?_)
  refine c0_ 6 rfl (s_store rfl rfl rfl rfl rfl rfl (by repeat constructor) (by repeat constructor) ?_)
  refine o_ (h:=da_ 7 (h:=da_ 8 (h:=z_ (h:=?_))))
  refine x_then ?_
  exact⟨_,rfl,weak_fz 4 2 rfl (by show[_,_,_,livL 4 (frzG 4 _ 2) [.bs 6 0 2 f.length cap]]=_;rw[liv_upd (k:=0) (i:=6) (j:=7) (d:=d) (d':={d with nodes:=d.nodes.set i {n0 with entries:=entL n0.entries name a.2}}) hql rfl (by simp) hcap (by simpa using hcap1) (by decide) (by decide) rfl rfl];rfl) (.cons _ _ _ _ rfl (LeA.refl _) (.cons _ _ _ _ rfl (LeA.refl _) (.cons _ _ _ _ rfl (LeA.refl _) .nil)))⟩
 rintro t rfl
 refine aw_ret (?_)
 refine e_ret ?_
 rw[linkL,if_neg (by omega),if_neg (by simp[hc2]),if_neg (by omega),if_neg hc4,if_neg hc5,if_neg (by simp[hc6]),hdq,Int.toNat_natCast,onD_set hq,←hino]
 unfold entD
 rw[←set_updI (hv.vd d (List.mem_of_getElem? hq)).asc hn0]
 rfl
end
theorem look_ok{f:Fls}{dir:Fil}{name:Str}{n0:Nod}(hn:nodeL f dir=some n0)(hk:n0.kind=2)(h:(lookL f dir name).2=0):∃e,entF n0.entries name=some e∧lookL f dir name=((dir.1,e.2),0):=by
 unfold lookL at h ⊢
 rw[hn]at h ⊢
 simp only[hk,if_true]at h ⊢
 unfold entF
 split at h
 ·exact absurd h (by decide)
 rename_i e he
 exact⟨e,he,rfl⟩
def entS(ns:List Nod)(i:Nat)(n0:Nod)(name:Str)(ino:Int):List Nod:=ns.set i {n0 with entries:=entL n0.entries name ino}
theorem entS_len(ns:List Nod)(i:Nat)(n0:Nod)(name:Str)(ino:Int):(entS ns i n0 name ino).length=ns.length:=by simp[entS]
theorem entL_len(es:List Ent)(name:Str)(ino:Int):(entL es name ino).length≤es.length+1:=by
 by_cases h:ino=0
 ·subst h
  rw[entL_zero]
  have:(without name es).length≤es.length:=List.length_filter_le _ _
  omega
 rw[(entL_perm es name h).length_eq,List.length_cons]
 have:(without name es).length≤es.length:=List.length_filter_le _ _
 omega
theorem FlsB.set_{f:Fls}(hf:FlsB f){q:Nat}{d':Dvc}(hn:d'.nodes.length≤1000)(he:∀n∈d'.nodes,n.entries.length≤1000):FlsB (f.set q d'):=by
 refine⟨by simpa using hf.few,fun d hd=>?_,fun d hd n hn'=>?_⟩
 ·rcases List.mem_or_eq_of_mem_set hd with h|h
  ·exact hf.nodes d h
  rw[h];exact hn
 rcases List.mem_or_eq_of_mem_set hd with h|h
 ·exact hf.ents d h n hn'
 subst h;exact he n hn'
theorem FlsV.entS{f:Fls}(hv:FlsV f){q:Nat}{d:Dvc}(hq:f[q]?=some d){i:Nat}{n0:Nod}(hn:d.nodes[i]?=some n0)(name:Str)(ino:Int):FlsB (f.set q {d with nodes:=entS d.nodes i n0 name ino}):=by
 have hd:=hv.vd d (List.mem_of_getElem? hq)
 refine hv.b.set_ ?_ ?_
 ·show(Go.Proofs.YtbglbmnhgbgelaaGreatDoor.entS d.nodes i n0 name ino).length≤1000
  rw[entS_len];have:=hd.len;omega
 intro m hm
 rcases List.mem_or_eq_of_mem_set hm with h|h
 ·have:=hd.many m h;omega
 rw[h]
 have:=entL_len n0.entries name ino
 have:=hd.many n0 (List.mem_of_getElem? hn)
 show(entL n0.entries name ino).length≤1000
 omega
theorem entS_D{d:Dvc}(hd:VD d){i:Nat}{n0:Nod}(hn:d.nodes[i]?=some n0)(name:Str)(ino:Int):entS d.nodes i n0 name ino=entD d.nodes n0.ino name ino:=by
 unfold entS entD
 rw[←set_updI hd.asc hn]
 rfl
theorem links_at{f:Fls}{a:Fil}{q:Nat}{d:Dvc}(ha:a.1=(q:Int))(hq:f[q]?=some d):linksF f a=if(d.nodes.any fun n=>n.ino==a.2)then cntN a.2 d.nodes else 0:=by
 unfold linksF nodeL
 rw[ha,atI_nat,hq]
 simp only
 cases h:d.nodes.find? (fun n=>n.ino==a.2)with
 |none=>
   have:d.nodes.any (fun n=>n.ino==a.2)=false:=by
    rw[List.any_eq_false]
    exact List.find?_eq_none.1 h
   simp[this]
 |some n=>
   have:d.nodes.any (fun n=>n.ino==a.2)=true:=by
    have h2:=List.find?_some h
    exact List.any_eq_true.2 ⟨n,List.mem_of_find?_eq_some h,h2⟩
   simp[this]
theorem drop_pos{f:Fls}{a:Fil}{q:Nat}{d:Dvc}(ha:a.1=(q:Int))(hq:f[q]?=some d)(hl:0<linksF f a):dropI d.nodes a.2=d.nodes:=by
 rw[links_at ha hq]at hl
 split at hl
 ·unfold dropI
  rw[List.filter_eq_self]
  intro m _
  exact decide_eq_true (.inr hl)
 omega
theorem drop_zero{f:Fls}{a:Fil}{q:Nat}{d:Dvc}(ha:a.1=(q:Int))(hq:f[q]?=some d)(hl:linksF f a=0):dropI d.nodes a.2=keepNot a.2 d.nodes:=by
 rw[links_at ha hq]at hl
 unfold dropI keepNot
 apply List.filter_congr
 intro m hm
 split at hl
 ·rw[hl,Bool.eq_iff_iff];simp
 rename_i h
 have hne:m.ino≠a.2:=by
  intro e
  exact h (List.any_eq_true.2 ⟨m,hm,by simpa using e⟩)
 rw[Bool.eq_iff_iff];simp[hne]
theorem keep_pos{ns:List Nod}{m:Nod}{i:Int}(hm:m∈ns)(h:m.ino≠i):0<(keepNot i ns).length:=List.length_pos_of_mem (List.mem_filter.2 ⟨hm,by simpa using h⟩)
theorem entS_root{d:Dvc}(hd:VD d){i:Nat}{n0:Nod}(hn:d.nodes[i]?=some n0)(name:Str)(ino:Int):∃m∈entS d.nodes i n0 name ino,m.ino=1:=by
 obtain⟨r,hr,h1,_⟩:=hd.rootMem
 rw[entS_D hd hn]
 obtain⟨m,hm,hw⟩:=to_entD n0.ino name ino hr
 exact⟨m,hm,hw.ino.trans h1⟩
theorem Rdrop2(f:Fls)(q:Nat)(d d':Dvc)(a:Fil)(cap cap1:Nat)(hf:FlsB (f.set q d'))(hq:q<f.length)(ha:a.1=(q:Int))(hcap:f.length≤cap)(hcap1:d'.nodes.length≤cap1)(hne:0<(keepNot a.2 d'.nodes).length)(hn:d'.next=d.next)(hl:d'.nodes.length=d.nodes.length):
    ACall Tryz.prog 77 [.agg [.bs 0 0 2 f.length cap], .agg (filA a)] [DB f q d 1 cap cap1,NB d'.nodes cap1] (fun r b t=>t=[]∧r= .tup []∧((dropI d'.nodes a.2=d'.nodes∧b=[DB f q d 1 cap cap1,NB d'.nodes cap1,[.bs 0 0 2 f.length cap],filA a])∨(dropI d'.nodes a.2=keepNot a.2 d'.nodes∧∃cap2,(keepNot a.2 d'.nodes).length≤cap2∧b=[DB f q {d' with nodes:=keepNot a.2 d'.nodes} 4 cap cap2,NB d'.nodes cap1,[.bs 0 0 2 f.length cap],filA a,NB (keepNot a.2 d'.nodes) cap2]))):=by
 have hq':(f.set q d')[q]?=some d':=by simp[hq]
 have key:=Rdrop (f.set q d') q d' a cap cap1 hf hq' ha (by simpa using hcap) hcap1 hne
 rw[List.length_set,←DB_upd hn hl]at key
 refine key.mono fun r b t ⟨h1,h2,h3⟩=>⟨h1,h2,?_⟩
 rcases h3 with⟨h4,h5⟩|⟨h4,cap2,h5,h6⟩
 ·exact .inl ⟨drop_pos ha hq' h4,h5⟩
 refine .inr ⟨drop_zero ha hq' h4,cap2,h5,?_⟩
 rw[DB_any]at h6
 exact h6
def unlinkL(f:Fls)(dir:Fil)(name:Str):ChgRes:=
 if placeL f dir name≠0 then([],[],placeL f dir name)else if(lookL f dir name).2≠0 then([],[],(lookL f dir name).2)else if dirL f (lookL f dir name).1=true then([],[],21)else
 (onD f dir.1.toNat fun ns=>dropI (entD ns dir.2 name 0) (lookL f dir name).1.2,[(dir,name,(lookL f dir name).1,(0,0))],0)
def rmdirL(f:Fls)(dir:Fil)(name:Str):ChgRes:=
 if placeL f dir name≠0 then([],[],placeL f dir name)else if(lookL f dir name).2≠0 then([],[],(lookL f dir name).2)else if dirL f (lookL f dir name).1=false then([],[],20)else if emptyL f (lookL f dir name).1=false then([],[],39)else
 (onD f dir.1.toNat fun ns=>dropI (entD ns dir.2 name 0) (lookL f dir name).1.2,[(dir,name,(lookL f dir name).1,(0,0))],0)
section
set_option maxRecDepth 10000
set_option maxHeartbeats 2000000
theorem Runlink(f:Fls)(dir:Fil)(name:Str)(hv:FlsV f)(hs:name.size≤100000):AFn Tryz.prog 47 [.agg (flsA f), .agg (filA dir), .v (.string name)] (fun r=>r=chgR (unlinkL f dir name)):=by
 have hf:=hv.b
 refine enter Tryz.func47 rfl rfl rfl rfl rfl 0 rfl ?_
 refine w_ (b_ (h:=b_ (h:=al_ (h:=a_ (h:=a_ (h:=e_ (q_ (w_ (l_ (h:=l_ (h:=m_ (h:=?_))))))))))))
 refine al_p rfl (q_call (Rplace f dir name hf hs) ?_)
 rintro r rfl
 refine a_ (h:=e_ (w_ (m_ (h:=nq_ (h:=e_ (?_))))))
 refine aw_cond rfl (fun hb1=>?_) (fun hb1=>?_)
 ·have hc1:=bp hb1
  refine w_ (bd_ (h:=m_ (h:=s_ (h:=a_ (h:=a_ (h:=e_ (aw_ret (x_thenR (?_)))))))))
  refine rt_ (r:=chgR (unlinkL f dir name)) none (h5:=?_) (h6:=⟨rfl,rfl,rfl⟩)
  rw[unlinkL,if_pos (by omega)]
  exact err_le _
 have hc1:=bp hb1
 refine kt_ (w_ (l_ (h:=l_ (h:=m_ (h:=?_)))))
 refine al_p rfl (q_call (Rlook f dir name hf) ?_)
 rintro r rfl
 refine m_ (h:=x_ (h:=x_ (h:=al_ (h:=s_ (h:=a_ (h:=e_ (q_ (w_ (m_ (h:=nq_ (h:=e_ (?_))))))))))))
 refine aw_cond rfl (fun hb2=>?_) (fun hb2=>?_)
 ·have hc2:=bp hb2
  refine w_ (bd_ (h:=m_ (h:=s_ (h:=a_ (h:=a_ (h:=e_ (aw_ret (x_thenR (?_)))))))))
  refine rt_ (r:=chgR (unlinkL f dir name)) none (h5:=?_) (h6:=⟨rfl,rfl,rfl⟩)
  rw[unlinkL,if_neg (by omega),if_pos (by omega)]
  exact err_le _
 have hc2:=bp hb2
 have hlk:(lookL f dir name).2=0:=by omega
 refine kt_ (q_ (w_ (l_ (h:=l_ (h:=?_)))))
 refine al_p rfl (q_call (Rdir f (lookL f dir name).1 hf) ?_)
 rintro r rfl
 refine e_ (?_)
 refine aw_cond rfl (fun hb3=>?_) (fun hb3=>?_)
 ·have hc3:=bp hb3
  refine w_ (bd_ (h:=s_ (h:=a_ (h:=a_ (h:=e_ (aw_ret (x_thenR (?_))))))))
  refine rt_ (r:=chgR (unlinkL f dir name)) none (h5:=?_) (h6:=⟨rfl,rfl,rfl⟩)
  rw[unlinkL,if_neg (by omega),if_neg (by omega),if_pos hc3]
  exact err_le _
 have hc3:=bp hb3
 obtain⟨q,i,d,n0,hdq,hq,hn0,hino,hidx,hnode,hk0,hnm⟩:=place_ok (name:=name) (dir:=dir) (f:=f) (by omega)
 have hil:=(List.getElem?_eq_some_iff.1 hn0).1
 have hql:=(List.getElem?_eq_some_iff.1 hq).1
 have hvd:=hv.vd d (List.mem_of_getElem? hq)
 obtain⟨e,he,hle⟩:=look_ok hnode hk0 hlk
 have hat1:(lookL f dir name).1.1=(q:Int):=by rw[hle];exact hdq
 have hat2:(lookL f dir name).1.2≠1:=by rw[hle];exact(hvd.ent n0 (List.mem_of_getElem? hn0) e (entF_some he).1).2.1
 have hxl:(entS d.nodes i n0 name 0).length=d.nodes.length:=entS_len _ _ _ _ _
 have hkp:0<(keepNot (lookL f dir name).1.2 (entS d.nodes i n0 name 0)).length:=by
  obtain⟨m,hm,hm1⟩:=entS_root hvd hn0 name 0
  exact keep_pos hm (by rw[hm1];exact hat2.symm)
 refine kt_ (w_ (l_ (h:=?_)))
 refine al_p rfl (s_callM [] rfl (.cons _ _ _ _ _ rfl (LeA.refl _) .nil) (by decide) .nil (RcopyK f q d hf hq (by omega)) ?_)
 rintro r bc tc ⟨rfl,cap,cap1,hcap,hcap1,rfl,rfl⟩
 refine⟨rfl,_,(back_new2 (n:=4) rfl f q d d.nodes cap cap1:Back _ [] _ [_,_,_,_,_,_]),?_⟩
 refine al_ (h:=s_ (h:=e_ (w_ (l_ (h:=l_ (h:=m_ (h:=?_)))))))
 refine al_p rfl (s_callM [4,5] rfl (.cons _ _ _ _ _ rfl (LeA.refl _) (.cons _ _ _ _ _ rfl (LeA.refl _) (.cons _ _ _ _ _ rfl (LeA.refl _) (.cons _ _ _ _ _ rfl (LeA.refl _) .nil)))) (by decide) (.cons _ _ _ _ _ rfl (ren_DB (by rfl) _ _ _ _ _) (.cons _ _ _ _ _ rfl (ren_NB _ _ _) .nil)) (Renter f q d n0 i dir name 0 cap cap1 hf hq hdq hidx hn0 hcap hcap1) ?_)
 rintro r bc tc ⟨rfl,rfl,rfl⟩
 refine⟨rfl,_,(back_two (Nat.le_of_ble_eq_true rfl) (Nat.le_of_ble_eq_true rfl) (by decide) f q d (entS d.nodes i n0 name 0) cap cap1 cap1:Back _ [4,5] _ [_,_,_,_,_,_,_]),?_⟩
 refine e_ (w_ (l_ (h:=l_ (h:=?_))))
 refine al_p rfl (s_callM [4,5] rfl (.cons _ _ _ _ _ rfl (LeA.refl _) (.cons _ _ _ _ _ rfl (LeA.refl _) .nil)) (by decide) (.cons _ _ _ _ _ rfl (ren_DB (by rfl) _ _ _ _ _) (.cons _ _ _ _ _ rfl (ren_NB _ _ _) .nil)) (Rdrop2 f q d {d with nodes:=entS d.nodes i n0 name 0} (lookL f dir name).1 cap cap1 (hv.entS hq hn0 name 0) hql hat1 hcap (by rw[entS_len];exact hcap1) hkp rfl hxl) ?_)
 rintro r bc tc ⟨rfl,rfl,⟨hns,rfl⟩|⟨hns,cap2,hcap2,rfl⟩⟩
 ·refine⟨rfl,_,(back_four (n:=7) rfl (by decide) (by decide) (by decide) f q d (entS d.nodes i n0 name 0) (lookL f dir name).1 f.length cap cap cap1 cap1:Back _ [4,5] _ [_,_,_,_,_,_,_,_,_]),?_⟩
  have hx1:(entS d.nodes i n0 name 0).length≤cap1:=by omega
  refine e_ (?_)
  refine aw_midI (fun t=>t=⟨look [(6, .bp 2 0),(7, .sl 7 [chgA (dir,name,(lookL f dir name).1,(0,0))] none),(8, .v (.int .i64 0))],⟨[flsA f,filA dir,flsA (f.set q {d with nodes:=dropI (entS d.nodes i n0 name 0) (lookL f dir name).1.2})],[]⟩⟩) ?_ ?_
  ·skip
   refine yk_ ([(0,flsA f),(1,filA dir),(3,filA (lookL f dir name).1),(6,[.bs 4 0 2 f.length cap])]) 9 (h:=dl_ 0 (h:=dl_ 1 (h:=dm_ 2 (h:=dl_ 3 (h:=?_)))))
   refine tk_ 4 rfl (fun _ hS=>st_le (y:= .agg (filA (0,0))) (bz_ ⟨rfl,rfl⟩) (by repeat (first|exact LeA.refl _|exact LeA.nil _|exact LeL.refl _|refine LeA.agg ⟨rfl,rfl⟩|refine LeA.tup ⟨rfl,rfl⟩|exact LeL.nil|refine LeL.cons ⟨rfl,rfl⟩ ⟨rfl,rfl⟩|exact LeA.any _)) ⟨rfl,rfl⟩) ?_
   refine c_ 5 rfl (q_call (Rone dir name (lookL f dir name).1 (0,0)) ?_)
   rintro r rfl
   refine o_ (h:=?_)
   refine c0_ 6 rfl (s_store rfl rfl rfl rfl rfl rfl (by repeat constructor) (by repeat constructor) ?_)
   refine o_ (h:=da_ 7 (h:=da_ 8 (h:=z_ (h:=?_))))
   refine x_then ?_
   refine⟨_,rfl,?_⟩
   rw[show dropI (entS d.nodes i n0 name 0) (lookL f dir name).1.2=_ from hns]
   first|exact weak_fz 3 2 rfl (congrArg (fun x=>[flsA f,filA dir,x]) (liv_upd (k:=0) (i:=4) (j:=9) (d:={d with nodes:=keepNot (lookL f dir name).1.2 (entS d.nodes i n0 name 0)}) (d':={d with nodes:=keepNot (lookL f dir name).1.2 (entS d.nodes i n0 name 0)}) hql rfl rfl hcap hcap2 (Nat.le_of_ble_eq_true rfl) (Nat.le_of_ble_eq_true rfl) rfl rfl)) (.cons _ _ _ _ rfl (LeA.refl _) (.cons _ _ _ _ rfl (LeA.refl _) (.cons _ _ _ _ rfl (LeA.refl _) .nil)))|exact weak_fz 3 2 rfl (congrArg (fun x=>[flsA f,filA dir,x]) (liv_upd (k:=0) (i:=4) (j:=5) (d:=d) (d':={d with nodes:=entS d.nodes i n0 name 0}) hql rfl hxl hcap hx1 (Nat.le_of_ble_eq_true rfl) (Nat.le_of_ble_eq_true rfl) rfl rfl)) (.cons _ _ _ _ rfl (LeA.refl _) (.cons _ _ _ _ rfl (LeA.refl _) (.cons _ _ _ _ rfl (LeA.refl _) .nil)))
  rintro t rfl
  refine aw_ret (?_)
  refine e_ret ?_
  rw[unlinkL,if_neg (by omega),if_neg (by omega),if_neg (by simp[hc3]),hdq,Int.toNat_natCast,onD_set hq,←hino,←entS_D (hv.vd d (List.mem_of_getElem? hq)) hn0]
  rfl
 refine⟨rfl,_,(back_five (n:=7) rfl (by decide) (by decide) (by decide) f q {d with nodes:=keepNot (lookL f dir name).1.2 (entS d.nodes i n0 name 0)} (entS d.nodes i n0 name 0) (keepNot (lookL f dir name).1.2 (entS d.nodes i n0 name 0)) (lookL f dir name).1 f.length cap cap cap1 cap2:Back _ [4,5] _ [_,_,_,_,_,_,_,_,_,_]),?_⟩
 refine e_ (?_)
 refine aw_midI (fun t=>t=⟨look [(6, .bp 2 0),(7, .sl 7 [chgA (dir,name,(lookL f dir name).1,(0,0))] none),(8, .v (.int .i64 0))],⟨[flsA f,filA dir,flsA (f.set q {d with nodes:=dropI (entS d.nodes i n0 name 0) (lookL f dir name).1.2})],[]⟩⟩) ?_ ?_
 ·skip
  refine yk_ ([(0,flsA f),(1,filA dir),(3,filA (lookL f dir name).1),(6,[.bs 4 0 2 f.length cap])]) 9 (h:=dl_ 0 (h:=dl_ 1 (h:=dm_ 2 (h:=dl_ 3 (h:=?_)))))
  refine tk_ 4 rfl (fun _ hS=>st_le (y:= .agg (filA (0,0))) (bz_ ⟨rfl,rfl⟩) (by repeat (first|exact LeA.refl _|exact LeA.nil _|exact LeL.refl _|refine LeA.agg ⟨rfl,rfl⟩|refine LeA.tup ⟨rfl,rfl⟩|exact LeL.nil|refine LeL.cons ⟨rfl,rfl⟩ ⟨rfl,rfl⟩|exact LeA.any _)) ⟨rfl,rfl⟩) ?_
  refine c_ 5 rfl (q_call (Rone dir name (lookL f dir name).1 (0,0)) ?_)
  rintro r rfl
  refine o_ (h:=?_)
  refine c0_ 6 rfl (s_store rfl rfl rfl rfl rfl rfl (by repeat constructor) (by repeat constructor) ?_)
  refine o_ (h:=da_ 7 (h:=da_ 8 (h:=z_ (h:=?_))))
  refine x_then ?_
  refine⟨_,rfl,?_⟩
  rw[show dropI (entS d.nodes i n0 name 0) (lookL f dir name).1.2=_ from hns]
  first|exact weak_fz 3 2 rfl (congrArg (fun x=>[flsA f,filA dir,x]) (liv_upd (k:=0) (i:=4) (j:=9) (d:={d with nodes:=keepNot (lookL f dir name).1.2 (entS d.nodes i n0 name 0)}) (d':={d with nodes:=keepNot (lookL f dir name).1.2 (entS d.nodes i n0 name 0)}) hql rfl rfl hcap hcap2 (Nat.le_of_ble_eq_true rfl) (Nat.le_of_ble_eq_true rfl) rfl rfl)) (.cons _ _ _ _ rfl (LeA.refl _) (.cons _ _ _ _ rfl (LeA.refl _) (.cons _ _ _ _ rfl (LeA.refl _) .nil)))|exact weak_fz 3 2 rfl (congrArg (fun x=>[flsA f,filA dir,x]) (liv_upd (k:=0) (i:=4) (j:=5) (d:=d) (d':={d with nodes:=entS d.nodes i n0 name 0}) hql rfl hxl hcap hx1 (Nat.le_of_ble_eq_true rfl) (Nat.le_of_ble_eq_true rfl) rfl rfl)) (.cons _ _ _ _ rfl (LeA.refl _) (.cons _ _ _ _ rfl (LeA.refl _) (.cons _ _ _ _ rfl (LeA.refl _) .nil)))
 rintro t rfl
 refine aw_ret (?_)
 refine e_ret ?_
 rw[unlinkL,if_neg (by omega),if_neg (by omega),if_neg (by simp[hc3]),hdq,Int.toNat_natCast,onD_set hq,←hino,←entS_D (hv.vd d (List.mem_of_getElem? hq)) hn0]
 rfl
theorem Rrmdir(f:Fls)(dir:Fil)(name:Str)(hv:FlsV f)(hs:name.size≤100000):AFn Tryz.prog 126 [.agg (flsA f), .agg (filA dir), .v (.string name)] (fun r=>r=chgR (rmdirL f dir name)):=by
 have hf:=hv.b
 refine enter Tryz.func126 rfl rfl rfl rfl rfl 0 rfl ?_
 refine w_ (b_ (h:=b_ (h:=al_ (h:=a_ (h:=a_ (h:=e_ (q_ (w_ (l_ (h:=l_ (h:=m_ (h:=?_))))))))))))
 refine al_p rfl (q_call (Rplace f dir name hf hs) ?_)
 rintro r rfl
 refine a_ (h:=e_ (w_ (m_ (h:=nq_ (h:=e_ (?_))))))
 refine aw_cond rfl (fun hb1=>?_) (fun hb1=>?_)
 ·have hc1:=bp hb1
  refine w_ (bd_ (h:=m_ (h:=s_ (h:=a_ (h:=a_ (h:=e_ (aw_ret (x_thenR (?_)))))))))
  refine rt_ (r:=chgR (rmdirL f dir name)) none (h5:=?_) (h6:=⟨rfl,rfl,rfl⟩)
  rw[rmdirL,if_pos (by omega)]
  exact err_le _
 have hc1:=bp hb1
 refine kt_ (w_ (l_ (h:=l_ (h:=m_ (h:=?_)))))
 refine al_p rfl (q_call (Rlook f dir name hf) ?_)
 rintro r rfl
 refine m_ (h:=x_ (h:=x_ (h:=al_ (h:=s_ (h:=a_ (h:=e_ (q_ (w_ (m_ (h:=nq_ (h:=e_ (?_))))))))))))
 refine aw_cond rfl (fun hb2=>?_) (fun hb2=>?_)
 ·have hc2:=bp hb2
  refine w_ (bd_ (h:=m_ (h:=s_ (h:=a_ (h:=a_ (h:=e_ (aw_ret (x_thenR (?_)))))))))
  refine rt_ (r:=chgR (rmdirL f dir name)) none (h5:=?_) (h6:=⟨rfl,rfl,rfl⟩)
  rw[rmdirL,if_neg (by omega),if_pos (by omega)]
  exact err_le _
 have hc2:=bp hb2
 have hlk:(lookL f dir name).2=0:=by omega
 refine kt_ (q_ (w_ (l_ (h:=l_ (h:=?_)))))
 refine al_p rfl (q_call (Rdir f (lookL f dir name).1 hf) ?_)
 rintro r rfl
 refine nt_ (h:=e_ (?_))
 refine aw_cond rfl (fun hb3=>?_) (fun hb3=>?_)
 ·have hc3:=bp hb3
  refine w_ (bd_ (h:=s_ (h:=a_ (h:=a_ (h:=e_ (aw_ret (x_thenR (?_))))))))
  refine rt_ (r:=chgR (rmdirL f dir name)) none (h5:=?_) (h6:=⟨rfl,rfl,rfl⟩)
  rw[rmdirL,if_neg (by omega),if_neg (by omega),if_pos hc3]
  exact err_le _
 have hc3:=bp hb3
 refine kt_ (q_ (w_ (l_ (h:=l_ (h:=?_)))))
 refine al_p rfl (q_call (Rempty f (lookL f dir name).1 hf) ?_)
 rintro r rfl
 refine nt_ (h:=e_ (?_))
 refine aw_cond rfl (fun hb4=>?_) (fun hb4=>?_)
 ·have hc4:=bp hb4
  refine w_ (bd_ (h:=s_ (h:=a_ (h:=a_ (h:=e_ (aw_ret (x_thenR (?_))))))))
  refine rt_ (r:=chgR (rmdirL f dir name)) none (h5:=?_) (h6:=⟨rfl,rfl,rfl⟩)
  rw[rmdirL,if_neg (by omega),if_neg (by omega),if_neg (by simp[hc3]),if_pos hc4]
  exact err_le _
 have hc4:=bp hb4
 obtain⟨q,i,d,n0,hdq,hq,hn0,hino,hidx,hnode,hk0,hnm⟩:=place_ok (name:=name) (dir:=dir) (f:=f) (by omega)
 have hil:=(List.getElem?_eq_some_iff.1 hn0).1
 have hql:=(List.getElem?_eq_some_iff.1 hq).1
 have hvd:=hv.vd d (List.mem_of_getElem? hq)
 obtain⟨e,he,hle⟩:=look_ok hnode hk0 hlk
 have hat1:(lookL f dir name).1.1=(q:Int):=by rw[hle];exact hdq
 have hat2:(lookL f dir name).1.2≠1:=by rw[hle];exact(hvd.ent n0 (List.mem_of_getElem? hn0) e (entF_some he).1).2.1
 have hxl:(entS d.nodes i n0 name 0).length=d.nodes.length:=entS_len _ _ _ _ _
 have hkp:0<(keepNot (lookL f dir name).1.2 (entS d.nodes i n0 name 0)).length:=by
  obtain⟨m,hm,hm1⟩:=entS_root hvd hn0 name 0
  exact keep_pos hm (by rw[hm1];exact hat2.symm)
 refine kt_ (w_ (l_ (h:=?_)))
 refine al_p rfl (s_callM [] rfl (.cons _ _ _ _ _ rfl (LeA.refl _) .nil) (by decide) .nil (RcopyK f q d hf hq (by omega)) ?_)
 rintro r bc tc ⟨rfl,cap,cap1,hcap,hcap1,rfl,rfl⟩
 refine⟨rfl,_,(back_new2 (n:=4) rfl f q d d.nodes cap cap1:Back _ [] _ [_,_,_,_,_,_]),?_⟩
 refine al_ (h:=s_ (h:=e_ (w_ (l_ (h:=l_ (h:=m_ (h:=?_)))))))
 refine al_p rfl (s_callM [4,5] rfl (.cons _ _ _ _ _ rfl (LeA.refl _) (.cons _ _ _ _ _ rfl (LeA.refl _) (.cons _ _ _ _ _ rfl (LeA.refl _) (.cons _ _ _ _ _ rfl (LeA.refl _) .nil)))) (by decide) (.cons _ _ _ _ _ rfl (ren_DB (by rfl) _ _ _ _ _) (.cons _ _ _ _ _ rfl (ren_NB _ _ _) .nil)) (Renter f q d n0 i dir name 0 cap cap1 hf hq hdq hidx hn0 hcap hcap1) ?_)
 rintro r bc tc ⟨rfl,rfl,rfl⟩
 refine⟨rfl,_,(back_two (Nat.le_of_ble_eq_true rfl) (Nat.le_of_ble_eq_true rfl) (by decide) f q d (entS d.nodes i n0 name 0) cap cap1 cap1:Back _ [4,5] _ [_,_,_,_,_,_,_]),?_⟩
 refine e_ (w_ (l_ (h:=l_ (h:=?_))))
 refine al_p rfl (s_callM [4,5] rfl (.cons _ _ _ _ _ rfl (LeA.refl _) (.cons _ _ _ _ _ rfl (LeA.refl _) .nil)) (by decide) (.cons _ _ _ _ _ rfl (ren_DB (by rfl) _ _ _ _ _) (.cons _ _ _ _ _ rfl (ren_NB _ _ _) .nil)) (Rdrop2 f q d {d with nodes:=entS d.nodes i n0 name 0} (lookL f dir name).1 cap cap1 (hv.entS hq hn0 name 0) hql hat1 hcap (by rw[entS_len];exact hcap1) hkp rfl hxl) ?_)
 rintro r bc tc ⟨rfl,rfl,⟨hns,rfl⟩|⟨hns,cap2,hcap2,rfl⟩⟩
 ·refine⟨rfl,_,(back_four (n:=7) rfl (by decide) (by decide) (by decide) f q d (entS d.nodes i n0 name 0) (lookL f dir name).1 f.length cap cap cap1 cap1:Back _ [4,5] _ [_,_,_,_,_,_,_,_,_]),?_⟩
  have hx1:(entS d.nodes i n0 name 0).length≤cap1:=by omega
  refine e_ (?_)
  refine aw_midI (fun t=>t=⟨look [(6, .bp 2 0),(7, .sl 7 [chgA (dir,name,(lookL f dir name).1,(0,0))] none),(8, .v (.int .i64 0))],⟨[flsA f,filA dir,flsA (f.set q {d with nodes:=dropI (entS d.nodes i n0 name 0) (lookL f dir name).1.2})],[]⟩⟩) ?_ ?_
  ·skip
   refine yk_ ([(0,flsA f),(1,filA dir),(3,filA (lookL f dir name).1),(6,[.bs 4 0 2 f.length cap])]) 9 (h:=dl_ 0 (h:=dl_ 1 (h:=dm_ 2 (h:=dl_ 3 (h:=?_)))))
   refine tk_ 4 rfl (fun _ hS=>st_le (y:= .agg (filA (0,0))) (bz_ ⟨rfl,rfl⟩) (by repeat (first|exact LeA.refl _|exact LeA.nil _|exact LeL.refl _|refine LeA.agg ⟨rfl,rfl⟩|refine LeA.tup ⟨rfl,rfl⟩|exact LeL.nil|refine LeL.cons ⟨rfl,rfl⟩ ⟨rfl,rfl⟩|exact LeA.any _)) ⟨rfl,rfl⟩) ?_
   refine c_ 5 rfl (q_call (Rone dir name (lookL f dir name).1 (0,0)) ?_)
   rintro r rfl
   refine o_ (h:=?_)
   refine c0_ 6 rfl (s_store rfl rfl rfl rfl rfl rfl (by repeat constructor) (by repeat constructor) ?_)
   refine o_ (h:=da_ 7 (h:=da_ 8 (h:=z_ (h:=?_))))
   refine x_then ?_
   refine⟨_,rfl,?_⟩
   rw[show dropI (entS d.nodes i n0 name 0) (lookL f dir name).1.2=_ from hns]
   first|exact weak_fz 3 2 rfl (congrArg (fun x=>[flsA f,filA dir,x]) (liv_upd (k:=0) (i:=4) (j:=9) (d:={d with nodes:=keepNot (lookL f dir name).1.2 (entS d.nodes i n0 name 0)}) (d':={d with nodes:=keepNot (lookL f dir name).1.2 (entS d.nodes i n0 name 0)}) hql rfl rfl hcap hcap2 (Nat.le_of_ble_eq_true rfl) (Nat.le_of_ble_eq_true rfl) rfl rfl)) (.cons _ _ _ _ rfl (LeA.refl _) (.cons _ _ _ _ rfl (LeA.refl _) (.cons _ _ _ _ rfl (LeA.refl _) .nil)))|exact weak_fz 3 2 rfl (congrArg (fun x=>[flsA f,filA dir,x]) (liv_upd (k:=0) (i:=4) (j:=5) (d:=d) (d':={d with nodes:=entS d.nodes i n0 name 0}) hql rfl hxl hcap hx1 (Nat.le_of_ble_eq_true rfl) (Nat.le_of_ble_eq_true rfl) rfl rfl)) (.cons _ _ _ _ rfl (LeA.refl _) (.cons _ _ _ _ rfl (LeA.refl _) (.cons _ _ _ _ rfl (LeA.refl _) .nil)))
  rintro t rfl
  refine aw_ret (?_)
  refine e_ret ?_
  rw[rmdirL,if_neg (by omega),if_neg (by omega),if_neg (by simp[hc3]),if_neg (by simp[hc4]),hdq,Int.toNat_natCast,onD_set hq,←hino,←entS_D (hv.vd d (List.mem_of_getElem? hq)) hn0]
  rfl
 refine⟨rfl,_,(back_five (n:=7) rfl (by decide) (by decide) (by decide) f q {d with nodes:=keepNot (lookL f dir name).1.2 (entS d.nodes i n0 name 0)} (entS d.nodes i n0 name 0) (keepNot (lookL f dir name).1.2 (entS d.nodes i n0 name 0)) (lookL f dir name).1 f.length cap cap cap1 cap2:Back _ [4,5] _ [_,_,_,_,_,_,_,_,_,_]),?_⟩
 refine e_ (?_)
 refine aw_midI (fun t=>t=⟨look [(6, .bp 2 0),(7, .sl 7 [chgA (dir,name,(lookL f dir name).1,(0,0))] none),(8, .v (.int .i64 0))],⟨[flsA f,filA dir,flsA (f.set q {d with nodes:=dropI (entS d.nodes i n0 name 0) (lookL f dir name).1.2})],[]⟩⟩) ?_ ?_
 ·skip
  refine yk_ ([(0,flsA f),(1,filA dir),(3,filA (lookL f dir name).1),(6,[.bs 4 0 2 f.length cap])]) 9 (h:=dl_ 0 (h:=dl_ 1 (h:=dm_ 2 (h:=dl_ 3 (h:=?_)))))
  refine tk_ 4 rfl (fun _ hS=>st_le (y:= .agg (filA (0,0))) (bz_ ⟨rfl,rfl⟩) (by repeat (first|exact LeA.refl _|exact LeA.nil _|exact LeL.refl _|refine LeA.agg ⟨rfl,rfl⟩|refine LeA.tup ⟨rfl,rfl⟩|exact LeL.nil|refine LeL.cons ⟨rfl,rfl⟩ ⟨rfl,rfl⟩|exact LeA.any _)) ⟨rfl,rfl⟩) ?_
  refine c_ 5 rfl (q_call (Rone dir name (lookL f dir name).1 (0,0)) ?_)
  rintro r rfl
  refine o_ (h:=?_)
  refine c0_ 6 rfl (s_store rfl rfl rfl rfl rfl rfl (by repeat constructor) (by repeat constructor) ?_)
  refine o_ (h:=da_ 7 (h:=da_ 8 (h:=z_ (h:=?_))))
  refine x_then ?_
  refine⟨_,rfl,?_⟩
  rw[show dropI (entS d.nodes i n0 name 0) (lookL f dir name).1.2=_ from hns]
  first|exact weak_fz 3 2 rfl (congrArg (fun x=>[flsA f,filA dir,x]) (liv_upd (k:=0) (i:=4) (j:=9) (d:={d with nodes:=keepNot (lookL f dir name).1.2 (entS d.nodes i n0 name 0)}) (d':={d with nodes:=keepNot (lookL f dir name).1.2 (entS d.nodes i n0 name 0)}) hql rfl rfl hcap hcap2 (Nat.le_of_ble_eq_true rfl) (Nat.le_of_ble_eq_true rfl) rfl rfl)) (.cons _ _ _ _ rfl (LeA.refl _) (.cons _ _ _ _ rfl (LeA.refl _) (.cons _ _ _ _ rfl (LeA.refl _) .nil)))|exact weak_fz 3 2 rfl (congrArg (fun x=>[flsA f,filA dir,x]) (liv_upd (k:=0) (i:=4) (j:=5) (d:=d) (d':={d with nodes:=entS d.nodes i n0 name 0}) hql rfl hxl hcap hx1 (Nat.le_of_ble_eq_true rfl) (Nat.le_of_ble_eq_true rfl) rfl rfl)) (.cons _ _ _ _ rfl (LeA.refl _) (.cons _ _ _ _ rfl (LeA.refl _) (.cons _ _ _ _ rfl (LeA.refl _) .nil)))
 rintro t rfl
 refine aw_ret (?_)
 refine e_ret ?_
 rw[rmdirL,if_neg (by omega),if_neg (by omega),if_neg (by simp[hc3]),if_neg (by simp[hc4]),hdq,Int.toNat_natCast,onD_set hq,←hino,←entS_D (hv.vd d (List.mem_of_getElem? hq)) hn0]
 rfl
end
section
variable {P:Program}{N:Dim}{ops:Array Oper}{Q:Exit→AS→Prop}{S:AH→Prop}{tl:Nat}
def tail2(ops:Array Oper)(tl:Nat):Bool:=tail3 ops tl
end
section
variable {P:Program}{N:Dim}{Q:Exit→AS→Prop}{l:List Oper}{S:AH→Prop}{tl:Nat}{fuel:Nat}{listed:Array Bool}{m:List (Nat×AV)}{h:AH}{op:Op}{ty:TypeId}{pos:String}{af:Array Edge}{gd:Option (Nat×Bool)}
theorem aa_t2{i d:Nat}{x:AV}(hi:l[i]?=some ⟨some d,op,ty,pos,af,gd⟩)(hd:Nat.blt d N.n=true)(htl:(tail2 l.toArray tl&&cloB l.toArray listed&& !Nat.ble tl i&&Region.free .any l.toArray listed i&&(Region.ready .any l.toArray listed).contains i)=true)
    (hw:wantedA l.toArray (look m) ⟨some d,op,ty,pos,af,gd⟩=some true) (hst:∀h,S h→AStep P ⟨some d,op,ty,pos,af,gd⟩ (evs (look m)) h (fun x' h'=>x'=x∧h'=h)) (hS:S h)
    (H:AAny P N l.toArray Q S tl fuel (listed.setIfInBounds i true) ⟨look ((d,x)::m),h⟩):AAny P N l.toArray Q S tl (fuel+1) listed ⟨look m,h⟩:=by
 simp only[Bool.and_eq_true,Bool.not_eq_true']at htl
 obtain⟨⟨⟨⟨t1,t0⟩,t2⟩,t3⟩,t4⟩:=htl
 exact AAny.first3 (oi:=⟨some d,op,ty,pos,af,gd⟩) (get_arr hi) hd t1 t2 fuel listed ⟨look m,h⟩ (cloB_spec t0) (Region.free_spec (get_arr hi) t3) (List.contains_iff_mem.1 t4) (.inl ⟨hw,hst⟩) hS H
end
end Go.Proofs.YtbglbmnhgbgelaaGreatDoor
namespace Go.Proofs.YtbglbmnhgbgelaaGreatDoor
open Go.RowKit
theorem t2_{P:Program}{N:Dim}{Q:Exit→AS→Prop}{l:List Oper}{S:AH→Prop}{tl:Nat}{fuel:Nat}{listed:Array Bool}{m:List (Nat×AV)}{h:AH}{op:Op}{ty:TypeId}{pos:String}{af:Array Edge}{gd:Option (Nat×Bool)}(i:Nat){d:Nat}{x:AV}(hi:l[i]?=some ⟨some d,op,ty,pos,af,gd⟩)(hst:∀h,S h→AStep P ⟨some d,op,ty,pos,af,gd⟩ (evs (look m)) h (fun x' h'=>x'=x∧h'=h))(H:AAny P N l.toArray Q S tl fuel (listed.setIfInBounds i true) ⟨look ((d,x)::m),h⟩)(hd:Nat.blt d N.n=true:=by rfl)(htl:(tail2 l.toArray tl&&cloB l.toArray listed&& !Nat.ble tl i&&Region.free .any l.toArray listed i&&(Region.ready .any l.toArray listed).contains i)=true:=by kernel_rfl)(hw:wantedA l.toArray (look m) ⟨some d,op,ty,pos,af,gd⟩=some true:=by first|rfl|exact wan_y rfl rfl (beq_tt ‹_›)|exact wan_y rfl rfl (beq_ff ‹_›)|exact wan_y rfl rfl (by simp[*]))(hS:S h:=by repeat (first|exact kb_n _|refine kb_c rfl ?_)):AAny P N l.toArray Q S tl (fuel+1) listed ⟨look m,h⟩:=aa_t2 hi hd htl hw hst hS H
theorem index_asc{f:Fls}{a:Fil}{q i:Nat}{d:Dvc}{n:Nod}(ha:a.1=(q:Int))(hq:f[q]?=some d)(hd:Asc d.nodes)(hn:d.nodes[i]?=some n)(hi:n.ino=a.2):indexL f a=(i:Int):=by
 rw[indexL_at ha hq]
 refine idxBy_first hn (by simpa using hi) fun j y hj hy=>?_
 obtain⟨l1,e1⟩:=List.getElem?_eq_some_iff.1 hn
 obtain⟨l2,e2⟩:=List.getElem?_eq_some_iff.1 hy
 have hp:=List.pairwise_iff_getElem.1 hd j i l2 l1 hj
 rw[e1,e2]at hp
 have:y.ino≠a.2:=by omega
 simpa using this
theorem Renter2(f:Fls)(q:Nat)(d':Dvc)(n:Nod)(i:Nat)(a:Fil)(name:Str)(ino:Int)(cap cap1:Nat)(hf:FlsB (f.set q d'))(hq:q<f.length)(ha:a.1=(q:Int))(hi:indexL (f.set q d') a=(i:Int))(hn:d'.nodes[i]?=some n)(hcap:f.length≤cap)(hcap1:d'.nodes.length≤cap1):
    ACall Tryz.prog 76 [.agg [.bs 0 0 2 f.length cap], .agg (filA a), .v (.string name), .v (.int .i64 ino)] [DB f q d' 1 cap cap1,NB d'.nodes cap1] (fun r b t=>t=[]∧r= .tup []∧b=[DB f q d' 1 cap cap1,NB (entS d'.nodes i n name ino) cap1]):=by
 have key:=Renter (f.set q d') q d' n i a name ino cap cap1 hf (by simp[hq]) ha hi hn (by simpa using hcap) hcap1
 rw[List.length_set,DB_any]at key
 exact key
def setL05(f:Fls)(a:Fil)(mode uid gid:Int):Fls×Int:=
 if hasG f a=false then([],2)else if plainL (setA mode uid gid (nodG f a))=false then([],22)else(onD f a.1.toNat fun ns=>updI ns a.2 (setA mode uid gid),0)
def setR(R:Fls×Int):AV:= .tup [.agg (flsA R.1), .v (.int .i64 R.2)]
theorem errs_le(e:Int):LeA (.tup [.agg [.v (.slice none 0 0)], .v (.int .i64 e)]) (setR ([],e)):=(by repeat (first|exact LeA.refl _|exact LeA.nil _|exact LeL.refl _|refine LeA.agg ?_|refine LeA.tup ?_|exact LeL.nil|refine LeL.cons ?_ ?_|exact LeA.any _))
theorem plain_target{n:Nod}(h:plainL n=true):n.target.size≤128:=by
 unfold plainL at h
 split at h
 ·cases h
 split at h
 ·simp[targetL]at h;omega
 have h2:=List.isEmpty_iff.1 h
 rw[ByteArray.toList_eq]at h2
 have:n.target.data.size=0:=by rw[←Array.length_toList,h2];rfl
 show n.target.data.size≤128
 omega
theorem nodG_target{f:Fls}(hv:FlsV f)(a:Fil):(nodG f a).target.size≤128:=by
 rcases index_node f a with⟨-,h⟩|⟨k,i,d,n, -,h1,h2, -, -,h⟩
 ·simp only[nodG,h,Option.getD_none]
  exact Nat.zero_le _
 simp only[nodG,h,Option.getD_some]
 exact plain_target ((hv.vd d (List.mem_of_getElem? h1)).plain n (List.mem_of_getElem? h2))
def mkL(f:Fls)(dir:Fil)(name:Str)(n:Nod):ChgRes:=
 if placeL f dir name≠0 then([],[],placeL f dir name)else if plainL n=false then([],[],22)else if(lookL f dir name).2=0 then([],[],17)else
 match atI f dir.1 with
 |none=>([],[],2)
 |some d=>if 16≤d.nodes.length∨d.next=1073741824∨fullL f dir=true then([],[],28)else(f.set dir.1.toNat ⟨d.next+1,entD d.nodes dir.2 name d.next++[mkNod n d.next dir.2]⟩,[(dir,name,(0,0),(dir.1,d.next))],0)
theorem DB_push{f:Fls}{q:Nat}{d:Dvc}{j j' cap cap1 c:Nat}(m:Nod)(hq:q<f.length):SetAt (DB f q d j cap cap1) (0+q * 2+1) [.bs j' 0 8 (d.nodes.length+1) c] (DB f q {d with nodes:=d.nodes++[m]} j' cap c):=by
 have h:=DB_set (d:=d) (d':={d with nodes:=d.nodes++[m]}) (j:=j) (j':=j') (cap:=cap) (cap1:=cap1) (cap1':=c) (k:=1) (cs:=[.bs j' 0 8 (d.nodes++[m]).length c]) hq (by repeat constructor) (by simp)
 rwa [List.length_append]at h
section
set_option maxRecDepth 10000
set_option maxHeartbeats 2000000
theorem Rset(f:Fls)(a:Fil)(mode uid gid:Int)(hv:FlsV f):AFn Tryz.prog 127 [.agg (flsA f), .agg (filA a), .v (.int .i64 mode), .v (.int .i64 uid), .v (.int .i64 gid)] (fun r=>r=setR (setL05 f a mode uid gid)):=by
 have hf:=hv.b
 have htg:=nodG_target hv a
 refine enter Tryz.func127 rfl rfl rfl rfl rfl 0 rfl ?_
 refine w_ (b_ (h:=b_ (h:=al_ (h:=a_ (h:=e_ (w_ (l_ (h:=l_ (h:=?_)))))))))
 refine al_p rfl (q_call (Rnode f a hf) ?_)
 rintro r rfl
 refine m_ (h:=x_ (h:=x_ (h:=al_ (h:=s_ (h:=a_ (h:=e_ (q_ (w_ (m_ (h:=nt_ (h:=e_ (?_))))))))))))
 refine aw_cond rfl (fun hb1=>?_) (fun hb1=>?_)
 ·have hc1:=bp hb1
  refine w_ (bd_ (h:=s_ (h:=a_ (h:=e_ (aw_ret (x_thenR (?_)))))))
  refine rt_ (r:=setR (setL05 f a mode uid gid)) none (h5:=?_) (h6:=⟨rfl,rfl,rfl⟩)
  rw[setL05,if_pos hc1]
  exact errs_le _
 have hc1:=bp hb1
 refine kt_ (w_ (m_ (h:=m_ (h:=m_ (h:=f_ (h:=s_ (h:=f_ (h:=s_ (h:=f_ (h:=s_ (h:=e_ (q_ (w_ (l_ (h:=?_)))))))))))))))
 refine al_p rfl (q_call (Rplain (setA mode uid gid (nodG f a)) (by show(nodG f a).target.size≤100000;omega)) ?_)
 rintro r rfl
 refine nt_ (h:=e_ (?_))
 refine aw_cond rfl (fun hb2=>?_) (fun hb2=>?_)
 ·have hc2:=bp hb2
  refine w_ (bd_ (h:=s_ (h:=a_ (h:=e_ (aw_ret (x_thenR (?_)))))))
  refine rt_ (r:=setR (setL05 f a mode uid gid)) none (h5:=?_) (h6:=⟨rfl,rfl,rfl⟩)
  rw[setL05,if_neg (by simp[hc1]),if_pos hc2]
  exact errs_le _
 have hc2:=bp hb2
 obtain⟨q,i,d,n0,hdq,hq,hn0,hino,hidx,hnode⟩:=(index_node f a).resolve_left (fun h=>by simp[hasG,h.2]at hc1)
 have hil:=(List.getElem?_eq_some_iff.1 hn0).1
 have hql:=(List.getElem?_eq_some_iff.1 hq).1
 have hng:nodG f a=n0:=by simp[nodG,hnode]
 refine kt_ (w_ (l_ (h:=?_)))
 refine al_p rfl (s_callM [] rfl (.cons _ _ _ _ _ rfl (LeA.refl _) .nil) (by decide) .nil (RcopyK f q d hf hq (by omega)) ?_)
 rintro r bc tc ⟨rfl,cap,cap1,hcap,hcap1,rfl,rfl⟩
 refine⟨rfl,_,(back_new2 (n:=4) rfl f q d d.nodes cap cap1:Back _ [] _ [_,_,_,_,_,_]),?_⟩
 have hD0:(DB f q d 5 cap cap1)[0+q * 2+1]?=some (.bs 5 0 8 d.nodes.length cap1):=DB_nodes hql
 have hset:SetAt (NB d.nodes cap1) (0+i * 8) (nodA (setA mode uid gid (nodG f a))) (NB (d.nodes.set i (setA mode uid gid (nodG f a))) cap1):=by
  rw[hng]
  exact NB_set (k:=0) hn0 (by repeat constructor) (by simp[nodA])
 refine al_ (h:=s_ (h:=e_ (q_ (yk_ ([(0,flsA f),(1,filA a),(3,nodA (setA mode uid gid (nodG f a))),(4,DB f q d 5 cap cap1),(6,[.bs 4 0 2 f.length cap])]) 13 (h:=df_ 0 (h:=?_))))))
 first|refine dl_ 1 (h:=?_)|refine tk_ 1 rfl (fun _ hS=>st_loadB1 (row:=DB f q d 5 cap cap1) rfl (kb hS rfl) hD0 ⟨rfl,rfl⟩) ?_
 refine df_ 2 (h:=?_)
 first|refine dl_ 3 (h:=?_)|refine tk_ 3 rfl (fun _ hS=>st_loadB1 (row:=DB f q d 5 cap cap1) rfl (kb hS rfl) hD0 ⟨rfl,rfl⟩) ?_
 refine tk_ 4 rfl (fun _ hS=>st_indexS (m:=q) rfl rfl hdq hql ⟨rfl,rfl⟩) ?_
 refine df_ 5 (h:=?_)
 first|refine dl_ 6 (h:=?_)|refine tk_ 6 rfl (fun _ hS=>st_loadB1 (row:=DB f q d 5 cap cap1) rfl (kb hS rfl) hD0 ⟨rfl,rfl⟩) ?_
 first|refine dl_ 7 (h:=?_)|refine tk_ 7 rfl (fun _ hS=>st_loadB1 (row:=DB f q d 5 cap cap1) rfl (kb hS rfl) hD0 ⟨rfl,rfl⟩) ?_
 first|refine dl_ 8 (h:=?_)|refine tk_ 8 rfl (fun _ hS=>st_loadB1 (row:=DB f q d 5 cap cap1) rfl (kb hS rfl) hD0 ⟨rfl,rfl⟩) ?_
 first|refine dl_ 10 (h:=?_)|refine tk_ 10 rfl (fun _ hS=>st_loadB1 (row:=DB f q d 5 cap cap1) rfl (kb hS rfl) hD0 ⟨rfl,rfl⟩) ?_
 refine c_ 9 rfl (s_callR 2 rfl (.cons _ _ _ _ _ rfl (LeA.of_eq (low_fls hq hcap hcap1 (Nat.zero_le _) (Nat.zero_le _) rfl rfl)) (.cons _ _ _ _ _ rfl (LeA.refl _) .nil)) (Rindex f a hf) ?_)
 rintro r rfl
 refine⟨rfl,?_⟩
 refine o_ (h:=?_)
 refine tk_ 11 rfl (fun _ hS=>st_indexS (m:=i) rfl rfl hidx hil ⟨rfl,rfl⟩) ?_
 refine c0_ 12 rfl (s_store rfl rfl rfl rfl rfl rfl hset (by repeat constructor) ?_)
 refine o_ (h:=z_ (h:=t_ (?_)))
 refine aw_midI (fun t=>t=⟨look [(10, .bp 2 0),(11, .v (.int .i64 0))],⟨[flsA f,filA a,flsA (f.set q {d with nodes:=d.nodes.set i (setA mode uid gid (nodG f a))})],[]⟩⟩) ?_ ?_
 ·skip
  refine aw_region (l_ (h:=s_ (h:=a_ (h:=al_nil (?_)))))
  refine x_then ?_
  exact⟨_,rfl,weak_fz 3 2 rfl (congrArg (fun x=>[flsA f,filA a,x]) (liv_upd (k:=0) (i:=4) (j:=5) (d:=d) (d':={d with nodes:=d.nodes.set i (setA mode uid gid (nodG f a))}) hql rfl (by simp) hcap (by simpa using hcap1) (Nat.le_of_ble_eq_true rfl) (Nat.le_of_ble_eq_true rfl) rfl rfl)) (.cons _ _ _ _ rfl (LeA.refl _) (.cons _ _ _ _ rfl (LeA.refl _) .nil))⟩
 rintro t rfl
 refine aw_ret (?_)
 refine e_ret ?_
 rw[setL05,if_neg (by simp[hc1]),if_neg (by simp[hc2]),hdq,Int.toNat_natCast,onD_set hq,←hino,←set_updI (hv.vd d (List.mem_of_getElem? hq)).asc hn0,←hng]
 rfl
theorem Rmake(f:Fls)(dir:Fil)(name:Str)(n:Nod)(hv:FlsV f)(hs:name.size≤100000)(hns:n.target.size≤100000):AFn Tryz.prog 45 [.agg (flsA f), .agg (filA dir), .v (.string name), .agg (nodA n)] (fun r=>r=chgR (mkL f dir name n)):=by
 have hf:=hv.b
 obtain⟨e0,he0⟩:∃e0:Int,e0=if placeL f dir name≠0 then placeL f dir name else if plainL n=false then 22 else 0:=⟨_,rfl⟩
 refine enter Tryz.func45 rfl rfl rfl rfl rfl 0 rfl ?_
 refine w_ (b_ (h:=b_ (h:=b_ (h:=al_ (h:=a_ (h:=a_ (h:=e_ (w_ (l_ (h:=l_ (h:=m_ (h:=?_))))))))))))
 refine al_p rfl (q_call (Rplace f dir name hf hs) ?_)
 rintro r rfl
 refine a_ (h:=e_ (?_))
 refine aw_midI (fun t=>t=⟨look [(2, .v (.string name)),(4, .bp 0 0),(5, .bp 1 0),(7, .bp 2 0),(8, .bp 3 0),(9, .v (.slice none 0 0)),(10, .v (.int .i64 0)),(11, .v (.int .i64 e0))],⟨[flsA f,filA dir,nodA n,[.v (.slice none 0 0)]],[]⟩⟩) ?_ ?_
 ·skip
  refine w_ (m_ (h:=eq_ (h:=m_ (h:=?_))))
  refine al_gs true rfl rfl (fun hb1=>?_) (fun hb1=>?_)
  ·have hc1:=bp hb1
   refine l_ (h:=?_)
   refine g_y (q_call (Rplain n hns) ?_)
   rintro r rfl
   refine nt_ (h:=pt_ (h:=e_ (?_)))
   refine aw_cond rfl (fun hb2=>?_) (fun hb2=>?_)
   ·have hc2:=bp hb2
    have hee:e0=22:=by rw[he0,if_neg (by omega),if_pos hc2]
    refine aw_region (a_ (h:=al_nil (?_)))
    refine x_then ?_
    refine⟨_,rfl,?_⟩
    rw[hee]
    exact(wk 4 0)
   have hc2:=bp hb2
   have hee:e0=placeL f dir name:=by rw[he0,if_neg (by omega),if_neg (by simp[hc2]),hc1]
   refine aw_skip (?_)
   refine x_then ?_
   refine⟨_,rfl,?_⟩
   rw[hee]
   exact(wk 4 0)
  have hc1:=bp hb1
  have hee:e0=placeL f dir name:=by rw[he0,if_pos hc1]
  refine g0_ (h:=g0_ (h:=g0_ (h:=pf_ (h:=e_ (cn_ (h:=aw_skip (?_)))))))
  refine x_then ?_
  refine⟨_,rfl,?_⟩
  rw[hee]
  exact(wk 4 0)
 rintro t rfl
 refine q_ (w_ (m_ (h:=nq_ (h:=e_ (?_)))))
 refine aw_cond rfl (fun hb3=>?_) (fun hb3=>?_)
 ·have hc3:=bp hb3
  refine w_ (bd_ (h:=m_ (h:=s_ (h:=a_ (h:=a_ (h:=e_ (aw_ret (x_thenR (?_)))))))))
  refine rt_ (r:=chgR (mkL f dir name n)) none (h5:=?_) (h6:=⟨rfl,rfl,rfl⟩)
  rw[show mkL f dir name n=([],[],e0) by
   unfold mkL
   by_cases h:placeL f dir name=0
   ·rw[if_neg (by omega)]at he0 ⊢
    by_cases h2:plainL n=false
    ·rw[if_pos h2]at he0 ⊢;rw[he0]
    rw[if_neg h2]at he0;omega
   rw[if_pos h]at he0 ⊢;rw[he0]]
  exact err_le _
 have hc3:=bp hb3
 have hpl:placeL f dir name=0:=by
  by_cases h:placeL f dir name=0
  ·exact h
  rw[if_pos h]at he0;omega
 have hpn:¬plainL n=false:=by
  intro h
  rw[if_neg (by omega),if_pos h]at he0
  omega
 refine kt_ (q_ (w_ (l_ (h:=l_ (h:=m_ (h:=?_))))))
 refine al_p rfl (q_call (Rlook f dir name hf) ?_)
 rintro r rfl
 refine m_ (h:=x_ (h:=x_ (h:=al_ (h:=s_ (h:=a_ (h:=e_ (w_ (m_ (h:=eq_ (h:=e_ (?_)))))))))))
 refine aw_cond rfl (fun hb4=>?_) (fun hb4=>?_)
 ·have hc4:=bp hb4
  refine w_ (bd_ (h:=s_ (h:=a_ (h:=a_ (h:=e_ (aw_ret (x_thenR (?_))))))))
  refine rt_ (r:=chgR (mkL f dir name n)) none (h5:=?_) (h6:=⟨rfl,rfl,rfl⟩)
  rw[mkL,if_neg (by omega),if_neg hpn,if_pos (by omega)]
  exact err_le _
 have hc4:=bp hb4
 obtain⟨q,i,d,n0,hdq,hq,hn0,hino,hidx,hnode,hk0,hnm⟩:=place_ok (name:=name) (dir:=dir) (f:=f) hpl
 have hil:=(List.getElem?_eq_some_iff.1 hn0).1
 have hql:=(List.getElem?_eq_some_iff.1 hq).1
 have hvd:=hv.vd d (List.mem_of_getElem? hq)
 have hatI:atI f dir.1=some d:=by rw[hdq,atI_nat,hq]
 have hrow:(f.map dvcA)[q]?=some (dvcA d):=by rw[List.getElem?_map,hq];rfl
 have hnx1:=hvd.next2
 have hnx2:=hvd.nextM
 have hdl:=hvd.len
 refine kt_ (w_ (f_ (h:=l_ (h:=f_ (h:=l_ (h:=?_))))))
 refine al_p rfl (st_index (n:=q) rfl rfl hdq hrow ?_)
 refine l_ (h:=al_ (h:=s_ (h:=e_ (q_ (w_ (f_ (h:=l_ (h:=n_ (h:=ge_ (h:=m_ (h:=?_)))))))))))
 refine al_gs false rfl rfl (fun hb5=>?_) (fun hb5=>?_)
 ·have hc5:=bp hb5
  refine g0_ (h:=g0_ (h:=g0_ (h:=pt_ (h:=m_ (h:=g0_ (h:=g0_ (h:=g0_ (h:=pt_ (h:=e_ (cy_ (h:=w_ (bd_ (h:=s_ (h:=a_ (h:=a_ (h:=e_ (aw_ret (x_thenR (?_)))))))))))))))))))
  refine rt_ (r:=chgR (mkL f dir name n)) none (h5:=?_) (h6:=⟨rfl,rfl,rfl⟩)
  rw[mkL,if_neg (by omega),if_neg hpn,if_neg (by omega),hatI]
  simp only
  rw[if_pos (by first|exact .inl (by simp at *;omega)|exact .inr (.inl (by omega))|exact .inr (.inr (by assumption)))]
  exact err_le _
 have hc5:=bp hb5
 refine f_ (h:=l_ (h:=eq_ (h:=pf_ (h:=m_ (h:=?_)))))
 refine al_gs false rfl rfl (fun hb6=>?_) (fun hb6=>?_)
 ·have hc6:=bp hb6
  refine g0_ (h:=g0_ (h:=g0_ (h:=pt_ (h:=e_ (cy_ (h:=w_ (bd_ (h:=s_ (h:=a_ (h:=a_ (h:=e_ (aw_ret (x_thenR (?_))))))))))))))
  refine rt_ (r:=chgR (mkL f dir name n)) none (h5:=?_) (h6:=⟨rfl,rfl,rfl⟩)
  rw[mkL,if_neg (by omega),if_neg hpn,if_neg (by omega),hatI]
  simp only
  rw[if_pos (by first|exact .inl (by simp at *;omega)|exact .inr (.inl (by omega))|exact .inr (.inr (by assumption)))]
  exact err_le _
 have hc6:=bp hb6
 refine l_ (h:=l_ (h:=?_))
 refine g_y (q_call (Rfull f dir hf) ?_)
 rintro r rfl
 refine pf_ (h:=e_ (?_))
 refine aw_cond rfl (fun hb7=>?_) (fun hb7=>?_)
 ·have hc7:=bp hb7
  refine w_ (bd_ (h:=s_ (h:=a_ (h:=a_ (h:=e_ (aw_ret (x_thenR (?_))))))))
  refine rt_ (r:=chgR (mkL f dir name n)) none (h5:=?_) (h6:=⟨rfl,rfl,rfl⟩)
  rw[mkL,if_neg (by omega),if_neg hpn,if_neg (by omega),hatI]
  simp only
  rw[if_pos (by first|exact .inl (by simp at *;omega)|exact .inr (.inl (by omega))|exact .inr (.inr (by assumption)))]
  exact err_le _
 have hc7:=bp hb7
 refine kt_ (w_ (l_ (h:=?_)))
 refine al_p rfl (s_callM [] rfl (.cons _ _ _ _ _ rfl (LeA.refl _) .nil) (by decide) .nil (RcopyK f q d hf hq (by omega)) ?_)
 rintro r bc tc ⟨rfl,cap,cap1,hcap,hcap1,rfl,rfl⟩
 refine⟨rfl,_,(back_new2 (n:=6) rfl f q d d.nodes cap cap1:Back _ [] _ [_,_,_,_,_,_,_,_]),?_⟩
 have hD0:(DB f q d 7 cap cap1)[0+q * 2+1]?=some (.bs 7 0 8 d.nodes.length cap1):=DB_nodes hql
 obtain⟨mk,hmk⟩:∃mk,mk=mkNod n d.next dir.2:=⟨_,rfl⟩
 refine al_ (h:=s_ (h:=e_ (w_ (f_ (h:=l_ (h:=f_ (h:=l_ (h:=f_ (h:=l_ (h:=f_ (h:=l_ (h:=f_ (h:=l_ (h:=f_ (h:=l_ (h:=?_))))))))))))))))
 refine al_p rfl (lf_ (y:= .agg (nodA ⟨d.next,n.kind,n.mode,n.uid,n.gid,0,n.target,[]⟩)) (bz_ ⟨rfl,rfl⟩) ?_)
 refine al_ (h:=s_ (h:=e_ (?_)))
 refine aw_midI (fun t=>t=⟨look [(2, .v (.string name)),(5, .bp 1 0),(8, .bp 3 0),(15, .bp 8 0),(16, .bp 9 0)],⟨[flsA f,filA dir,nodA n,[.v (.slice none 0 0)],filA (lookL f dir name).1,dvcA d,DB f q d 7 cap cap1,NB d.nodes cap1,[.bs 6 0 2 f.length cap],nodA mk],[]⟩⟩) ?_ ?_
 ·skip
  refine w_ (f_ (h:=l_ (h:=eq_ (h:=e_ (?_)))))
  refine aw_cond rfl (fun hb8=>?_) (fun hb8=>?_)
  ·have hc8:=bp hb8
   have hmk2:mk=⟨d.next,n.kind,n.mode,n.uid,n.gid,dir.2,n.target,[]⟩:=by rw[hmk];unfold mkNod;rw[if_pos hc8]
   refine aw_region (f_ (h:=l_ (h:=f_ (h:=s_ (h:=al_nil (?_))))))
   refine x_then ?_
   refine⟨_,rfl,?_⟩
   rw[hmk2]
   exact wb_ 10 0 (by simp[bpLtB,bpLtL,bpLt,bp_DB,bp_NB,filA,nodA,flsA,dvcA])
  have hc8:=bp hb8
  have hmk2:mk=⟨d.next,n.kind,n.mode,n.uid,n.gid,0,n.target,[]⟩:=by rw[hmk];unfold mkNod;rw[if_neg hc8]
  refine aw_skip (?_)
  refine x_then ?_
  refine⟨_,rfl,?_⟩
  rw[hmk2]
  exact wb_ 10 0 (by simp[bpLtB,bpLtL,bpLt,bp_DB,bp_NB,filA,nodA,flsA,dvcA])
 rintro t rfl
 refine aw_midI (fun t=>∃capx,(d.nodes++[mk]).length≤capx∧t=⟨look [(2, .v (.string name)),(5, .bp 1 0),(8, .bp 3 0),(15, .bp 8 0),(16, .bp 9 0)],⟨[flsA f,filA dir,nodA n,[.v (.slice none 0 0)],filA (lookL f dir name).1,dvcA d,DB f q {d with nodes:=d.nodes++[mk]} 7 cap capx,NB (d.nodes++[mk]) capx,[.bs 6 0 2 f.length cap],nodA mk],[]⟩⟩) ?_ ?_
 ·skip
  refine yk_ ([(0,flsA f),(1,filA dir),(2,nodA n),(3,[.v (.slice none 0 0)]),(4,filA (lookL f dir name).1),(5,dvcA d),(6,DB f q d 7 cap cap1),(8,[.bs 6 0 2 f.length cap]),(9,nodA mk)]) 16 (h:=?_)
  refine t2_ 0 rfl (fun h0 hS=>st_fieldB rfl ⟨rfl,rfl⟩) ?_
  first|refine t2_ 1 rfl (fun h0 hS=>st_loadB1 (row:=DB f q d 7 cap cap1) rfl (kb hS rfl) hD0 ⟨rfl,rfl⟩) ?_|refine t2_ 1 rfl (fun h0 hS=>st_loadB1 rfl (kb hS rfl) rfl ⟨rfl,rfl⟩) ?_
  refine t2_ 2 rfl (fun h0 hS=>st_fieldB rfl ⟨rfl,rfl⟩) ?_
  first|refine t2_ 3 rfl (fun h0 hS=>st_loadB1 (row:=DB f q d 7 cap cap1) rfl (kb hS rfl) hD0 ⟨rfl,rfl⟩) ?_|refine t2_ 3 rfl (fun h0 hS=>st_loadB1 rfl (kb hS rfl) rfl ⟨rfl,rfl⟩) ?_
  refine t2_ 4 rfl (fun h0 hS=>st_fieldB rfl ⟨rfl,rfl⟩) ?_
  first|refine t2_ 5 rfl (fun h0 hS=>st_loadB1 (row:=DB f q d 7 cap cap1) rfl (kb hS rfl) hD0 ⟨rfl,rfl⟩) ?_|refine t2_ 5 rfl (fun h0 hS=>st_loadB1 rfl (kb hS rfl) rfl ⟨rfl,rfl⟩) ?_
  refine t2_ 6 rfl (fun h0 hS=>st_fieldB rfl ⟨rfl,rfl⟩) ?_
  first|refine t2_ 7 rfl (fun h0 hS=>st_loadB1 (row:=DB f q d 7 cap cap1) rfl (kb hS rfl) hD0 ⟨rfl,rfl⟩) ?_|refine t2_ 7 rfl (fun h0 hS=>st_loadB1 rfl (kb hS rfl) rfl ⟨rfl,rfl⟩) ?_
  refine t2_ 8 rfl (fun h0 hS=>st_indexS (m:=q) rfl rfl hdq hql ⟨rfl,rfl⟩) ?_
  refine t2_ 9 rfl (fun h0 hS=>st_fieldB rfl ⟨rfl,rfl⟩) ?_
  first|refine t2_ 10 rfl (fun h0 hS=>st_loadB1 (row:=DB f q d 7 cap cap1) rfl (kb hS rfl) hD0 ⟨rfl,rfl⟩) ?_|refine t2_ 10 rfl (fun h0 hS=>st_loadB1 rfl (kb hS rfl) rfl ⟨rfl,rfl⟩) ?_
  first|refine t2_ 11 rfl (fun h0 hS=>st_loadB1 (row:=DB f q d 7 cap cap1) rfl (kb hS rfl) hD0 ⟨rfl,rfl⟩) ?_|refine t2_ 11 rfl (fun h0 hS=>st_loadBW rfl (kb hS rfl) rfl ⟨rfl,rfl⟩) ?_
  refine t2_ 12 rfl (fun h0 hS=>st_slit (by repeat (first|exact DenseA.nil _|(apply DenseA.cons;(focus exact rfl);(focus exact rfl);(focus exact rfl);(focus exact rfl))|(apply DenseA.consE;(focus exact rfl);(focus exact rfl);(focus exact rfl)))) rfl rfl rfl rfl ⟨rfl,rfl⟩) ?_
  refine c_ 13 rfl (st_appendB rfl rfl rfl (by rw[NB_len hcap1];omega) src1 (by omega) (by omega) ?_ ?_)
  ·rintro hg row2 bx2 hs hb
   obtain rfl:=NB_push hs hg
   obtain rfl:bx2=[_,_,_,_,_,_,_,_,_,_]:=hb.one.2
   have hgx:(d.nodes++[mk]).length≤cap1:=by simpa using hg
   refine o_ (h:=?_)
   refine t2_ 14 rfl (fun h0 hS=>st_indexS (m:=q) rfl rfl hdq hql ⟨rfl,rfl⟩) ?_
   refine t2_ 15 rfl (fun h0 hS=>st_fieldB rfl ⟨rfl,rfl⟩) ?_
   refine c0_ 16 rfl (s_store rfl rfl rfl rfl rfl rfl (DB_push mk hql) (by repeat constructor) ?_)
   refine o_ (h:=z_ (h:=?_))
   refine x_then ?_
   first|exact⟨_,⟨_,hgx,rfl⟩,weak_ren [0,1,2,3,4,5,6,10,8,9] (fun i hi=>absurd hi (Nat.not_lt_zero i)) (by decide) (.cons _ _ _ _ _ rfl rfl (.cons _ _ _ _ _ rfl rfl (.cons _ _ _ _ _ rfl rfl (.cons _ _ _ _ _ rfl rfl (.cons _ _ _ _ _ rfl rfl (.cons _ _ _ _ _ rfl rfl (.cons _ _ _ _ _ rfl (renK_DB (by rfl) _ _ _ _ _) (.cons _ _ _ _ _ rfl (renK_NB _ _ _) (.cons _ _ _ _ _ rfl rfl (.cons _ _ _ _ _ rfl rfl .nil)))))))))) (by repeat (first|exact SubK.nil|refine SubK.cons _ _ _ _ rfl (LeA.refl _) ?_))⟩|exact⟨_,⟨_,hgx,rfl⟩,wb_ 10 0 (by simp[bpLtB,bpLtL,bpLt,bp_DB,bp_NB,filA,nodA,flsA,dvcA])⟩
  rintro hg cap3 k bx2 hcp3 hs
  rw[show((NB d.nodes cap1).drop 0).take (d.nodes.length * 8)++cellsA (.agg (nodA mk))++List.replicate ((cap3 - (d.nodes.length+1)) * 8) AV.any=NB (d.nodes++[mk]) cap3 from NB_new d.nodes mk cap1 cap3]at hs
  obtain⟨rfl,rfl⟩:k=10∧bx2=[_,_,_,_,_,_,_,_,_,_,_]:=hs.eq
  have hgx:(d.nodes++[mk]).length≤cap3:=by simpa using hcp3
  refine o_ (h:=?_)
  refine t2_ 14 rfl (fun h0 hS=>st_indexS (m:=q) rfl rfl hdq hql ⟨rfl,rfl⟩) ?_
  refine t2_ 15 rfl (fun h0 hS=>st_fieldB rfl ⟨rfl,rfl⟩) ?_
  refine c0_ 16 rfl (s_store rfl rfl rfl rfl rfl rfl (DB_push mk hql) (by repeat constructor) ?_)
  refine o_ (h:=z_ (h:=?_))
  refine x_then ?_
  first|exact⟨_,⟨_,hgx,rfl⟩,weak_ren [0,1,2,3,4,5,6,10,8,9] (fun i hi=>absurd hi (Nat.not_lt_zero i)) (by decide) (.cons _ _ _ _ _ rfl rfl (.cons _ _ _ _ _ rfl rfl (.cons _ _ _ _ _ rfl rfl (.cons _ _ _ _ _ rfl rfl (.cons _ _ _ _ _ rfl rfl (.cons _ _ _ _ _ rfl rfl (.cons _ _ _ _ _ rfl (renK_DB (by rfl) _ _ _ _ _) (.cons _ _ _ _ _ rfl (renK_NB _ _ _) (.cons _ _ _ _ _ rfl rfl (.cons _ _ _ _ _ rfl rfl .nil)))))))))) (by repeat (first|exact SubK.nil|refine SubK.cons _ _ _ _ rfl (LeA.refl _) ?_))⟩|exact⟨_,⟨_,hgx,rfl⟩,wb_ 10 0 (by simp[bpLtB,bpLtL,bpLt,bp_DB,bp_NB,filA,nodA,flsA,dvcA])⟩
 rintro t ⟨capx,hcapx,rfl⟩
 have hasc2:Asc (d.nodes++[mk]):=List.pairwise_append.2 ⟨hvd.asc,List.pairwise_singleton _ _,fun x hx y hy=>by obtain rfl:=List.mem_singleton.1 hy;rw[hmk];exact hvd.lt x hx⟩
 have hn2:(d.nodes++[mk])[i]?=some n0:=by rw[List.getElem?_append_left hil];exact hn0
 have hidx2:indexL (f.set q ⟨d.next+1,d.nodes++[mk]⟩) dir=(i:Int):=index_asc hdq (d:=⟨d.next+1,d.nodes++[mk]⟩) (by simp[hql]) hasc2 hn2 hino
 have hf2:FlsB (f.set q ⟨d.next+1,d.nodes++[mk]⟩):=hf.set_ (by have:=hvd.len;simp;omega) (fun m hm=>by
  rcases List.mem_append.1 hm with h|h
  ·have:=hvd.many m h;omega
  obtain rfl:=List.mem_singleton.1 h;rw[hmk];simp[mkNod])
 have hmki:mk.ino=d.next:=by rw[hmk];rfl
 have hmk0:(nodA mk)[0+0]?=some (.v (.int .i64 d.next)):=by rw[hmk];rfl
 refine w_ (f_ (h:=l_ (h:=f_ (h:=l_ (h:=?_)))))
 refine al_p rfl (st_indexS (m:=q) rfl rfl hdq hql ?_)
 refine f_ (h:=?_)
 refine al_p rfl (st_loadB1 rfl rfl (DB_next hql) ?_)
 refine al_p rfl (st_add64 rfl rfl (by dsimp only;omega) ?_)
 refine al_p rfl (st_indexS (m:=q) rfl rfl hdq hql ?_)
 refine f_ (h:=?_)
 refine al_p0 (s_store rfl rfl rfl rfl rfl rfl (DB_set (d':=⟨d.next+1,d.nodes++[mk]⟩) (j':=7) (cap1':=capx) (k:=0) (cs:=[.v (.int .i64 (d.next+1))]) hql (by repeat constructor) (by simp)) (by repeat constructor) ?_)
 refine e_ (w_ (l_ (h:=l_ (h:=m_ (h:=f_ (h:=l_ (h:=?_)))))))
 refine al_p rfl (s_callM [6,7] rfl (.cons _ _ _ _ _ rfl (LeA.refl _) (.cons _ _ _ _ _ rfl (LeA.refl _) (.cons _ _ _ _ _ rfl (LeA.refl _) (.cons _ _ _ _ _ rfl (LeA.of_eq (show AV.v (.int .i64 mk.ino)=_ by rw[hmki])) .nil)))) (by decide) (.cons _ _ _ _ _ rfl (ren_DB (by rfl) _ _ _ _ _) (.cons _ _ _ _ _ rfl (ren_NB _ _ _) .nil)) (Renter2 f q ⟨d.next+1,d.nodes++[mk]⟩ n0 i dir name d.next cap capx hf2 hql hdq hidx2 hn2 hcap hcapx) ?_)
 rintro r bc tc ⟨rfl,rfl,rfl⟩
 refine⟨rfl,_,(back_two (Nat.le_of_ble_eq_true rfl) (Nat.le_of_ble_eq_true rfl) (by decide) f q ⟨d.next+1,d.nodes++[mk]⟩ (entS (d.nodes++[mk]) i n0 name d.next) cap capx capx:Back _ [6,7] _ [_,_,_,_,_,_,_,_,_,_]),?_⟩
 refine e_ (?_)
 refine aw_midI (fun t=>t=⟨look [(8, .bp 3 0),(9, .sl 7 [chgA (dir,name,(0,0),(dir.1,d.next))] none),(10, .v (.int .i64 0))],⟨[flsA f,filA dir,nodA n,flsA (f.set q ⟨d.next+1,entS (d.nodes++[mk]) i n0 name d.next⟩)],[]⟩⟩) ?_ ?_
 ·skip
  refine yk_ ([(0,flsA f),(1,filA dir),(2,nodA n),(4,filA (lookL f dir name).1),(5,dvcA d),(8,[.bs 6 0 2 f.length cap]),(9,nodA mk)]) 13 (h:=dl_ 0 (h:=dl_ 1 (h:=dm_ 2 (h:=?_))))
  refine tk_ 3 rfl (fun _ hS=>st_le (y:= .agg (filA (0,0))) (bz_ ⟨rfl,rfl⟩) (by repeat (first|exact LeA.refl _|exact LeA.nil _|exact LeL.refl _|refine LeA.agg ⟨rfl,rfl⟩|refine LeA.tup ⟨rfl,rfl⟩|exact LeL.nil|refine LeL.cons ⟨rfl,rfl⟩ ⟨rfl,rfl⟩|exact LeA.any _)) ⟨rfl,rfl⟩) ?_
  refine df_ 4 (h:=dl_ 5 (h:=df_ 6 (h:=?_)))
  refine tk_ 7 rfl (fun _ hS=>st_loadB1 (row:=nodA mk) rfl (kb hS rfl) hmk0 ⟨rfl,rfl⟩) ?_
  refine dbd_ 8 (h:=?_)
  refine c_ 9 rfl (q_call (Rone dir name (0,0) (dir.1,d.next)) ?_)
  rintro r rfl
  refine o_ (h:=?_)
  refine c0_ 10 rfl (s_store rfl rfl rfl rfl rfl rfl (by repeat constructor) (by repeat constructor) ?_)
  refine o_ (h:=da_ 11 (h:=da_ 12 (h:=z_ (h:=?_))))
  refine x_then ?_
  exact⟨_,rfl,weak_fz 4 2 rfl (congrArg (fun x=>[flsA f,filA dir,nodA n,x]) (liv_upd (k:=0) (i:=6) (j:=7) (d:=⟨d.next+1,d.nodes++[mk]⟩) (d':=⟨d.next+1,entS (d.nodes++[mk]) i n0 name d.next⟩) hql rfl (entS_len _ _ _ _ _) hcap (by rw[entS_len];exact hcapx) (Nat.le_of_ble_eq_true rfl) (Nat.le_of_ble_eq_true rfl) rfl rfl)) (.cons _ _ _ _ rfl (LeA.refl _) (.cons _ _ _ _ rfl (LeA.refl _) (.cons _ _ _ _ rfl (LeA.refl _) .nil)))⟩
 rintro t rfl
 refine aw_ret (?_)
 refine e_ret ?_
 rw[List.length_map]at hc5
 rw[mkL,if_neg (by omega),if_neg hpn,if_neg (by omega),hatI]
 simp only
 rw[if_neg (by rw[hc7];simp;omega),hdq,Int.toNat_natCast,←hino,←entS_D hvd hn0,hino,←hmk,show entS d.nodes i n0 name d.next++[mk]=entS (d.nodes++[mk]) i n0 name d.next by unfold entS;rw[List.set_append_left _ _ hil],←hdq]
 rfl
end
theorem RcopyF(f:Fls)(hf:FlsB f):AFn Tryz.prog 73 [.agg (flsA f)] (fun r=>r= .agg (flsA f)):=by
 intro w St bl vs hr hv
 have hbl:bl=[]:=by have:=hr.bxlen;simpa using this
 subst hbl
 simp only[repL]at hv
 obtain⟨z,zs,rfl,hz,rfl⟩:=hv
 have hz':fro St w (.agg (flsA f)) z:=by have:=fro_era _ _ hz;simpa[era,eraL,flsA]using this
 have hF:=fls_old hr.stlt hf hz'
 refine Calls.mono (Old.Copy_any z f w hF) ?_
 rintro e w' ⟨dv,L,rfl,hD,hL,hB⟩
 have hsz:=hB.size
 obtain⟨d1,d2,d3,d4⟩:=hD
 let St':Nat→Nat→Prop:=fun b o=>St b o∨(w.heap.size≤b∧b<w'.heap.size)
 let G':Gh:=⟨St',[],[]⟩
 have hfresh:∀{α:Type} {sz:Nat} {cell:α→Nat→Value} {E:TypeId} {v:Value} {xs:List α},Old.OwnL sz cell E w' w.heap.size v xs→∀b,v.ownBlock=some b→∀o,St' b o:=fun h b hb o=> .inr (h.lt b hb)
 have hents:∀(y:Nod×Value),Old.OwnL 2 Old.entCell 138 w' w.heap.size y.2 y.1.entries→fro St' w' (.sl 2 (y.1.entries.map entA) none) y.2:=by
  intro y hy
  refine own_fro hy (hfresh hy) (fun _ _=>rfl) fun e _ j av hj=>?_
  match j,hj with
  |0,hj=>injection hj with hj;subst hj;simp only[fro];rfl
  |1,hj=>injection hj with hj;subst hj;simp only[fro];rfl
 have hnod:∀(y:Nod×Value),Old.OwnL 2 Old.entCell 138 w' w.heap.size y.2 y.1.entries→∀j av,(nodA y.1)[j]?=some av→fro St' w' av (Old.nodCell y j):=by
  intro y hy j av hj
  match j,hj with
  |0,hj=>injection hj with hj;subst hj;simp only[fro];rfl
  |1,hj=>injection hj with hj;subst hj;simp only[fro];rfl
  |2,hj=>injection hj with hj;subst hj;simp only[fro];rfl
  |3,hj=>injection hj with hj;subst hj;simp only[fro];rfl
  |4,hj=>injection hj with hj;subst hj;simp only[fro];rfl
  |5,hj=>injection hj with hj;subst hj;simp only[fro];rfl
  |6,hj=>injection hj with hj;subst hj;simp only[fro];rfl
  |7,hj=>injection hj with hj;subst hj;exact hents y hy
  |j+8,hj=>exact absurd hj (by simp[nodA])
 have hdev:fro St' w' (.sl 2 (L.map fun x=>dvcA (Old.dvcOf x)) none) dv:=by
  refine own_fro d1 (hfresh d1) (fun _ _=>rfl) fun x hx j av hj=>?_
  obtain⟨f1,f2,f3⟩:=(d2 x hx).1
  match j,hj with
  |0,hj=>injection hj with hj;subst hj;simp only[fro];rfl
  |1,hj=>
    injection hj with hj;subst hj
    have key:=own_fro f1 (St:=St') (hfresh f1) (enc:=fun y=>nodA y.1) (fun _ _=>rfl) fun z hz j av hj=>hnod z (f2 z hz).1 j av hj
    have e:((Old.dvcOf x).nodes.map nodA)=x.2.2.map fun y=>nodA y.1:=by simp[Old.dvcOf]
    rw[e]
    exact key
  |j+2,hj=>exact absurd hj (by simp[dvcA])
 have hst:∀b o,St b o→b<w.heap.size:=hr.stlt
 refine⟨.agg (flsA f),[],[],G',⟨rfl,rfl,rfl⟩,⟨?_,?_,?_,?_,rfl,?_,?_,?_,?_,rfl,?_,?_,?_⟩,⟨?_,?_,?_⟩,?_⟩
 ·intro i b hi;simp at hi
 ·exact⟨hB.os,hB.tape,hB.output,hB.size,fun k hk _=>hB.block k hk⟩
 ·rintro b o (h|h)
  ·have:=hst b o h;omega
  exact h.2
 ·rintro b o (h|h)
  ·exact .inl h
  exact .inr h.1
 ·show([]:List Nat).Nodup;simp
 ·intro b hb;simp[G']at hb
 ·intro b hb;simp[G']at hb
 ·intro i b row hi;simp[G']at hi
 ·intro g n u T sz rows hg;simp[G']at hg
 ·intro g n u hg;simp[G']at hg
 ·intro g g' n n' u u' hg;simp[G']at hg
 ·exact fun b o h=>⟨.inl h,hB.cell (p:=⟨b,o,none⟩) (hst b o h)⟩
 ·intro i b hi;simp at hi
 ·intro g n u hg;simp at hg
 refine rep_fro _ _ ?_
 unfold flsA
 rw[←hL,Old.flsOf,List.map_map]
 simp only[fro,froL]
 have hdev2:fro St' w' (.sl 2 (L.map (dvcA ∘ Old.dvcOf)) none) dv:=hdev
 simp only[fro]at hdev2
 exact⟨[dv],rfl,dv,[],rfl,hdev2,rfl⟩
def belowF(f:Fls)(a top:Fil):Bool:=belF f top 17 a
def ordV:List Int:=[2,20,22]
def ordL(a b:Int):Int:=if a=2∨b=2 then 2 else if a=20∨b=20 then 20 else if a=22∨b=22 then 22 else 0
theorem ord_hit{a b:Int}{j:Nat}{x:Int}(hx:ordV[j]?=some x)(ha:∀i y,i<j→ordV[i]?=some y→¬(a=y∨b=y))(h:a=x∨b=x):ordL a b=x:=by
 unfold ordL
 match j,hx with
 |0,hx=>injection hx with hx;subst hx;rw[if_pos h]
 |1,hx=>
   injection hx with hx;subst hx
   rw[if_neg (ha 0 2 (by omega) rfl),if_pos h]
 |2,hx=>
   injection hx with hx;subst hx
   rw[if_neg (ha 0 2 (by omega) rfl),if_neg (ha 1 20 (by omega) rfl),if_pos h]
 |j+3,hx=>exact absurd hx (by simp[ordV])
theorem place_vals(f:Fls)(a:Fil)(name:Str):placeL f a name=0∨placeL f a name=2∨placeL f a name=20∨placeL f a name=22:=by
 unfold placeL
 split
 ·exact .inr (.inl rfl)
 split
 ·split
  ·exact .inl rfl
  exact .inr (.inr (.inr rfl))
 exact .inr (.inr (.inl rfl))
theorem ord_none{a b:Int}(ha:∀i y,i<3→ordV[i]?=some y→¬(a=y∨b=y)):ordL a b=0:=by
 unfold ordL
 rw[if_neg (ha 0 2 (by omega) rfl),if_neg (ha 1 20 (by omega) rfl),if_neg (ha 2 22 (by omega) rfl)]
theorem ord_zero{f:Fls}{x y:Fil}{name name2:Str}(h:ordL (placeL f x name) (placeL f y name2)=0):placeL f x name=0∧placeL f y name2=0:=by
 unfold ordL at h
 split at h
 ·omega
 split at h
 ·omega
 split at h
 ·omega
 rename_i h1 h2 h3
 have a:=place_vals f x name
 have b:=place_vals f y name2
 omega
def ren2L(f:Fls)(src to:Fil)(a o:Fil)(e:Int):Int:=
 if e=0 then(if dirL f o=true∧dirL f a=false then 21 else if dirL f o=false∧dirL f a=true then 20 else if dirL f o=true∧emptyL f o=false then 39 else 0)else if fullL f to=true∧src≠to then 28 else 0
def renNs(ns:List Nod)(src:Fil)(name:Str)(to:Fil)(name2:Str)(a o:Fil)(e:Int):List Nod:=
 if e=0 then dropI (entD (entD ns src.2 name 0) to.2 name2 a.2) o.2 else entD (entD ns src.2 name 0) to.2 name2 a.2
def renPar(ns:List Nod)(i:Int)(p:Int)(b:Bool):List Nod:=if b=true then updI ns i (fun n=>{n with parent:=p})else ns
def renameL(f:Fls)(src:Fil)(name:Str)(to:Fil)(name2:Str):ChgRes:=
 if ordL (placeL f src name) (placeL f to name2)≠0 then([],[],ordL (placeL f src name) (placeL f to name2))else if(lookL f src name).2≠0 then([],[],(lookL f src name).2)else if src.1≠to.1 then([],[],18)else
 if dirL f (lookL f src name).1=true∧belowF f to (lookL f src name).1=true then([],[],22)else if(lookL f to name2).2=0∧(lookL f to name2).1=(lookL f src name).1 then(f,[],0)else
 if ren2L f src to (lookL f src name).1 (lookL f to name2).1 (lookL f to name2).2≠0 then([],[],ren2L f src to (lookL f src name).1 (lookL f to name2).1 (lookL f to name2).2)else
 (onD f to.1.toNat fun ns=>renPar (renNs ns src name to name2 (lookL f src name).1 (lookL f to name2).1 (lookL f to name2).2) (lookL f src name).1.2 to.2 (dirL f (lookL f src name).1),[(src,name,(lookL f src name).1,(0,0)),(to,name2,(lookL f to name2).1,(lookL f src name).1)],0)
theorem keepE_le(f:Fls):LeA (.tup [.agg (flsA f), .v (.slice none 0 0), .v (.int .i64 0)]) (chgR (f,[],0)):=LeA.tup (.cons (LeA.refl _) (.cons (LeA.nil 7) (.cons (LeA.refl _) .nil)))
theorem low_upd{n:Nat}{bx:List (List AV)}{k i j:Nat}{f:Fls}{q:Nat}{d:Dvc}{cap cap0 cap1:Nat}(hq:q<f.length)(hc:f.length≤cap)(hc1:d.nodes.length≤cap1)(hni:n≤i)(hnj:n≤j)
    (hi:bx[i]?=some (DB f q d j cap cap1)) (hj:bx[j]?=some (NB d.nodes cap1)):lowG (frzG n bx (k+2)) (.agg [.bs i 0 2 f.length cap0])= .agg (flsA (f.set q d)):=by
 have key:=low_fls (n:=n) (bx:=bx) (k:=k) (i:=i) (j:=j) (f:=f.set q d) (K:=q) (d:=d) (cap:=cap) (cap0:=cap0) (cap1:=cap1) (by simp[hq]) (by simpa using hc) hc1 hni hnj (by rw[hi,DB_any]) hj
 rw[List.length_set]at key
 exact key
theorem frz_plain{n:Nat}{bx:List (List AV)}{k j sz cap:Nat}{rows:List (List AV)}(hn:n≤j)(hj:bx[j]?=some (rowsB sz cap rows))(hp:∀r∈rows,∀x∈r,∃v,x= .v v):frzG n bx (k+1) j=some (rowsB sz cap rows):=by
 have:Nat.blt j n=false:=by rw[←Bool.not_eq_true,Nat.blt_eq];omega
 simp only[frzG,this,hj,Option.map_some,lowGL_map]
 rw[rowsB_map _ rfl]
 congr 2
 conv=>rhs;rw[←List.map_id rows]
 apply List.map_congr_left
 intro r hr
 conv=>rhs;rw[id,←List.map_id r]
 apply List.map_congr_left
 intro x hx
 obtain⟨v,rfl⟩:=hp r hr x hx
 rfl
theorem chg_plain(l:List Chg):∀r∈l.map chgA,∀x∈r,∃v,x= .v v:=by
 intro r hr x hx
 obtain⟨c,_,rfl⟩:=List.mem_map.1 hr
 simp[chgA]at hx
 rcases hx with h|h|h|h|h|h|h<;>exact⟨_,h⟩
theorem chg_seven(l:List Chg):∀r∈l.map chgA,r.length=7:=by
 intro r hr
 obtain⟨c,_,rfl⟩:=List.mem_map.1 hr
 rfl
theorem back_newB{bx:List (List AV)}(bc:List (List AV))(h:∀r∈bc,∀x∈r,∃v,x= .v v):Back bx [] bc (bx++bc):=by
 refine⟨by simp,fun i row _ h=>?_,fun k i row h=>by simp at h,fun k row hk=>?_⟩
 ·rw[List.getElem?_append_left (List.getElem?_eq_some_iff.1 h).1];exact h
 rw[List.getElem?_append_right (by omega),show bx.length+k - bx.length=k by omega]
 simp only[List.length_nil,Nat.zero_add]at hk
 rw[hk,renL_map]
 congr 1
 conv=>lhs;rw[←List.map_id row]
 apply List.map_congr_left
 intro x hx
 obtain⟨v,rfl⟩:=h row (List.mem_of_getElem? hk) x hx
 rfl
theorem entS_asc{d:Dvc}(hd:Asc d.nodes){i:Nat}{n0:Nod}(hn:d.nodes[i]?=some n0)(name:Str)(ino:Int):entS d.nodes i n0 name ino=entD d.nodes n0.ino name ino:=by
 unfold entS entD
 rw[←set_updI hd hn]
 rfl
section
set_option maxRecDepth 10000
set_option maxHeartbeats 2000000
theorem RoneB(d:Fil)(name:Str)(o n:Fil):ACall Tryz.prog 79 [.agg (filA d), .v (.string name), .agg (filA o), .agg (filA n)] [] (fun r b t=>t=[]∧r= .bs 3 0 7 1 1∧b=[filA d,filA o,filA n,chgA (d,name,o,n)]):=by
 refine enter Tryz.func79 rfl rfl rfl rfl rfl 4 rfl ?_
 refine w_ (b_ (h:=b_ (h:=b_ (h:=a_ (h:=e_ (w_ (l_ (h:=m_ (h:=l_ (h:=l_ (h:=bd_ (h:=?_))))))))))))
 refine al_p rfl (st_slit1B (k:=3) rfl rfl rfl rfl (by repeat constructor) ?_)
 refine a_ (h:=e_ (aw_ret (?_)))
 refine rt_ (r:= .bs 3 0 7 1 1) none (h5:=(LeA.refl _)) (h6:=⟨rfl,rfl,rfl⟩)
end
end Go.Proofs.YtbglbmnhgbgelaaGreatDoor
