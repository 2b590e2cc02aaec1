/-
  Part 12 of the proof of WatchPlacesP: what the statement's proof uses of the texts in wip/tpl.
-/
import Derived.Test.YtbglbmnhgbgelaaGreatDoorShelf
import Derived.Laws.RangeAny
import Derived.Deep.LoopGhost
import Derived.Lib.OthersKept
import Derived.Lib.IndexLaws
import Derived.Shelf.Abstract
import Derived.Shelf.RegionOpen
import Derived.OwnWalkIn
import Derived.TacticsInMore
import Derived.LoopNIn
import Derived.LoopIn
import Derived.Test.YtbglbmnhgbgelaaGreatDoorQa11
namespace Go.Proofs.YtbglbmnhgbgelaaGreatDoor
open Go.RowKit
def zTab:List AV:=[.v (.int .i64 0), .v (.int .i64 0), .v (.slice none 0 0)]
def tabX(t:Tab)(x:AV):List AV:=[.v (.int .i64 t.next), .v (.int .i64 t.nextS),x]
def updP(f:Prc→Prc)(l:List Prc)(j:Nat):List Prc:=(l.take j).map f++l.drop j
def putF(p x:Prc):Prc:=if x.pid=p.pid then p else x
theorem updP_len(f:Prc→Prc)(l:List Prc)(j:Nat):(updP f l j).length=l.length:=by
 unfold updP
 simp
 omega
theorem updP_get{f:Prc→Prc}{l:List Prc}{j:Nat}{x:Prc}(h:l[j]?=some x):(updP f l j)[j]?=some x:=by
 have hl:=(List.getElem?_eq_some_iff.1 h).1
 unfold updP
 rw[List.getElem?_append_right (by simp;omega)]
 simp only[List.length_map,List.length_take,List.getElem?_drop]
 rw[show j+(j - min j l.length)=j by omega]
 exact h
theorem updP_set{f:Prc→Prc}{l:List Prc}{j:Nat}{x:Prc}(h:l[j]?=some x):(updP f l j).set j (f x)=updP f l (j+1):=by
 obtain⟨hl,e⟩:=List.getElem?_eq_some_iff.1 h
 unfold updP
 rw[List.take_add_one,h,List.drop_eq_getElem_cons hl,List.set_append_right _ _ (by simp;omega)]
 simp only[List.length_map,List.length_take,List.map_append,List.append_assoc]
 rw[show j - min j l.length=0 by omega]
 rfl
theorem updP_same{f:Prc→Prc}{l:List Prc}{j:Nat}{x:Prc}(h:l[j]?=some x)(hf:f x=x):updP f l j=updP f l (j+1):=by
 rw[←updP_set h,hf]
 have h2:=updP_get (f:=f) h
 obtain⟨h3,h4⟩:=List.getElem?_eq_some_iff.1 h2
 rw[←h4,List.set_getElem_self]
theorem updP_end(f:Prc→Prc)(l:List Prc):updP f l l.length=l.map f:=by
 unfold updP
 simp
theorem getT_mem{t:Tab}{pid:Int}{p:Prc}(h:getT t pid=some p):p∈t.ps:=List.mem_of_find?_eq_some h
theorem gotT_opens{t:Tab}(ht:TabB t)(pid:Int):(gotT t pid).opens.length≤8:=by
 unfold gotT
 cases h:getT t pid with
 |none=>exact Nat.zero_le _
 |some p=>exact ht.opens p (getT_mem h)
theorem hasT_pos{t:Tab}{pid:Int}(h:hasT t pid=true):0<t.ps.length:=by
 unfold hasT at h
 obtain⟨p,hp⟩:=Option.isSome_iff_exists.1 h
 exact List.length_pos_of_mem (getT_mem hp)
theorem back_cpT{bx:List (List AV)}{n:Nat}(hn:bx.length=n)(t:Tab)(cap:Nat):Back bx [] [tabA t,tabX t (.bs 3 0 14 t.ps.length cap),tabX t (.bs 3 0 14 t.ps.length cap),LB 14 prcA t.ps cap] (bx++[tabA t,tabX t (.bs (n+3) 0 14 t.ps.length cap),tabX t (.bs (n+3) 0 14 t.ps.length cap),LB 14 prcA t.ps cap]):=by
 subst hn
 have:=back_F (bx:=bx) (is:=[]) (bc:=[tabA t,tabX t (.bs 3 0 14 t.ps.length cap),tabX t (.bs 3 0 14 t.ps.length cap),LB 14 prcA t.ps cap]) List.nodup_nil (by simp) (by simp)
 have e1:renL (backS [] bx.length) (tabA t)=tabA t:=rfl
 have e2:renL (backS [] bx.length) (tabX t (.bs 3 0 14 t.ps.length cap))=tabX t (.bs (bx.length+3) 0 14 t.ps.length cap):=by simp[renL,tabX,ren,backS]
 simpa[backF,ren_LB prcF,e1,e2]using this
section
set_option maxRecDepth 10000
set_option maxHeartbeats 2000000
theorem RcpP(p:Prc)(hp:p.opens.length≤1000):AFn Tryz.prog 107 [.agg (prcA p)] (fun r=>r= .agg (prcA p)):=by
 refine enter Tryz.func107 rfl rfl rfl rfl rfl 0 rfl ?_
 refine w_ (b_ (h:=al_ (h:=e_ (w_ (f_ (h:=l_ (h:=?_)))))))
 first|refine al_p rfl (s_append rfl rfl rfl (by simp;omega) (by repeat constructor) ?_)|refine al_p rfl (s_append0 rfl rfl (by simp;omega) (by repeat constructor) ?_)
 refine f_ (h:=s_ (h:=e_ (w_ (l_ (h:=s_ (h:=e_ (aw_ret (?_))))))))
 refine e_ret ?_
 rfl
theorem RcpT(t:Tab)(ht:TabB t):AFn Tryz.prog 108 [.agg (tabA t)] (fun r=>r= .agg (tabA t)):=by
 have hfew:=ht.few
 refine enter Tryz.func108 rfl rfl rfl rfl rfl 0 rfl ?_
 refine w_ (b_ (h:=al_ (h:=e_ (w_ (f_ (h:=l_ (h:=f_ (h:=l_ (h:=bd_ (h:=al_ (h:=s_ (h:=e_ (q_ (w_ (a_ (h:=e_ (aw_block (?_))))))))))))))))))
 refine aw_nilTokB 2 2 61 14 rfl rfl (by repeat constructor) (by repeat constructor) (by repeat constructor) ?_
 refine aw_loopW (fun m s=>∃j:Nat,j≤t.ps.length∧m=t.ps.length - j∧s=⟨look [(1, .bp 0 0),(2, .bp 1 0),(3, .bp 2 0),(4, .v (.int .i64 (j:Int)))],⟨[tabA t,zTab,tabX t (.sl 14 ((t.ps.take j).map prcA) (some 0))],[(61,14,(t.ps.take j).map prcA)]⟩⟩) (t.ps.length) ((wk 3 1)) (⟨0,Nat.zero_le _,rfl,rfl⟩) ?_
 rintro m s ⟨j,hj,rfl,rfl⟩
 refine q_ (w_ (m_ (h:=f_ (h:=l_ (h:=n_ (h:=lt_ (h:=e_ (?_))))))))
 refine aw_cond rfl (fun hb1=>?_) (fun hb1=>?_)
 ·have hc1:=bp hb1
  obtain⟨hlt,p,hy,hrow,e⟩:=row_at prcA hc1
  have hop:p.opens.length≤1000:=by have:=ht.opens p (List.mem_of_getElem? hy);omega
  refine kt_ (q_ (aw_block (yk_ ([(0,tabA t),(1,zTab),(2,tabX t (.sl 14 ((t.ps.take j).map prcA) (some 0)))]) 11 (h:=df_ 0 (h:=dl_ 1 (h:=df_ 2 (h:=dl_ 3 (h:=dm_ 4 (h:=di_ 5 (h:=dl_ 6 (h:=?_)))))))))))
  refine c_ 7 rfl (q_call (RcpP p hop) ?_)
  rintro r rfl
  refine o_ (h:=dbs_ 8 (h:=?_))
  first|refine c_ 9 rfl (s_append rfl rfl rfl (by simp;omega) (by repeat constructor) ?_)|refine c_ 9 rfl (s_append0 rfl rfl (by simp;omega) (by repeat constructor) ?_)
  refine o_ (h:=df_ 10 (h:=?_))
  refine c0_ 11 rfl (s_store rfl rfl rfl rfl rfl rfl (by repeat constructor) (by repeat constructor) ?_)
  refine o_ (h:=z_ (h:=x_blockN (t_ (aw_region (m_ (h:=ad_ (h:=a_ (h:=al_nil (?_)))))))))
  refine x_then ?_
  refine⟨_,_,?_,⟨j+1,by omega,rfl,rfl⟩,(by rw[e];exact weak_of 3 1 rfl rfl rfl rfl ((by repeat (first|exact Sub.nil|refine Sub.cons _ _ _ rfl rfl ?_|refine Sub.any _ _ ?_|refine Sub.sl _ _ _ _ _ rfl ?_|refine Sub.slnil _ _ _ rfl ?_))))⟩
  omega
 have hc1:=bp hb1
 have e:=row_no prcA hj hc1
 subst e
 rw[List.take_length]
 refine aw_exit (x_thenE (x_thenE (ABlock_out (t_ (w_ (l_ (h:=s_ (h:=e_ (aw_ret (?_))))))))))
 refine e_ret ?_
 rfl
theorem RcpB(t:Tab)(ht:TabB t)(h0:0<t.ps.length):ACall Tryz.prog 108 [.agg (tabA t)] [] (fun r b tk=>tk=[]∧∃cap,t.ps.length≤cap∧r= .agg (tabX t (.bs 3 0 14 t.ps.length cap))∧b=[tabA t,tabX t (.bs 3 0 14 t.ps.length cap),tabX t (.bs 3 0 14 t.ps.length cap),LB 14 prcA t.ps cap]):=by
 have hfew:=ht.few
 refine enter Tryz.func108 rfl rfl rfl rfl rfl 4 rfl ?_
 refine w_ (b_ (h:=al_ (h:=e_ (w_ (f_ (h:=l_ (h:=f_ (h:=l_ (h:=bd_ (h:=al_ (h:=s_ (h:=e_ (q_ (w_ (a_ (h:=e_ (aw_block (?_))))))))))))))))))
 refine aw_loopW (fun m s=>∃(j:Nat) (acc:List Prc),j≤t.ps.length∧m=t.ps.length - j∧t.ps.take j=acc∧((acc=[]∧s=⟨look [(1, .bp 0 0),(2, .bp 1 0),(3, .bp 2 0),(4, .v (.int .i64 (j:Int)))],⟨[tabA t,zTab,tabX t (.v (.slice none 0 0))],[]⟩⟩)∨(∃cap,acc.length≤cap∧s=⟨look [(1, .bp 0 0),(2, .bp 1 0),(3, .bp 2 0),(4, .v (.int .i64 (j:Int)))],⟨[tabA t,zTab,tabX t (.bs 3 0 14 acc.length cap),LB 14 prcA acc cap],[]⟩⟩))) (t.ps.length) ((wk 3 0)) (⟨0,[],Nat.zero_le _,rfl,rfl, .inl ⟨rfl,rfl⟩⟩) ?_
 rintro m s ⟨j,acc,hj,rfl,hacc,⟨rfl,rfl⟩|⟨cap,hcp,rfl⟩⟩
 ·skip
  refine q_ (w_ (m_ (h:=f_ (h:=l_ (h:=n_ (h:=lt_ (h:=e_ (?_))))))))
  refine aw_cond rfl (fun hb1=>?_) (fun hb1=>?_)
  ·have hc1:=bp hb1
   obtain⟨hlt,p,hy,hrow, -⟩:=row_at prcA hc1
   have hk:t.ps.take (j+1)=t.ps.take j++[p]:=by rw[List.take_add_one,hy];rfl
   have hop:p.opens.length≤1000:=by have:=ht.opens p (List.mem_of_getElem? hy);omega
   refine kt_ (q_ (aw_block (yk_ ([(0,tabA t),(1,zTab),(2,tabX t (.v (.slice none 0 0)))]) 11 (h:=df_ 0 (h:=dl_ 1 (h:=df_ 2 (h:=dl_ 3 (h:=dm_ 4 (h:=di_ 5 (h:=dl_ 6 (h:=?_)))))))))))
   refine c_ 7 rfl (q_call (RcpP p hop) ?_)
   rintro r rfl
   refine o_ (h:=dbs_ 8 (h:=?_))
   refine c_ 9 rfl (st_append0B rfl rfl src1 (by omega) (by omega) ?_)
   rintro cap2 k bx2 hcp hs
   rw[show cellsA (.agg (prcA p))++List.replicate ((cap2 - 1) * 14) AV.any=LB 14 prcA [p] cap2 from LB_first prcF p cap2]at hs
   obtain⟨rfl,rfl⟩:k=3∧bx2=[_,_,_,_]:=hs.eq
   refine o_ (h:=?_)
   refine df_ 10 (h:=?_)
   refine c0_ 11 rfl (s_store rfl rfl rfl rfl rfl rfl (by repeat constructor) (by repeat constructor) ?_)
   refine o_ (h:=z_ (h:=x_blockN (t_ (aw_region (m_ (h:=ad_ (h:=a_ (h:=al_nil (?_)))))))))
   refine x_then ?_
   exact⟨t.ps.length - (j+1),_,by omega,⟨j+1,[p],by omega,rfl,(by rw[hk,hacc];rfl), .inr ⟨cap2,hcp,rfl⟩⟩,wb_ 4 0 (by simp[bpLtB,bpLtL,bpLt,bp_LB prcF,tabA,tabX,zTab])⟩
  have hc1:=bp hb1
  exfalso
  have e:=row_no prcA hj hc1
  rw[e,List.take_length]at hacc
  rw[hacc]at h0
  exact absurd h0 (by simp)
 skip
 refine q_ (w_ (m_ (h:=f_ (h:=l_ (h:=n_ (h:=lt_ (h:=e_ (?_))))))))
 refine aw_cond rfl (fun hb2=>?_) (fun hb2=>?_)
 ·have hc2:=bp hb2
  obtain⟨hlt,p,hy,hrow, -⟩:=row_at prcA hc2
  have hk:t.ps.take (j+1)=t.ps.take j++[p]:=by rw[List.take_add_one,hy];rfl
  have hop:p.opens.length≤1000:=by have:=ht.opens p (List.mem_of_getElem? hy);omega
  refine kt_ (q_ (aw_block (yk_ ([(0,tabA t),(1,zTab),(2,tabX t (.bs 3 0 14 acc.length cap))]) 11 (h:=df_ 0 (h:=dl_ 1 (h:=df_ 2 (h:=dl_ 3 (h:=dm_ 4 (h:=di_ 5 (h:=dl_ 6 (h:=?_)))))))))))
  refine c_ 7 rfl (q_call (RcpP p hop) ?_)
  rintro r rfl
  refine o_ (h:=dbs_ 8 (h:=?_))
  refine c_ 9 rfl (st_appendB rfl rfl rfl (by rw[LB_len prcF hcp];omega) src1 (by omega) (by have:=congrArg List.length hacc;simp at this;omega) ?_ ?_)
  ·rintro hg row2 bx2 hs hb
   obtain rfl:=LB_push prcF hs hg
   obtain rfl:bx2=[_,_,_,_]:=hb.one.2
   refine o_ (h:=?_)
   refine df_ 10 (h:=?_)
   refine c0_ 11 rfl (s_store rfl rfl rfl rfl rfl rfl (by repeat constructor) (by repeat constructor) ?_)
   refine o_ (h:=z_ (h:=x_blockN (t_ (aw_region (m_ (h:=ad_ (h:=a_ (h:=al_nil (?_)))))))))
   refine x_then ?_
   first|exact⟨t.ps.length - (j+1),_,by omega,⟨j+1,acc++[p],by omega,rfl,(by rw[hk,hacc]), .inr ⟨cap,by simpa using hg,by rw[List.length_append];rfl⟩⟩,wb_ 4 0 (by simp[bpLtB,bpLtL,bpLt,bp_LB prcF,tabA,tabX,zTab])⟩|exact⟨t.ps.length - (j+1),_,by omega,⟨j+1,acc++[p],by omega,rfl,(by rw[hk,hacc]), .inr ⟨cap3,by simpa using hcp3,by rw[List.length_append];rfl⟩⟩,weak_ren [0,1,2,4] (fun i hi=>absurd hi (Nat.not_lt_zero i)) (by decide) (.cons _ _ _ _ _ rfl rfl (.cons _ _ _ _ _ rfl rfl (.cons _ _ _ _ _ rfl rfl (.cons _ _ _ _ _ rfl (renK_LB prcF _ _ _) .nil)))) (by repeat (first|exact SubK.nil|refine SubK.cons _ _ _ _ rfl (LeA.refl _) ?_))⟩
  rintro hg cap3 k bx2 hcp3 hs
  rw[show((LB 14 prcA acc cap).drop 0).take (acc.length * 14)++cellsA (.agg (prcA p))++List.replicate ((cap3 - (acc.length+1)) * 14) AV.any=LB 14 prcA (acc++[p]) cap3 from LB_new prcF acc p cap cap3]at hs
  obtain⟨rfl,rfl⟩:k=4∧bx2=[_,_,_,_,_]:=hs.eq
  refine o_ (h:=?_)
  refine df_ 10 (h:=?_)
  refine c0_ 11 rfl (s_store rfl rfl rfl rfl rfl rfl (by repeat constructor) (by repeat constructor) ?_)
  refine o_ (h:=z_ (h:=x_blockN (t_ (aw_region (m_ (h:=ad_ (h:=a_ (h:=al_nil (?_)))))))))
  refine x_then ?_
  first|exact⟨t.ps.length - (j+1),_,by omega,⟨j+1,acc++[p],by omega,rfl,(by rw[hk,hacc]), .inr ⟨cap,by simpa using hg,by rw[List.length_append];rfl⟩⟩,wb_ 4 0 (by simp[bpLtB,bpLtL,bpLt,bp_LB prcF,tabA,tabX,zTab])⟩|exact⟨t.ps.length - (j+1),_,by omega,⟨j+1,acc++[p],by omega,rfl,(by rw[hk,hacc]), .inr ⟨cap3,by simpa using hcp3,by rw[List.length_append];rfl⟩⟩,weak_ren [0,1,2,4] (fun i hi=>absurd hi (Nat.not_lt_zero i)) (by decide) (.cons _ _ _ _ _ rfl rfl (.cons _ _ _ _ _ rfl rfl (.cons _ _ _ _ _ rfl rfl (.cons _ _ _ _ _ rfl (renK_LB prcF _ _ _) .nil)))) (by repeat (first|exact SubK.nil|refine SubK.cons _ _ _ _ rfl (LeA.refl _) ?_))⟩
 have hc2:=bp hb2
 have e:=row_no prcA hj hc2
 refine aw_exit (x_thenE (x_thenE (ABlock_out (t_ (w_ (l_ (h:=s_ (h:=e_ (aw_ret (?_))))))))))
 rw[e,List.take_length]at hacc
 subst hacc
 refine rt_ (r:= .agg (tabX t (.bs 3 0 14 t.ps.length cap))) none (h4:=(by simp[bpLtB,bpLtL,bpLt,bp_LB prcF,tabA,tabX])) (h5:=(LeA.refl _)) (h6:=⟨rfl,cap,hcp,rfl,rfl⟩)
theorem RgetT(t:Tab)(pid:Int)(ht:TabB t):AFn Tryz.prog 63 [.agg (tabA t), .v (.int .i64 pid)] (fun r=>r= .tup [.agg (prcA (gotT t pid)), .v (.bool (hasT t pid))]):=by
 have hfew:=ht.few
 refine enter Tryz.func63 rfl rfl rfl rfl rfl 0 rfl ?_
 refine w_ (b_ (h:=al_ (h:=a_ (h:=e_ (q_ (w_ (a_ (h:=e_ (aw_block (?_))))))))))
 refine aw_loopW (fun m s=>∃j:Nat,j≤t.ps.length∧m=t.ps.length - j∧(∀i y,i<j→t.ps[i]?=some y→decide (y.pid=pid)=false)∧s=⟨look [(1, .v (.int .i64 pid)),(2, .bp 0 0),(4, .bp 1 0),(6, .v (.int .i64 (j:Int)))],⟨[tabA t,[.v (.int .i64 0), .v (.int .i64 0), .v (.int .i64 0), .v (.int .i64 0), .v (.int .i64 0), .v (.int .i64 0), .v (.int .i64 0), .v (.int .i64 0), .v (.int .i64 0), .v (.int .i64 0), .v (.string ⟨#[]⟩), .v (.string ⟨#[]⟩), .v (.slice none 0 0), .v (.bool false)]],[]⟩⟩) (t.ps.length) ((wk 2 0)) (⟨0,Nat.zero_le _,rfl,fun i y hi=>by omega,rfl⟩) ?_
 rintro m s ⟨j,hj,rfl,ha,rfl⟩
 refine q_ (w_ (m_ (h:=f_ (h:=l_ (h:=n_ (h:=lt_ (h:=e_ (?_))))))))
 refine aw_cond rfl (fun hb1=>?_) (fun hb1=>?_)
 ·have hc1:=bp hb1
  obtain⟨hlt,p,hy,hrow, -⟩:=row_at prcA hc1
  have hop:p.opens.length≤1000:=by have:=ht.opens p (List.mem_of_getElem? hy);omega
  refine kt_ (q_ (aw_block (w_ (f_ (h:=l_ (h:=m_ (h:=i_ (h:=f_ (h:=l_ (h:=m_ (h:=eq_ (h:=e_ (?_)))))))))))))
  refine aw_cond rfl (fun hb2=>?_) (fun hb2=>?_)
  ·have hc2:=bp hb2
   have hg:getT t pid=some p:=find_at hy (decide_eq_true hc2) ha
   refine w_ (f_ (h:=l_ (h:=m_ (h:=i_ (h:=l_ (h:=?_))))))
   refine al_p rfl (q_call (RcpP p hop) ?_)
   rintro r rfl
   refine s_ (h:=a_ (h:=e_ (aw_ret (x_blockR (x_thenR (x_thenR (x_blockR (x_thenR (?_)))))))))
   refine e_ret ?_
   rw[gotT,hasT,hg];rfl
  have hc2:=bp hb2
  refine aw_skip (x_blockN (t_ (aw_region (m_ (h:=ad_ (h:=a_ (h:=al_nil (?_))))))))
  refine x_then ?_
  refine⟨_,_,?_,⟨j+1,by omega,rfl,upto_snoc hy ha (decide_eq_false hc2),rfl⟩,(wk 2 0)⟩
  omega
 have hc1:=bp hb1
 have e:=row_no prcA hj hc1
 subst e
 have hg:getT t pid=none:=find_no ha
 refine aw_exit (x_thenE (x_thenE (ABlock_out (t_ (w_ (bd_ (h:=s_ (h:=a_ (h:=e_ (aw_ret (?_)))))))))))
 refine rt_ (r:= .tup [.agg (prcA (gotT t pid)), .v (.bool (hasT t pid))]) none (h5:=?_) (h6:=⟨rfl,rfl,rfl⟩)
 rw[gotT,hasT,hg]
 exact(by repeat (first|exact LeA.refl _|exact LeA.nil _|exact LeL.refl _|refine LeA.agg ?_|refine LeA.tup ?_|exact LeL.nil|refine LeL.cons ?_ ?_|exact LeA.any _))
theorem Rput(t:Tab)(p:Prc)(ht:TabB t)(h0:0<t.ps.length)(hp:p.opens.length≤1000):AFn Tryz.prog 188 [.agg (tabA t), .agg (prcA p)] (fun r=>r= .agg (tabA (putT t p))):=by
 have hfew:=ht.few
 refine enter Tryz.func188 rfl rfl rfl rfl rfl 0 rfl ?_
 refine w_ (b_ (h:=b_ (h:=al_ (h:=e_ (?_)))))
 refine aw_midI (fun s=>∃cap,t.ps.length≤cap∧s=⟨look [(3, .bp 1 0),(4, .bp 2 0),(5, .bp 3 0)],⟨[tabA t,prcA p,zTab,tabX t (.bs 4 0 14 (updP (putF p) t.ps 0).length cap),LB 14 prcA (updP (putF p) t.ps 0) cap],[]⟩⟩) ?_ ?_
 ·skip
  refine aw_region (l_ (h:=?_))
  refine al_p rfl (s_callM [] rfl (.cons _ _ _ _ _ rfl (LeA.refl _) .nil) (by decide) .nil (RcpB t ht h0) ?_)
  rintro r bc tc ⟨rfl,cap,hcap,rfl,rfl⟩
  refine⟨rfl,_,(back_cpT (n:=3) rfl t cap:Back _ [] _ [_,_,_,_,_,_,_]),?_⟩
  refine al_ (h:=s_ (h:=al_nil (?_)))
  refine x_then ?_
  exact⟨_,⟨cap,hcap,rfl⟩,weak_ren [0,1,2,7,6] (fun i hi=>absurd hi (Nat.not_lt_zero i)) (by decide) (.cons _ _ _ _ _ rfl rfl (.cons _ _ _ _ _ rfl rfl (.cons _ _ _ _ _ rfl rfl (.cons _ _ _ _ _ rfl (by rw[updP_len];rfl) (.cons _ _ _ _ _ rfl (renK_LB prcF _ _ _) .nil))))) (by repeat (first|exact SubK.nil|refine SubK.cons _ _ _ _ rfl (LeA.refl _) ?_))⟩
 rintro s ⟨cap,hcap,rfl⟩
 refine aw_midI (fun s=>s=⟨look [(4, .bp 2 0),(5, .bp 3 0)],⟨[tabA t,prcA p,zTab,tabA (putT t p)],[]⟩⟩) ?_ ?_
 ·skip
  refine w_ (a_ (h:=e_ (aw_block (?_))))
  refine aw_loopW (fun m s=>∃j:Nat,j≤t.ps.length∧m=t.ps.length - j∧s=⟨look [(3, .bp 1 0),(4, .bp 2 0),(5, .bp 3 0),(6, .v (.int .i64 (j:Int)))],⟨[tabA t,prcA p,zTab,tabX t (.bs 4 0 14 (updP (putF p) t.ps j).length cap),LB 14 prcA (updP (putF p) t.ps j) cap],[]⟩⟩) (t.ps.length) (wb_ 5 0 (by simp[bpLtB,bpLtL,bpLt,bp_LB prcF,tabA,tabX,zTab,prcA])) (⟨0,Nat.zero_le _,rfl,rfl⟩) ?_
  rintro m s ⟨j,hj,rfl,rfl⟩
  refine q_ (w_ (m_ (h:=f_ (h:=l_ (h:=?_)))))
  refine al_p rfl (st_lenB rfl ?_)
  refine lt_ (h:=e_ (?_))
  refine aw_cond rfl (fun hb1=>?_) (fun hb1=>?_)
  ·have hc1:=bp hb1
   have hlt:j<t.ps.length:=by rw[updP_len]at hc1;omega
   obtain⟨x,hy⟩:∃x,t.ps[j]?=some x:=⟨_,List.getElem?_eq_getElem hlt⟩
   have hl1:j<(updP (putF p) t.ps j).length:=by rw[updP_len];exact hlt
   refine kt_ (q_ (aw_block (q_ (yr_ 9 (h:=df_ 0 (h:=dl_ 1 (h:=dm_ 2 (h:=?_))))))))
   refine r_y (i:=3) rfl (st_indexS (m:=j) rfl rfl rfl hl1 ⟨rfl,rfl⟩) ?_
   refine df_ 4 (h:=?_)
   refine r_y (i:=5) rfl (st_loadB1 rfl rfl (LB_get prcF (updP_get hy) rfl) ⟨rfl,rfl⟩) ?_
   refine df_ 6 (h:=dl_ 7 (h:=deq_ 8 (h:=z_ (h:=t_ (?_)))))
   refine aw_cond rfl (fun hb2=>?_) (fun hb2=>?_)
   ·have hc2:=bp hb2
    have hu:(updP (putF p) t.ps j).set j p=updP (putF p) t.ps (j+1):=by rw[←updP_set hy,putF,if_pos hc2]
    refine aw_region (f_ (h:=l_ (h:=m_ (h:=l_ (h:=?_)))))
    refine al_p rfl (st_indexS (m:=j) rfl rfl rfl hl1 ?_)
    refine al_p0 (s_store rfl rfl rfl rfl rfl rfl (LB_put prcF (x':=p) (updP_get hy)) (by repeat constructor) ?_)
    refine al_nil (x_blockN (t_ (aw_region (m_ (h:=ad_ (h:=a_ (h:=al_nil (?_))))))))
    refine x_then ?_
    exact⟨t.ps.length - (j+1),_,by omega,⟨j+1,by omega,rfl,rfl⟩,(by first|(rw[hu,show(updP (putF p) t.ps j).length=(updP (putF p) t.ps (j+1)).length by rw[updP_len,updP_len]];exact wb_ 5 0 (by simp[bpLtB,bpLtL,bpLt,bp_LB prcF,tabA,tabX,zTab,prcA]))|(rw[hu];exact wb_ 5 0 (by simp[bpLtB,bpLtL,bpLt,bp_LB prcF,tabA,tabX,zTab,prcA])))⟩
   have hc2:=bp hb2
   have hu:updP (putF p) t.ps j=updP (putF p) t.ps (j+1):=updP_same hy (if_neg hc2)
   refine aw_skip (x_blockN (t_ (aw_region (m_ (h:=ad_ (h:=a_ (h:=al_nil (?_))))))))
   refine x_then ?_
   exact⟨t.ps.length - (j+1),_,by omega,⟨j+1,by omega,rfl,rfl⟩,(by first|(rw[hu,show(updP (putF p) t.ps j).length=(updP (putF p) t.ps (j+1)).length by rw[updP_len,updP_len]];exact wb_ 5 0 (by simp[bpLtB,bpLtL,bpLt,bp_LB prcF,tabA,tabX,zTab,prcA]))|(rw[hu];exact wb_ 5 0 (by simp[bpLtB,bpLtL,bpLt,bp_LB prcF,tabA,tabX,zTab,prcA])))⟩
  have hc1:=bp hb1
  obtain rfl:j=t.ps.length:=by rw[updP_len]at hc1;omega
  rw[updP_end]
  refine aw_exit (x_thenE (x_thenE (ABlock_out (?_))))
  refine x_then ?_
  exact⟨_,rfl,weak_fz 4 1 rfl (congrArg (fun x=>[tabA t,prcA p,zTab,[.v (.int .i64 t.next), .v (.int .i64 t.nextS),x]]) (low_bsv prcF rfl rfl (by rw[List.length_map];exact hcap))) (.cons _ _ _ _ rfl (LeA.refl _) (.cons _ _ _ _ rfl (LeA.refl _) .nil))⟩
 rintro s rfl
 refine w_ (l_ (h:=s_ (h:=e_ (aw_ret (?_)))))
 refine e_ret ?_
 rfl
end
def rowA(r:Str×Int×Int×Int×Int):List AV:=[.v (.string r.1), .v (.int .i64 r.2.1), .v (.int .i64 r.2.2.1), .v (.int .i64 r.2.2.2.1), .v (.int .i64 r.2.2.2.2)]
theorem bltN{a b:Nat}(h:a<b):Nat.blt a b=true:=by rw[Nat.blt_eq];exact h
theorem args_at{c:Cal}{j:Nat}(h:j<4):∃x,(argsC c)[j]?=some x∧(calA c)[1+j]?=some (.v (.int .i64 x)):=by
 match j,h with
 |0,_=>exact⟨_,rfl,rfl⟩
 |1,_=>exact⟨_,rfl,rfl⟩
 |2,_=>exact⟨_,rfl,rfl⟩
 |3,_=>exact⟨_,rfl,rfl⟩
theorem anyd_at{l:List Int}{n j:Nat}{x:Int}(hn:n≤j)(hy:l[j]?=some x)(hx:x≠0):((l.drop n).any fun x=>decide (x≠0))=true:=by
 rw[List.any_eq_true]
 refine⟨x,?_,by simpa using hx⟩
 refine List.mem_of_getElem? (i:=j - n) ?_
 rw[List.getElem?_drop,show n+(j - n)=j by omega]
 exact hy
theorem anyd_no{l:List Int}{n:Nat}(h:∀i x,n≤i→l[i]?=some x→x=0):((l.drop n).any fun x=>decide (x≠0))=false:=by
 rw[List.any_eq_false]
 intro x hx
 obtain⟨i,hi⟩:=List.mem_iff_getElem?.1 hx
 rw[List.getElem?_drop]at hi
 simp[h _ x (Nat.le_add_right n i) hi]
theorem rowK_num(n:Int):0≤(rowK n).2.1∧(rowK n).2.1≤2:=by
 unfold rowK
 split
 ·decide
 rename_i h
 obtain⟨m,rfl⟩:=Int.eq_ofNat_of_zero_le (show 0≤n by omega)
 have hm:m<22:=by omega
 have key:∀m,m<22→0≤((rowsK[m]?).getD (⟨#[]⟩,0,0,0,0)).2.1∧((rowsK[m]?).getD (⟨#[]⟩,0,0,0,0)).2.1≤2:=by decide
 exact key m hm
section
set_option maxRecDepth 10000
set_option maxHeartbeats 2000000
theorem Rmay(n:Nod)(euid egid want:Int):AFn Tryz.prog 187 [.agg (nodA n), .v (.int .i64 euid), .v (.int .i64 egid), .v (.int .i64 want)] (fun r=>r= .v (.bool (mayK n euid egid want))):=by
 refine enter Tryz.func187 rfl rfl rfl rfl rfl 0 rfl ?_
 refine w_ (b_ (h:=a_ (h:=e_ (q_ (w_ (m_ (h:=lt_ (h:=m_ (h:=?_)))))))))
 refine al_gs false rfl rfl (fun hb1=>?_) (fun hb1=>?_)
 ·have hc1:=bp hb1
  refine g0_ (h:=g0_ (h:=pt_ (h:=e_ (cy_ (h:=w_ (a_ (h:=e_ (aw_ret (x_thenR (?_))))))))))
  refine e_ret ?_
  first|(exfalso;first|contradiction|omega)|(exact vb (by first|(simp[mayK,bitsK,*];done)|(simp[mayK,bitsK,*];intro h;exact absurd ((by assumption:euid=n.uid).trans h) (by assumption))))
 have hc1:=bp hb1
 refine m_ (h:=gt_ (h:=pf_ (h:=e_ (?_))))
 refine aw_cond rfl (fun hb2=>?_) (fun hb2=>?_)
 ·have hc2:=bp hb2
  refine w_ (a_ (h:=e_ (aw_ret (x_thenR (?_)))))
  refine e_ret ?_
  first|(exfalso;first|contradiction|omega)|(exact vb (by first|(simp[mayK,bitsK,*];done)|(simp[mayK,bitsK,*];intro h;exact absurd ((by assumption:euid=n.uid).trans h) (by assumption))))
 have hc2:=bp hb2
 refine kt_ (q_ (w_ (m_ (h:=eq_ (h:=e_ (?_))))))
 refine aw_cond rfl (fun hb3=>?_) (fun hb3=>?_)
 ·have hc3:=bp hb3
  refine w_ (m_ (h:=an_ (h:=eq_ (h:=m_ (h:=?_)))))
  refine al_gs false rfl rfl (fun hb4=>?_) (fun hb4=>?_)
  ·have hc4:=bp hb4
   refine g0_ (h:=g0_ (h:=g0_ (h:=pt_ (h:=m_ (h:=g0_ (h:=g0_ (h:=g0_ (h:=g0_ (h:=pt_ (h:=a_ (h:=e_ (aw_ret (x_thenR (?_))))))))))))))
   refine e_ret ?_
   first|(exfalso;first|contradiction|omega)|(exact vb (by first|(simp[mayK,bitsK,*];done)|(simp[mayK,bitsK,*];intro h;exact absurd ((by assumption:euid=n.uid).trans h) (by assumption))))
  have hc4:=bp hb4
  refine f_ (h:=l_ (h:=eq_ (h:=pf_ (h:=m_ (h:=?_)))))
  refine al_gs false rfl rfl (fun hb5=>?_) (fun hb5=>?_)
  ·have hc5:=bp hb5
   refine g0_ (h:=g0_ (h:=g0_ (h:=g0_ (h:=pt_ (h:=a_ (h:=e_ (aw_ret (x_thenR (?_)))))))))
   refine e_ret ?_
   first|(exfalso;first|contradiction|omega)|(exact vb (by first|(simp[mayK,bitsK,*];done)|(simp[mayK,bitsK,*];intro h;exact absurd ((by assumption:euid=n.uid).trans h) (by assumption))))
  have hc5:=bp hb5
  refine f_ (h:=l_ (h:=an_ (h:=nq_ (h:=pf_ (h:=a_ (h:=e_ (aw_ret (x_thenR (?_)))))))))
  refine e_ret ?_
  first|(exfalso;first|contradiction|omega)|(exact vb (by first|(simp[mayK,bitsK,*];done)|(simp[mayK,bitsK,*];intro h;exact absurd ((by assumption:euid=n.uid).trans h) (by assumption))))
 have hc3:=bp hb3
 refine kt_ (w_ (f_ (h:=l_ (h:=an_ (h:=a_ (h:=e_ (q_ (w_ (m_ (h:=f_ (h:=l_ (h:=eq_ (h:=e_ (?_))))))))))))))
 refine aw_cond rfl (fun hb6=>?_) (fun hb6=>?_)
 ·have hc6:=bp hb6
  refine aw_region (f_ (h:=l_ (h:=sr_ (h:=an_ (h:=a_ (h:=e_ (w_ (m_ (h:=m_ (h:=an_ (h:=m_ (h:=eq_ (h:=a_ (h:=e_ (aw_ret (?_))))))))))))))))
  refine e_ret ?_
  first|(exfalso;first|contradiction|omega)|(exact vb (by first|(simp[mayK,bitsK,*];done)|(simp[mayK,bitsK,*];intro h;exact absurd ((by assumption:euid=n.uid).trans h) (by assumption))))
 have hc6:=bp hb6
 refine w_ (m_ (h:=f_ (h:=l_ (h:=eq_ (h:=e_ (?_))))))
 refine aw_cond rfl (fun hb7=>?_) (fun hb7=>?_)
 ·have hc7:=bp hb7
  refine aw_region (f_ (h:=l_ (h:=sr_ (h:=an_ (h:=a_ (h:=e_ (w_ (m_ (h:=m_ (h:=an_ (h:=m_ (h:=eq_ (h:=a_ (h:=e_ (aw_ret (?_))))))))))))))))
  refine e_ret ?_
  first|(exfalso;first|contradiction|omega)|(exact vb (by first|(simp[mayK,bitsK,*];done)|(simp[mayK,bitsK,*];intro h;exact absurd ((by assumption:euid=n.uid).trans h) (by assumption))))
 have hc7:=bp hb7
 refine kt_ (w_ (m_ (h:=m_ (h:=an_ (h:=m_ (h:=eq_ (h:=a_ (h:=e_ (aw_ret (?_))))))))))
 refine e_ret ?_
 first|(exfalso;first|contradiction|omega)|(exact vb (by first|(simp[mayK,bitsK,*];done)|(simp[mayK,bitsK,*];intro h;exact absurd ((by assumption:euid=n.uid).trans h) (by assumption))))
theorem Rmode(n:Int):AFn Tryz.prog 113 [.v (.int .i64 n)] (fun r=>r= .v (.bool (modeK n))):=by
 refine enter Tryz.func113 rfl rfl rfl rfl rfl 0 rfl ?_
 refine w_ (a_ (h:=e_ (w_ (m_ (h:=ge_ (h:=m_ (h:=?_)))))))
 refine al_gs true rfl rfl (fun hb1=>?_) (fun hb1=>?_)
 ·have hc1:=bp hb1
  refine m_ (h:=le_ (h:=pt_ (h:=a_ (h:=e_ (aw_ret (?_))))))
  refine e_ret ?_
  first|(exfalso;first|contradiction|omega)|(exact vb (by simp[modeK,*]))
 have hc1:=bp hb1
 refine g0_ (h:=g0_ (h:=pf_ (h:=a_ (h:=e_ (aw_ret (?_))))))
 refine e_ret ?_
 first|(exfalso;first|contradiction|omega)|(exact vb (by simp[modeK,*]))
theorem RtabK:AFn Tryz.prog 148 [] (fun r=>r= .sl 5 (rowsK.map rowA) none):=by
 refine enter Tryz.func148 rfl rfl rfl rfl rfl 0 rfl ?_
 refine w_ (a_ (h:=e_ (w_ (bd_ (h:=bd_ (h:=bd_ (h:=bd_ (h:=bd_ (h:=bd_ (h:=bd_ (h:=bd_ (h:=bd_ (h:=bd_ (h:=bd_ (h:=bd_ (h:=bd_ (h:=bd_ (h:=bd_ (h:=bd_ (h:=bd_ (h:=bd_ (h:=bd_ (h:=bd_ (h:=?_))))))))))))))))))))))))
 refine bd_ (h:=bd_ (h:=bs_ (h:=a_ (h:=e_ (aw_ret (?_))))))
 refine e_ret ?_
 rfl
theorem RcntK:AFn Tryz.prog 147 [] (fun r=>r= .v (.int .i64 22)):=by
 refine enter Tryz.func147 rfl rfl rfl rfl rfl 0 rfl ?_
 refine w_ (a_ (h:=e_ (w_ (?_))))
 refine al_p rfl (q_call (RtabK) ?_)
 rintro r rfl
 refine n_ (h:=a_ (h:=e_ (aw_ret (?_))))
 refine e_ret ?_
 rfl
theorem RrowK(n:Int):AFn Tryz.prog 109 [.v (.int .i64 n)] (fun r=>r= .agg (rowA (rowK n))):=by
 refine enter Tryz.func109 rfl rfl rfl rfl rfl 0 rfl ?_
 refine w_ (al_ (h:=e_ (q_ (w_ (m_ (h:=lt_ (h:=m_ (h:=?_))))))))
 refine al_gs false rfl rfl (fun hb1=>?_) (fun hb1=>?_)
 ·have hc1:=bp hb1
  refine g0_ (h:=g0_ (h:=g0_ (h:=pt_ (h:=e_ (cy_ (h:=w_ (bd_ (h:=s_ (h:=e_ (aw_ret (x_thenR (?_))))))))))))
  refine e_ret ?_
  rw[rowK,if_pos (by omega)];rfl
 have hc1:=bp hb1
 refine m_ (h:=?_)
 refine g_y (q_call (RcntK) ?_)
 rintro r rfl
 refine ge_ (h:=pf_ (h:=e_ (?_)))
 refine aw_cond rfl (fun hb2=>?_) (fun hb2=>?_)
 ·have hc2:=bp hb2
  refine w_ (bd_ (h:=s_ (h:=e_ (aw_ret (x_thenR (?_))))))
  refine e_ret ?_
  rw[rowK,if_pos (by omega)];rfl
 have hc2:=bp hb2
 refine kt_ (w_ (?_))
 refine al_p rfl (q_call (RtabK) ?_)
 rintro r rfl
 obtain⟨m,rfl⟩:=Int.eq_ofNat_of_zero_le (show 0≤n by omega)
 obtain⟨row,hrow⟩:∃row,rowsK[m]?=some row:=⟨rowsK[m]'(by show m<22;omega),List.getElem?_eq_getElem (by show m<22;omega)⟩
 have hrow2:(rowsK.map rowA)[m]?=some (rowA row):=by rw[List.getElem?_map,hrow];rfl
 refine m_ (h:=?_)
 refine al_p rfl (st_index (n:=m) rfl rfl rfl hrow2 ?_)
 refine l_ (h:=s_ (h:=e_ (aw_ret (?_))))
 refine e_ret ?_
 rw[rowK,if_neg (by omega),Int.toNat_natCast,hrow];rfl
theorem RchkK(c:Cal)(hp:c.paths.length≤1000)(ha:c.args.length≤1000):AFn Tryz.prog 65 [.agg (calA c)] (fun r=>r= .v (.int .i64 (chkC c))):=by
 obtain⟨n0,hn0⟩:=Int.eq_ofNat_of_zero_le (rowK_num c.num).1
 have hpl:(c.paths.map stK).length=c.paths.length:=List.length_map _
 have hal:(c.args.map stK).length=c.args.length:=List.length_map _
 have hn2:n0≤2:=by have:=(rowK_num c.num).2;omega
 refine enter Tryz.func65 rfl rfl rfl rfl rfl 0 rfl ?_
 refine w_ (b_ (h:=a_ (h:=e_ (w_ (f_ (h:=l_ (h:=?_)))))))
 refine al_p rfl (q_call (RrowK c.num) ?_)
 rintro r rfl
 refine al_ (h:=s_ (h:=e_ (q_ (w_ (f_ (h:=l_ (h:=eq_ (h:=e_ (?_)))))))))
 refine aw_cond rfl (fun hb1=>?_) (fun hb1=>?_)
 ·have hc1:=bp hb1
  refine w_ (a_ (h:=e_ (aw_ret (x_thenR (?_)))))
  refine e_ret ?_
  first|(exfalso;first|contradiction|omega)|(exact vi (by first|(rw[chkC,if_pos hc1];done)|(rw[chkC,if_neg hc1,if_pos hany];done)|(rw[chkC,if_neg hc1,if_neg (by rw[hany];simp),if_pos (by omega)];done)|(rw[chkC,if_neg hc1,if_neg (by rw[hany];simp),if_neg (by omega),if_pos hany2];done)|(rw[chkC,if_neg hc1,if_neg (by rw[hany];simp),if_neg (by omega),if_neg (by rw[hany2];simp),if_pos hany3];done)|(rw[chkC,if_neg hc1,if_neg (by rw[hany];simp),if_neg (by omega),if_neg (by rw[hany2];simp),if_neg (by rw[hany3];simp)];done)))
 have hc1:=bp hb1
 refine kt_ (q_ (w_ (f_ (h:=l_ (h:=a_ (h:=e_ (aw_block (?_))))))))
 refine aw_loopW (fun m s=>∃j:Nat,n0≤j∧j≤4∧m=4 - j∧(∀i x,n0≤i→i<j→(argsC c)[i]?=some x→x=0)∧s=⟨look [(1, .bp 0 0),(3, .bp 1 0),(4, .v (.int .i64 (j:Int)))],⟨[calA c,rowA (rowK c.num)],[]⟩⟩) (4 - n0) (by rw[←hn0];exact(wk 2 0)) (⟨n0,Nat.le_refl _,by omega,rfl,fun i x h1 h2=>by omega,rfl⟩) ?_
 rintro m s ⟨j,hlo,hj,rfl,hz,rfl⟩
 refine q_ (w_ (m_ (h:=lt_ (h:=e_ (?_)))))
 refine aw_cond rfl (fun hb2=>?_) (fun hb2=>?_)
 ·have hc2:=bp hb2
  obtain⟨x,hy,hrx⟩:=args_at (c:=c) (j:=j) (by omega)
  refine kt_ (q_ (aw_block (w_ (m_ (h:=f_ (h:=?_))))))
  refine al_p rfl (st_indexB (len:=4) (sz:=1) (n:=j) (by kernel_rfl) rfl rfl rfl (bltN (by omega)) ?_)
  refine al_p rfl (st_loadB1 rfl rfl (by rw[show 1+j * 1=1+j by omega];exact hrx) ?_)
  refine nq_ (h:=e_ (?_))
  refine aw_cond rfl (fun hb3=>?_) (fun hb3=>?_)
  ·have hc3:=bp hb3
   have hany:(((argsC c).drop (rowK c.num).2.1.toNat).any fun x=>decide (x≠0))=true:=by rw[hn0,Int.toNat_natCast];exact anyd_at hlo hy hc3
   refine w_ (a_ (h:=e_ (aw_ret (x_blockR (x_thenR (x_thenR (x_blockR (x_thenR (?_)))))))))
   refine e_ret ?_
   first|(exfalso;first|contradiction|omega)|(exact vi (by first|(rw[chkC,if_pos hc1];done)|(rw[chkC,if_neg hc1,if_pos hany];done)|(rw[chkC,if_neg hc1,if_neg (by rw[hany];simp),if_pos (by omega)];done)|(rw[chkC,if_neg hc1,if_neg (by rw[hany];simp),if_neg (by omega),if_pos hany2];done)|(rw[chkC,if_neg hc1,if_neg (by rw[hany];simp),if_neg (by omega),if_neg (by rw[hany2];simp),if_pos hany3];done)|(rw[chkC,if_neg hc1,if_neg (by rw[hany];simp),if_neg (by omega),if_neg (by rw[hany2];simp),if_neg (by rw[hany3];simp)];done)))
  have hc3:=bp hb3
  have hx0:x=0:=by simpa using hc3
  refine aw_skip (x_blockN (t_ (aw_region (m_ (h:=ad_ (h:=a_ (h:=al_nil (?_))))))))
  refine x_then ?_
  refine⟨_,_,?_,⟨j+1,by omega,by omega,rfl,(fun i x h1 h2 h3=>by
   by_cases e:i=j
   ·subst e;rw[hy]at h3;injection h3 with h3;rw[←h3];exact hx0
   exact hz i x h1 (by omega) h3),rfl⟩,(wk 2 0)⟩
  omega
 have hc2:=bp hb2
 have hany:(((argsC c).drop (rowK c.num).2.1.toNat).any fun x=>decide (x≠0))=false:=by
  rw[hn0,Int.toNat_natCast]
  refine anyd_no fun i x h1 h2=>hz i x h1 ?_ h2
  have:=(List.getElem?_eq_some_iff.1 h2).1
  have h4:(argsC c).length=4:=rfl
  omega
 refine aw_exit (x_thenE (x_thenE (ABlock_out (t_ (q_ (w_ (f_ (h:=l_ (h:=n_ (h:=f_ (h:=l_ (h:=nq_ (h:=m_ (h:=?_))))))))))))))
 refine al_gs false rfl rfl (fun hb4=>?_) (fun hb4=>?_)
 ·have hc4:=bp hb4
  refine g0_ (h:=g0_ (h:=g0_ (h:=g0_ (h:=g0_ (h:=g0_ (h:=pt_ (h:=m_ (h:=g0_ (h:=g0_ (h:=g0_ (h:=g0_ (h:=g0_ (h:=g0_ (h:=pt_ (h:=e_ (cy_ (h:=w_ (a_ (h:=e_ (aw_ret (x_thenR (?_))))))))))))))))))))))
  refine e_ret ?_
  first|(exfalso;first|contradiction|omega)|(exact vi (by first|(rw[chkC,if_pos hc1];done)|(rw[chkC,if_neg hc1,if_pos hany];done)|(rw[chkC,if_neg hc1,if_neg (by rw[hany];simp),if_pos (by omega)];done)|(rw[chkC,if_neg hc1,if_neg (by rw[hany];simp),if_neg (by omega),if_pos hany2];done)|(rw[chkC,if_neg hc1,if_neg (by rw[hany];simp),if_neg (by omega),if_neg (by rw[hany2];simp),if_pos hany3];done)|(rw[chkC,if_neg hc1,if_neg (by rw[hany];simp),if_neg (by omega),if_neg (by rw[hany2];simp),if_neg (by rw[hany3];simp)];done)))
 have hc4:=bp hb4
 refine f_ (h:=l_ (h:=n_ (h:=f_ (h:=l_ (h:=lt_ (h:=pf_ (h:=m_ (h:=?_))))))))
 refine al_gs false rfl rfl (fun hb5=>?_) (fun hb5=>?_)
 ·have hc5:=bp hb5
  refine g0_ (h:=g0_ (h:=g0_ (h:=g0_ (h:=g0_ (h:=g0_ (h:=pt_ (h:=e_ (cy_ (h:=w_ (a_ (h:=e_ (aw_ret (x_thenR (?_))))))))))))))
  refine e_ret ?_
  first|(exfalso;first|contradiction|omega)|(exact vi (by first|(rw[chkC,if_pos hc1];done)|(rw[chkC,if_neg hc1,if_pos hany];done)|(rw[chkC,if_neg hc1,if_neg (by rw[hany];simp),if_pos (by omega)];done)|(rw[chkC,if_neg hc1,if_neg (by rw[hany];simp),if_neg (by omega),if_pos hany2];done)|(rw[chkC,if_neg hc1,if_neg (by rw[hany];simp),if_neg (by omega),if_neg (by rw[hany2];simp),if_pos hany3];done)|(rw[chkC,if_neg hc1,if_neg (by rw[hany];simp),if_neg (by omega),if_neg (by rw[hany2];simp),if_neg (by rw[hany3];simp)];done)))
 have hc5:=bp hb5
 refine f_ (h:=l_ (h:=n_ (h:=f_ (h:=l_ (h:=gt_ (h:=pf_ (h:=e_ (?_))))))))
 refine aw_cond rfl (fun hb6=>?_) (fun hb6=>?_)
 ·have hc6:=bp hb6
  refine w_ (a_ (h:=e_ (aw_ret (x_thenR (?_)))))
  refine e_ret ?_
  first|(exfalso;first|contradiction|omega)|(exact vi (by first|(rw[chkC,if_pos hc1];done)|(rw[chkC,if_neg hc1,if_pos hany];done)|(rw[chkC,if_neg hc1,if_neg (by rw[hany];simp),if_pos (by omega)];done)|(rw[chkC,if_neg hc1,if_neg (by rw[hany];simp),if_neg (by omega),if_pos hany2];done)|(rw[chkC,if_neg hc1,if_neg (by rw[hany];simp),if_neg (by omega),if_neg (by rw[hany2];simp),if_pos hany3];done)|(rw[chkC,if_neg hc1,if_neg (by rw[hany];simp),if_neg (by omega),if_neg (by rw[hany2];simp),if_neg (by rw[hany3];simp)];done)))
 have hc6:=bp hb6
 refine kt_ (q_ (w_ (a_ (h:=e_ (aw_block (?_))))))
 refine aw_loopW (fun m s=>∃j:Nat,j≤c.paths.length∧m=c.paths.length - j∧(∀i y,i<j→c.paths[i]?=some y→decide (128<y.size)=false)∧s=⟨look [(1, .bp 0 0),(3, .bp 1 0),(5, .v (.int .i64 (j:Int)))],⟨[calA c,rowA (rowK c.num)],[]⟩⟩) (c.paths.length) ((wk 2 0)) (⟨0,Nat.zero_le _,rfl,fun i y hi=>by omega,rfl⟩) ?_
 rintro m s ⟨j,hj,rfl,ha1,rfl⟩
 refine q_ (w_ (m_ (h:=f_ (h:=l_ (h:=n_ (h:=lt_ (h:=e_ (?_))))))))
 refine aw_cond rfl (fun hb7=>?_) (fun hb7=>?_)
 ·have hc7:=bp hb7
  obtain⟨hlt,y,hy,hrow, -⟩:=row_at stK hc7
  refine kt_ (q_ (aw_block (w_ (f_ (h:=l_ (h:=m_ (h:=i_ (h:=l_ (h:=n_ (h:=gt_ (h:=e_ (?_))))))))))))
  refine aw_cond rfl (fun hb8=>?_) (fun hb8=>?_)
  ·have hc8:=bp hb8
   have hany2:(c.paths.any fun p=>decide (128<p.size))=true:=any_at hy (by simp;omega)
   refine w_ (a_ (h:=e_ (aw_ret (x_blockR (x_thenR (x_thenR (x_blockR (x_thenR (?_)))))))))
   refine e_ret ?_
   first|(exfalso;first|contradiction|omega)|(exact vi (by first|(rw[chkC,if_pos hc1];done)|(rw[chkC,if_neg hc1,if_pos hany];done)|(rw[chkC,if_neg hc1,if_neg (by rw[hany];simp),if_pos (by omega)];done)|(rw[chkC,if_neg hc1,if_neg (by rw[hany];simp),if_neg (by omega),if_pos hany2];done)|(rw[chkC,if_neg hc1,if_neg (by rw[hany];simp),if_neg (by omega),if_neg (by rw[hany2];simp),if_pos hany3];done)|(rw[chkC,if_neg hc1,if_neg (by rw[hany];simp),if_neg (by omega),if_neg (by rw[hany2];simp),if_neg (by rw[hany3];simp)];done)))
  have hc8:=bp hb8
  refine aw_skip (x_blockN (t_ (aw_region (m_ (h:=ad_ (h:=a_ (h:=al_nil (?_))))))))
  refine x_then ?_
  refine⟨_,_,?_,⟨j+1,by omega,rfl,upto_snoc hy ha1 (by simp;omega),rfl⟩,(wk 2 0)⟩
  omega
 have hc7:=bp hb7
 have e:=row_no stK hj hc7
 have hany2:(c.paths.any fun p=>decide (128<p.size))=false:=any_no (by rw[←e];exact ha1)
 refine aw_exit (x_thenE (x_thenE (ABlock_out (t_ (q_ (w_ (a_ (h:=e_ (aw_block (?_))))))))))
 refine aw_loopW (fun m s=>∃j:Nat,j≤c.args.length∧m=c.args.length - j∧(∀i y,i<j→c.args[i]?=some y→decide (64<y.size)=false)∧s=⟨look [(1, .bp 0 0),(3, .bp 1 0),(6, .v (.int .i64 (j:Int)))],⟨[calA c,rowA (rowK c.num)],[]⟩⟩) (c.args.length) ((wk 2 0)) (⟨0,Nat.zero_le _,rfl,fun i y hi=>by omega,rfl⟩) ?_
 rintro m s ⟨j3,hj3,rfl,ha3,rfl⟩
 refine q_ (w_ (m_ (h:=f_ (h:=l_ (h:=n_ (h:=lt_ (h:=e_ (?_))))))))
 refine aw_cond rfl (fun hb9=>?_) (fun hb9=>?_)
 ·have hc9:=bp hb9
  obtain⟨hlt,y,hy,hrow, -⟩:=row_at stK hc9
  refine kt_ (q_ (aw_block (w_ (f_ (h:=l_ (h:=m_ (h:=i_ (h:=l_ (h:=n_ (h:=gt_ (h:=e_ (?_))))))))))))
  refine aw_cond rfl (fun hb10=>?_) (fun hb10=>?_)
  ·have hc10:=bp hb10
   have hany3:(c.args.any fun p=>decide (64<p.size))=true:=any_at hy (by simp;omega)
   refine w_ (a_ (h:=e_ (aw_ret (x_blockR (x_thenR (x_thenR (x_blockR (x_thenR (?_)))))))))
   refine e_ret ?_
   first|(exfalso;first|contradiction|omega)|(exact vi (by first|(rw[chkC,if_pos hc1];done)|(rw[chkC,if_neg hc1,if_pos hany];done)|(rw[chkC,if_neg hc1,if_neg (by rw[hany];simp),if_pos (by omega)];done)|(rw[chkC,if_neg hc1,if_neg (by rw[hany];simp),if_neg (by omega),if_pos hany2];done)|(rw[chkC,if_neg hc1,if_neg (by rw[hany];simp),if_neg (by omega),if_neg (by rw[hany2];simp),if_pos hany3];done)|(rw[chkC,if_neg hc1,if_neg (by rw[hany];simp),if_neg (by omega),if_neg (by rw[hany2];simp),if_neg (by rw[hany3];simp)];done)))
  have hc10:=bp hb10
  refine aw_skip (x_blockN (t_ (aw_region (m_ (h:=ad_ (h:=a_ (h:=al_nil (?_))))))))
  refine x_then ?_
  refine⟨_,_,?_,⟨j3+1,by omega,rfl,upto_snoc hy ha3 (by simp;omega),rfl⟩,(wk 2 0)⟩
  omega
 have hc9:=bp hb9
 have e3:=row_no stK hj3 hc9
 have hany3:(c.args.any fun p=>decide (64<p.size))=false:=any_no (by rw[←e3];exact ha3)
 refine aw_exit (x_thenE (x_thenE (ABlock_out (t_ (w_ (a_ (h:=e_ (aw_ret (?_)))))))))
 refine e_ret ?_
 first|(exfalso;first|contradiction|omega)|(exact vi (by first|(rw[chkC,if_pos hc1];done)|(rw[chkC,if_neg hc1,if_pos hany];done)|(rw[chkC,if_neg hc1,if_neg (by rw[hany];simp),if_pos (by omega)];done)|(rw[chkC,if_neg hc1,if_neg (by rw[hany];simp),if_neg (by omega),if_pos hany2];done)|(rw[chkC,if_neg hc1,if_neg (by rw[hany];simp),if_neg (by omega),if_neg (by rw[hany2];simp),if_pos hany3];done)|(rw[chkC,if_neg hc1,if_neg (by rw[hany];simp),if_neg (by omega),if_neg (by rw[hany2];simp),if_neg (by rw[hany3];simp)];done)))
theorem Rperms(c:Cal):AFn Tryz.prog 110 [.agg (calA c)] (fun r=>r= .sl 1 ((permL c).map intA) none):=by
 refine enter Tryz.func110 rfl rfl rfl rfl rfl 0 rfl ?_
 refine w_ (b_ (h:=a_ (h:=e_ (q_ (w_ (f_ (h:=l_ (h:=e_ (aw_block (w_ (eq_ (h:=a_ (h:=e_ (?_))))))))))))))
 refine aw_cond rfl (fun hb1=>?_) (fun hb1=>?_)
 ·have hc1:=bp hb1
  refine w_ (bs_ (h:=a_ (h:=e_ (aw_ret (x_blockR (x_thenR (?_)))))))
  refine e_ret ?_
  first|(exfalso;first|contradiction|omega)|(simp only[permL,flg];first|(simp[*,intA];done)|(simp[*,intA];rfl))
 have hc1:=bp hb1
 refine w_ (eq_ (h:=a_ (h:=e_ (?_))))
 refine aw_cond rfl (fun hb2=>?_) (fun hb2=>?_)
 ·have hc2:=bp hb2
  refine w_ (a_ (h:=e_ (q_ (w_ (f_ (h:=?_))))))
  refine al_p rfl (st_indexB (len:=4) (sz:=1) (n:=0) (by kernel_rfl) rfl rfl rfl rfl ?_)
  refine l_ (h:=an_ (h:=nq_ (h:=e_ (?_))))
  refine aw_cond rfl (fun hb3=>?_) (fun hb3=>?_)
  ·have hc3:=bp hb3
   refine aw_region (m_ (h:=ad_ (h:=a_ (h:=e_ (q_ (w_ (f_ (h:=?_))))))))
   refine al_p rfl (st_indexB (len:=4) (sz:=1) (n:=0) (by kernel_rfl) rfl rfl rfl rfl ?_)
   refine l_ (h:=an_ (h:=nq_ (h:=e_ (?_))))
   refine aw_cond rfl (fun hb4=>?_) (fun hb4=>?_)
   ·have hc4:=bp hb4
    refine aw_region (m_ (h:=ad_ (h:=a_ (h:=e_ (w_ (m_ (h:=bs_ (h:=a_ (h:=e_ (aw_ret (x_blockR (x_thenR (?_)))))))))))))
    refine e_ret ?_
    first|(exfalso;first|contradiction|omega)|(simp only[permL,flg];first|(simp[*,intA];done)|(simp[*,intA];rfl))
   have hc4:=bp hb4
   refine kt_ (w_ (m_ (h:=bs_ (h:=a_ (h:=e_ (aw_ret (x_blockR (x_thenR (?_)))))))))
   refine e_ret ?_
   first|(exfalso;first|contradiction|omega)|(simp only[permL,flg];first|(simp[*,intA];done)|(simp[*,intA];rfl))
  have hc3:=bp hb3
  refine kt_ (q_ (w_ (f_ (h:=?_))))
  refine al_p rfl (st_indexB (len:=4) (sz:=1) (n:=0) (by kernel_rfl) rfl rfl rfl rfl ?_)
  refine l_ (h:=an_ (h:=nq_ (h:=e_ (?_))))
  refine aw_cond rfl (fun hb5=>?_) (fun hb5=>?_)
  ·have hc5:=bp hb5
   refine aw_region (m_ (h:=ad_ (h:=a_ (h:=e_ (w_ (m_ (h:=bs_ (h:=a_ (h:=e_ (aw_ret (x_blockR (x_thenR (?_)))))))))))))
   refine e_ret ?_
   first|(exfalso;first|contradiction|omega)|(simp only[permL,flg];first|(simp[*,intA];done)|(simp[*,intA];rfl))
  have hc5:=bp hb5
  refine kt_ (w_ (m_ (h:=bs_ (h:=a_ (h:=e_ (aw_ret (x_blockR (x_thenR (?_)))))))))
  refine e_ret ?_
  first|(exfalso;first|contradiction|omega)|(simp only[permL,flg];first|(simp[*,intA];done)|(simp[*,intA];rfl))
 have hc2:=bp hb2
 refine w_ (eq_ (h:=a_ (h:=e_ (?_))))
 refine aw_cond rfl (fun hb6=>?_) (fun hb6=>?_)
 ·have hc6:=bp hb6
  refine w_ (bs_ (h:=a_ (h:=e_ (aw_ret (x_blockR (x_thenR (?_)))))))
  refine e_ret ?_
  first|(exfalso;first|contradiction|omega)|(simp only[permL,flg];first|(simp[*,intA];done)|(simp[*,intA];rfl))
 have hc6:=bp hb6
 refine w_ (eq_ (h:=a_ (h:=e_ (?_))))
 refine aw_cond rfl (fun hb7=>?_) (fun hb7=>?_)
 ·have hc7:=bp hb7
  refine w_ (bs_ (h:=a_ (h:=e_ (aw_ret (x_blockR (x_thenR (?_)))))))
  refine e_ret ?_
  first|(exfalso;first|contradiction|omega)|(simp only[permL,flg];first|(simp[*,intA];done)|(simp[*,intA];rfl))
 have hc7:=bp hb7
 refine q_ (w_ (eq_ (h:=a_ (h:=e_ (?_)))))
 refine aw_cond rfl (fun hb8=>?_) (fun hb8=>?_)
 ·have hc8:=bp hb8
  refine kt_ (cy_ (h:=w_ (bs_ (h:=a_ (h:=e_ (aw_ret (x_blockR (x_thenR (?_)))))))))
  refine e_ret ?_
  first|(exfalso;first|contradiction|omega)|(simp only[permL,flg];first|(simp[*,intA];done)|(simp[*,intA];rfl))
 have hc8:=bp hb8
 refine w_ (eq_ (h:=a_ (h:=e_ (?_))))
 refine aw_cond rfl (fun hb9=>?_) (fun hb9=>?_)
 ·have hc9:=bp hb9
  refine kt_ (cy_ (h:=w_ (bs_ (h:=a_ (h:=e_ (aw_ret (x_blockR (x_thenR (?_)))))))))
  refine e_ret ?_
  first|(exfalso;first|contradiction|omega)|(simp only[permL,flg];first|(simp[*,intA];done)|(simp[*,intA];rfl))
 have hc9:=bp hb9
 refine aw_region (eq_ (h:=a_ (h:=e_ (?_))))
 refine aw_cond rfl (fun hb10=>?_) (fun hb10=>?_)
 ·have hc10:=bp hb10
  refine w_ (bs_ (h:=a_ (h:=e_ (aw_ret (x_blockR (x_thenR (?_)))))))
  refine e_ret ?_
  first|(exfalso;first|contradiction|omega)|(simp only[permL,flg];first|(simp[*,intA];done)|(simp[*,intA];rfl))
 have hc10:=bp hb10
 refine w_ (eq_ (h:=a_ (h:=e_ (?_))))
 refine aw_cond rfl (fun hb11=>?_) (fun hb11=>?_)
 ·have hc11:=bp hb11
  refine w_ (bs_ (h:=a_ (h:=e_ (aw_ret (x_blockR (x_thenR (?_)))))))
  refine e_ret ?_
  first|(exfalso;first|contradiction|omega)|(simp only[permL,flg];first|(simp[*,intA];done)|(simp[*,intA];rfl))
 have hc11:=bp hb11
 refine aw_skip (x_blockN (t_ (w_ (bs_ (h:=a_ (h:=e_ (aw_ret (?_))))))))
 refine e_ret ?_
 first|(exfalso;first|contradiction|omega)|(simp only[permL,flg];first|(simp[*,intA];done)|(simp[*,intA];rfl))
theorem Rfollows(c:Cal):AFn Tryz.prog 111 [.agg (calA c)] (fun r=>r= .v (.bool (folK c))):=by
 refine enter Tryz.func111 rfl rfl rfl rfl rfl 0 rfl ?_
 refine w_ (b_ (h:=a_ (h:=e_ (q_ (w_ (f_ (h:=l_ (h:=e_ (aw_block (w_ (eq_ (h:=a_ (h:=e_ (?_))))))))))))))
 refine aw_cond rfl (fun hb1=>?_) (fun hb1=>?_)
 ·have hc1:=bp hb1
  refine w_ (f_ (h:=?_))
  refine al_p rfl (st_indexB (len:=4) (sz:=1) (n:=0) (by kernel_rfl) rfl rfl rfl rfl ?_)
  refine l_ (h:=an_ (h:=eq_ (h:=a_ (h:=e_ (aw_ret (x_blockR (x_thenR (?_))))))))
  refine e_ret ?_
  first|(exfalso;first|contradiction|omega)|(exact vb (by simp[folK,*]))
 have hc1:=bp hb1
 refine q_ (w_ (eq_ (h:=a_ (h:=e_ (?_)))))
 refine aw_cond rfl (fun hb2=>?_) (fun hb2=>?_)
 ·have hc2:=bp hb2
  refine kt_ (cy_ (h:=w_ (a_ (h:=e_ (aw_ret (x_blockR (x_thenR (?_))))))))
  refine e_ret ?_
  first|(exfalso;first|contradiction|omega)|(exact vb (by simp[folK,*]))
 have hc2:=bp hb2
 refine w_ (eq_ (h:=a_ (h:=e_ (?_))))
 refine aw_cond rfl (fun hb3=>?_) (fun hb3=>?_)
 ·have hc3:=bp hb3
  refine kt_ (cy_ (h:=w_ (a_ (h:=e_ (aw_ret (x_blockR (x_thenR (?_))))))))
  refine e_ret ?_
  first|(exfalso;first|contradiction|omega)|(exact vb (by simp[folK,*]))
 have hc3:=bp hb3
 refine w_ (eq_ (h:=a_ (h:=e_ (?_))))
 refine aw_cond rfl (fun hb4=>?_) (fun hb4=>?_)
 ·have hc4:=bp hb4
  refine kt_ (cy_ (h:=w_ (a_ (h:=e_ (aw_ret (x_blockR (x_thenR (?_))))))))
  refine e_ret ?_
  first|(exfalso;first|contradiction|omega)|(exact vb (by simp[folK,*]))
 have hc4:=bp hb4
 refine w_ (eq_ (h:=a_ (h:=e_ (?_))))
 refine aw_cond rfl (fun hb5=>?_) (fun hb5=>?_)
 ·have hc5:=bp hb5
  refine kt_ (cy_ (h:=w_ (a_ (h:=e_ (aw_ret (x_blockR (x_thenR (?_))))))))
  refine e_ret ?_
  first|(exfalso;first|contradiction|omega)|(exact vb (by simp[folK,*]))
 have hc5:=bp hb5
 refine w_ (eq_ (h:=a_ (h:=e_ (?_))))
 refine aw_cond rfl (fun hb6=>?_) (fun hb6=>?_)
 ·have hc6:=bp hb6
  refine kt_ (cy_ (h:=w_ (a_ (h:=e_ (aw_ret (x_blockR (x_thenR (?_))))))))
  refine e_ret ?_
  first|(exfalso;first|contradiction|omega)|(exact vb (by simp[folK,*]))
 have hc6:=bp hb6
 refine aw_region (eq_ (h:=a_ (h:=e_ (?_))))
 refine aw_cond rfl (fun hb7=>?_) (fun hb7=>?_)
 ·have hc7:=bp hb7
  refine w_ (a_ (h:=e_ (aw_ret (x_blockR (x_thenR (?_))))))
  refine e_ret ?_
  first|(exfalso;first|contradiction|omega)|(exact vb (by simp[folK,*]))
 have hc7:=bp hb7
 refine aw_skip (x_blockN (t_ (w_ (a_ (h:=e_ (aw_ret (?_)))))))
 refine e_ret ?_
 first|(exfalso;first|contradiction|omega)|(exact vb (by simp[folK,*]))
end
theorem toL(s:ByteArray):s.toList=s.data.toList:=Lib.toList_data s
theorem str_ext{a b:ByteArray}(h:a.data.toList=b.data.toList):a=b:=by
 cases a;cases b;simp at h;simp[h]
theorem str_eq_iff{a b:ByteArray}:a.data.toList=b.data.toList↔a=b:=⟨str_ext,fun h=>by rw[h]⟩
theorem beq_str(a b:ByteArray):(a.toList==b.toList)=decide (a=b):=by
 rw[toL,toL,Bool.eq_iff_iff,beq_iff_eq,decide_eq_true_iff]
 exact str_eq_iff
theorem empty_iff'(s:ByteArray):s.toList.isEmpty=decide (s.size=0):=by
 rw[toL,Lib.size_eq,Bool.eq_iff_iff,List.isEmpty_iff,decide_eq_true_iff,List.length_eq_zero_iff]
set_option maxRecDepth 100000 in
set_option maxHeartbeats 400000 in
theorem Index_slash(s:ByteArray)(w:World):
    Calls Tryz.prog 194 #[.string s, .string ⟨#[47]⟩] w fun e w'=>e= .returned (.int .i64 (Lib.indexByte s.data.toList 47))∧w=w':=by
 by_cases h:s=⟨#[47]⟩
 ·subst h
  go_enter Tryz.func194,Tryz.ntmps194
  go_wp2
  go_ret
  exact⟨rfl,rfl⟩
 have h1:([47]==s.toList)=false:=by
  have:=beq_str ⟨#[47]⟩ s
  rw[decide_eq_false (fun e=>h e.symm),toL ⟨#[47]⟩]at this
  exact this
 go_enter Tryz.func194,Tryz.ntmps194
 go_wp2_with (go_at_call 201;refine(Tryz.stringslite_IndexByte _ _ _).mono ?_;rintro e w' ⟨rfl,rfl⟩)
 go_ret
 exact⟨rfl,rfl⟩
theorem SIndex_slash(s:ByteArray)(w:World):
    Calls Tryz.prog 173 #[.string s, .string ⟨#[47]⟩] w fun e w'=>e= .returned (.int .i64 (Lib.indexByte s.data.toList 47))∧w=w':=by
 go_enter Tryz.func173,Tryz.ntmps173
 go_wp2_with (go_at_call 194;refine(Index_slash _ _).mono ?_;rintro e w' ⟨rfl,rfl⟩)
 go_ret
 exact⟨rfl,rfl⟩
theorem index_some{l:Bs}(h:(47:UInt8)∈l):∃i:Nat,Lib.indexByte l 47=i∧i<l.length∧l=l.take i++47::l.drop (i+1)∧(47:UInt8)∉l.take i:=by
 have hge:=Lib.indexByte_ge l 47
 by_cases hm:Lib.indexByte l 47= -1
 ·have:=Lib.indexByte_none hm
  obtain⟨k,hk⟩:=List.mem_iff_getElem?.1 h
  exact absurd hk (this k)
 obtain⟨i,hi⟩:=Int.eq_ofNat_of_zero_le (show 0≤Lib.indexByte l 47 by omega)
 obtain⟨h1,h2⟩:=Lib.indexByte_some hi
 have hlt:i<l.length:=(List.getElem?_eq_some_iff.1 h1).1
 refine⟨i,hi,hlt,?_,?_⟩
 ·have h3:l[i]=47:=(List.getElem?_eq_some_iff.1 h1).2
  rw[←h3,List.getElem_cons_drop,List.take_append_drop]
 intro hmem
 obtain⟨k,hk⟩:=List.mem_iff_getElem?.1 hmem
 rw[List.getElem?_take]at hk
 split at hk
 ·exact h2 k (by assumption) hk
 cases hk
theorem index_none{l:Bs}(h:(47:UInt8)∉l):Lib.indexByte l 47= -1:=by
 have hge:=Lib.indexByte_ge l 47
 by_cases hm:Lib.indexByte l 47= -1
 ·exact hm
 obtain⟨i,hi⟩:=Int.eq_ofNat_of_zero_le (show 0≤Lib.indexByte l 47 by omega)
 obtain⟨h1,_⟩:=Lib.indexByte_some hi
 exact absurd (List.mem_of_getElem? h1) h
theorem encode_high(r:Int)(h0:128≤r)(h1:Lib.validRune r=true):
    (∃a b:UInt8,Utf8.encode r=⟨#[a,b]⟩∧128≤b.toNat)∨(∃a b c:UInt8,Utf8.encode r=⟨#[a,b,c]⟩)∨(∃a b c d:UInt8,Utf8.encode r=⟨#[a,b,c,d]⟩):=by
 have hv:Utf8.valid r=true:=by
  have:=of_decide_eq_true h1
  unfold Utf8.valid
  simp only[Bool.or_eq_true,Bool.and_eq_true,decide_eq_true_iff]
  omega
 unfold Utf8.encode
 simp only[hv,if_true]
 have hn:¬r.toNat<128:=by omega
 rw[if_neg hn]
 by_cases h2:r.toNat<2048
 ·rw[if_pos h2]
  refine .inl ⟨_,_,rfl,?_⟩
  simp only[UInt8.toNat_ofNat']
  omega
 rw[if_neg h2]
 by_cases h3:r.toNat<65536
 ·rw[if_pos h3]
  exact .inr (.inl ⟨_,_,_,rfl⟩)
 rw[if_neg h3]
 exact .inr (.inr ⟨_,_,_,_,rfl⟩)
set_option maxRecDepth 1000000 in
set_option maxHeartbeats 2000000 in
theorem IndexRune_bad(r:Int)(w:World)(h0:128≤r)(h1:r≤2147483647)(h2:r≠65533)(hv:Lib.validRune r=false):
    Calls Tryz.prog 183 #[.string ⟨#[0,47]⟩, .int .i32 r] w fun e w'=>e= .returned (.int .i64 (-1))∧w=w':=by
 have h2':(r==65533)=false:=by simpa using h2
 go_enter Tryz.func183,Tryz.ntmps183
 go_wp2_with (go_at_call 198;refine(Tryz.utf8_ValidRune _ _).mono ?_;rintro e w' ⟨rfl,rfl⟩;rw[hv])
 go_ret
 exact⟨rfl,rfl⟩
set_option maxRecDepth 1000000 in
set_option maxHeartbeats 2000000 in
theorem IndexRune_good(r:Int)(w:World)(h0:128≤r)(h1:r≤2147483647)(h2:r≠65533)(hv:Lib.validRune r=true):
    Calls Tryz.prog 183 #[.string ⟨#[0,47]⟩, .int .i32 r] w fun e w'=>e= .returned (.int .i64 (-1))∧Below w.heap.size w w':=by
 have h2':(r==65533)=false:=by simpa using h2
 have hlt:decide (r<128)=false:=by simpa using h0
 rcases encode_high r h0 hv with⟨a,b,he,hb⟩|⟨a,b,c,he⟩|⟨a,b,c,d,he⟩
 ·have hne:((((⟨#[0,47]⟩:ByteArray)[1]'(by decide)).toNat:Int) != (((⟨#[a,b]⟩:ByteArray)[1]'(by show 1<2;decide)).toNat:Int))=true:=by
     show((47:Int) != (b.toNat:Int))=true
     rw[bne_iff_ne]
     omega
  go_enter Tryz.func183,Tryz.ntmps183
  go_wp2_with (go_at_call 198;refine(Tryz.utf8_ValidRune _ _).mono ?_;rintro e w' ⟨rfl,rfl⟩;rw[hv])
  go_step3
  go_wp2
  refine wp_loop_rounds 1 ?_
  rw[rounds_succ]
  go_wp2
  go_step3
  go_wp2
  go_quiet (fail)
  have hb:=below_drewN (Below.refl w'.heap.size w') nq
  generalize w'.drewN nq=wq at *
  go_wp2
  go_quiet ((go_at_call 197;exact Calls.quiet_of_same (Tryz.strings_IndexByte _ _ _)))
  go_wp2
  rw[Exit.noGoto_ret]
  go_wp2
  rw[Exit.noGoto_ret]
  go_wp2
  go_ret
  exact⟨rfl,below_drewN hb _⟩
 ·go_enter Tryz.func183,Tryz.ntmps183
  go_wp2_with (go_at_call 198;refine(Tryz.utf8_ValidRune _ _).mono ?_;rintro e w' ⟨rfl,rfl⟩;rw[hv])
  go_step3
  go_wp2
  refine wp_loop_rounds 1 ?_
  rw[rounds_succ]
  go_wp2
  rw[Exit.noGoto_ret]
  go_wp2
  go_ret
  exact⟨rfl,Below.refl _ _⟩
 go_enter Tryz.func183,Tryz.ntmps183
 go_wp2_with (go_at_call 198;refine(Tryz.utf8_ValidRune _ _).mono ?_;rintro e w' ⟨rfl,rfl⟩;rw[hv])
 go_step3
 go_wp2
 refine wp_loop_rounds 1 ?_
 rw[rounds_succ]
 go_wp2
 rw[Exit.noGoto_ret]
 go_wp2
 go_ret
 exact⟨rfl,Below.refl _ _⟩
theorem two_at(i:Nat)(hi:i<2):((⟨#[0,47]⟩:ByteArray)[i]'hi).toNat<128:=by
 match i,hi with
 |0,_=>show(0:UInt8).toNat<128;decide
 |1,_=>show(47:UInt8).toNat<128;decide
set_option maxRecDepth 1000000 in
set_option maxHeartbeats 2000000 in
theorem IndexRune_err(w:World):
    Calls Tryz.prog 183 #[.string ⟨#[0,47]⟩, .int .i32 65533] w fun e w'=>e= .returned (.int .i64 (-1))∧Below w.heap.size w w':=by
 go_enter Tryz.func183,Tryz.ntmps183
 go_wp2
 go_loopg [5,6] 2 (fun g _ _ wx=>∃i:Nat,i+g=2∧wx=w.iter ⟨#[0,47]⟩ i)
 case atStart=>exact⟨0,by omega,rfl⟩
 case round=>
  obtain⟨i,hig,rfl⟩:=hrel
  cases gk with
  |zero=>
    obtain rfl:i=2:=by omega
    have hnx:=run_next_end (P:=Tryz.prog) w ⟨#[0,47]⟩ 2
    go_wp2
    go_ret
    exact⟨rfl,(Below.refl _ _).alloc (Nat.le_refl _) _⟩
  |succ g=>
    have hi:i<2:=by omega
    have hx:=two_at i hi
    have hnx:=fun ty=>run_next_ascii (P:=Tryz.prog) w ⟨#[0,47]⟩ i ty hi hx
    generalize ((⟨#[0,47]⟩:ByteArray)[i]'hi)=x at *
    have hne:((x.toNat:Int)==65533)=false:=beq_eq_false_iff_ne.2 (by omega)
    go_wp2
    go_roundg g
    case measure=>omega
    case rel=>exact⟨i+1,by omega,rfl⟩
theorem decode_span(s:ByteArray)(i:Nat)(h:i<s.size)(ha:128≤(s[i]'h).toNat):
    1≤(Utf8.decode s i).2∧i+(Utf8.decode s i).2≤s.size∧∀k,k<(Utf8.decode s i).2→128≤(s.get! (i+k)).toNat:=by
 have hn:¬(s[i]'h).toNat<128:=by omega
 have h0:s.get! (i+0)=s[i]'h:=get_at s i h
 have g0:128≤(s.get! (i+0)).toNat:=by rw[h0];exact ha
 have c1:∀k,(decide (i+k<s.size)&&(s.get! (i+k)).toNat / 64==2)=true→i+k<s.size∧128≤(s.get! (i+k)).toNat:=by
  intro k hk
  simp only[Bool.and_eq_true,decide_eq_true_iff,beq_iff_eq]at hk
  exact⟨hk.1,by omega⟩
 have one:1≤1∧i+1≤s.size∧∀k,k<1→128≤(s.get! (i+k)).toNat:=by
  refine⟨Nat.le_refl _,h,fun k hk=>?_⟩
  obtain rfl:k=0:=by omega
  exact g0
 unfold Utf8.decode
 simp only[h0,hn,if_false]
 split
 ·rename_i hc
  rw[Bool.and_eq_true]at hc
  obtain⟨a1,b1⟩:=c1 1 hc.2
  split
  ·refine⟨by simp,a1,fun k hk=>?_⟩
   have:k=0∨k=1:=by simp at hk;omega
   rcases this with rfl|rfl
   ·exact g0
   exact b1
  exact one
 split
 ·rename_i hc
  rw[Bool.and_eq_true,Bool.and_eq_true]at hc
  obtain⟨a1,b1⟩:=c1 1 hc.1.2
  obtain⟨a2,b2⟩:=c1 2 hc.2
  split
  ·refine⟨by simp,a2,fun k hk=>?_⟩
   have:k=0∨k=1∨k=2:=by simp at hk;omega
   rcases this with rfl|rfl|rfl
   ·exact g0
   ·exact b1
   exact b2
  exact one
 split
 ·rename_i hc
  rw[Bool.and_eq_true,Bool.and_eq_true,Bool.and_eq_true]at hc
  obtain⟨a1,b1⟩:=c1 1 hc.1.1.2
  obtain⟨a2,b2⟩:=c1 2 hc.1.2
  obtain⟨a3,b3⟩:=c1 3 hc.2
  split
  ·refine⟨by simp,a3,fun k hk=>?_⟩
   have:k=0∨k=1∨k=2∨k=3:=by simp at hk;omega
   rcases this with rfl|rfl|rfl|rfl
   ·exact g0
   ·exact b1
   ·exact b2
   exact b3
  exact one
 exact one
theorem get!_at(s:ByteArray)(j:Nat)(hj:j<s.size):s.data.toList[j]?=some (s.get! j):=by
 have:=get_at s j hj
 rw[Nat.add_zero]at this
 rw[this]
 exact Lib.data_getElem? s j hj
theorem noAny_span{s:ByteArray}{i:Nat}(h:i<s.size)(ha:128≤(s[i]'h).toNat)(hno:Lib.NoAny s.data.toList [0,47] i):Lib.NoAny s.data.toList [0,47] (i+(Utf8.decode s i).2):=by
 obtain⟨_,h2,h3⟩:=decode_span s i h ha
 intro j b hj hb
 by_cases hlt:j<i
 ·exact hno j b hlt hb
 have:=h3 (j - i) (by omega)
 rw[show i+(j - i)=j by omega]at this
 rw[get!_at s j (by omega)]at hb
 injection hb with hb
 rw[hb]at this
 have h0:b≠0:=by rintro rfl;simp at this
 have h47:b≠47:=by
  rintro rfl
  have:(47:UInt8).toNat=47:=rfl
  omega
 simp[h0,h47]
theorem IndexRune_high(r:Int)(w:World)(h0:128≤r)(h1:r≤2147483647):
    Calls Tryz.prog 183 #[.string ⟨#[0,47]⟩, .int .i32 r] w fun e w'=>e= .returned (.int .i64 (-1))∧Below w.heap.size w w':=by
 by_cases h2:r=65533
 ·subst h2;exact IndexRune_err w
 cases hv:Lib.validRune r with
 |true=>exact IndexRune_good r w h0 h1 h2 hv
 |false=>exact(IndexRune_bad r w h0 h1 h2 hv).mono fun e w' h=>⟨h.1,by rw[←h.2];exact Below.refl _ _⟩
def AnyQ(s:ByteArray)(w:World)(e:Ending)(w':World):Prop:=∃v:Int,e= .returned (.int .i64 v)∧Below w.heap.size w w'∧((0≤v)↔((0:UInt8)∈s.data.toList∨(47:UInt8)∈s.data.toList))
theorem any_none{s:ByteArray}(h:Lib.NoAny s.data.toList [0,47] s.size):¬((0:UInt8)∈s.data.toList∨(47:UInt8)∈s.data.toList):=by
 rintro(h'|h')
 ·obtain⟨j,hj⟩:=List.mem_iff_getElem?.1 h'
  have:=h j 0 (by rw[Lib.size_eq];exact(List.getElem?_eq_some_iff.1 hj).1) hj
  simp at this
 obtain⟨j,hj⟩:=List.mem_iff_getElem?.1 h'
 have:=h j 47 (by rw[Lib.size_eq];exact(List.getElem?_eq_some_iff.1 hj).1) hj
 simp at this
theorem any_hit{s:ByteArray}{i:Nat}{x:UInt8}(hx:s.data.toList[i]?=some x)(h:[0,47].contains x=true):((0:UInt8)∈s.data.toList∨(47:UInt8)∈s.data.toList):=by
 have hm:=List.mem_of_getElem? hx
 simp at h
 rcases h with rfl|rfl
 ·exact .inl hm
 exact .inr hm
set_option maxRecDepth 1000000 in
set_option maxHeartbeats 4000000 in
theorem IndexAny_short(s:ByteArray)(w:World)(h8:s.size≤8):Calls Tryz.prog 144 #[.string s, .string ⟨#[0,47]⟩] w (AnyQ s w):=by
 have h8z:decide ((8:Int)<(s.size:Int))=false:=decide_eq_false (by omega)
 go_enter Tryz.func144,Tryz.ntmps144
 go_wp2_with (go_at_call 184;refine(Tryz.strings_shouldUseASCIISet _ _).mono ?_;rintro e w' ⟨rfl,hw⟩;rw[hw,h8z])
 clear hw
 go_loopg [9,10] s.size (fun g _ _ wx=>∃i:Nat,s.size≤i+g∧i≤s.size∧wx.heap[w.heap.size]?=some (.stringIter s i)∧Below w.heap.size w wx∧Hid (Lib.NoAny s.data.toList [0,47] i))
 case atStart=>exact⟨0,by omega,by omega,World.iter_heap w s 0,(Below.refl _ _).alloc (Nat.le_refl _) _,Lib.hid (Lib.NoAny.zero _ _)⟩
 case round=>
  obtain⟨i,hg,hi,hit,hbel,hno⟩:=hrel
  have hks:=hbel.size
  by_cases hlt:i<s.size
  ·obtain⟨g,rfl⟩:∃g,gk=g+1:=⟨gk - 1,by omega⟩
   by_cases hx:(s[i]'hlt).toNat<128
   ·have hnx:=fun ty=>Lib.run_next_ascii_at (P:=Tryz.prog) wr w.heap.size s i ty hit hlt hx
    have hxl:s.data.toList[i]?=some (s[i]'hlt):=Lib.data_getElem? s i hlt
    generalize (s[i]'hlt)=x at *
    have Hx:=Lib.hid hxl
    have hit':=Lib.iterAt_heap wr w.heap.size s i (i+1) hit
    have hbel':=Lib.below_iterAt hbel (Nat.le_refl _) s (i+1)
    generalize wr.iterAt w.heap.size s (i+1)=w1 at *
    have hcon:=Lib.contains_iff_indexByte [0,47] x
    have hback:((x.toNat:Int)).toNat.toUInt8=x:=by simp
    have HI:=Lib.hid hit'
    clear hxl hit hit'
    cases hin:[0,47].contains x
    ·rw[hin]at hcon
     have hneg:¬((0:Int)≤Lib.indexByte [0,47] x):=of_decide_eq_false hcon.symm
     clear hcon
     go_wp2_with (go_at_call 183;refine(Tryz.strings_IndexRune_ascii _ _ _ (by omega) (by omega)).mono ?_;rintro e w' ⟨rfl,hw⟩;rw[hw,hback])
     go_roundg g
     case measure=>omega
     case rel=>exact⟨i+1,by omega,by omega,HI.out,hbel',Lib.hid (hno.out.succ Hx.out hin)⟩
    rw[hin]at hcon
    have hpos:(0:Int)≤Lib.indexByte [0,47] x:=of_decide_eq_true hcon.symm
    clear hcon
    go_wp2_with (go_at_call 183;refine(Tryz.strings_IndexRune_ascii _ _ _ (by omega) (by omega)).mono ?_;rintro e w' ⟨rfl,hw⟩;rw[hw,hback])
    go_ret
    exact⟨_,rfl,hbel',⟨fun _=>any_hit Hx.out hin,fun _=>by omega⟩⟩
   have hx':128≤(s[i]'hlt).toNat:=by omega
   obtain⟨p1,p2,_⟩:=decode_span s i hlt hx'
   have HN:=Lib.hid (noAny_span hlt hx' hno.out)
   have q1:=(decode_high s i hlt hx').1
   have q2:=decode_le s i
   have hnx:=fun ty=>Lib.run_next_any_at (P:=Tryz.prog) wr w.heap.size s i ty hit hlt
   generalize Utf8.decode s i=d at *
   obtain⟨d1,d2⟩:=d
   simp only at *
   have hit':=Lib.iterAt_heap wr w.heap.size s i (i+d2) hit
   have hbel':=Lib.below_iterAt hbel (Nat.le_refl _) s (i+d2)
   have hsz:=Lib.iterAt_size wr w.heap.size s (i+d2)
   generalize wr.iterAt w.heap.size s (i+d2)=w1 at *
   have hk1:w.heap.size<w1.heap.size:=(Array.getElem?_eq_some_iff.1 hit').1
   have HI:=Lib.hid hit'
   clear hit hit' hsz
   go_wp2_with fail
   refine(IndexRune_high _ _ (by omega) (by omega)).mono ?_
   rintro e w2 ⟨rfl,hb2⟩
   go_wp2
   go_roundg g
   case measure=>omega
   case rel=>exact⟨i+d2,by omega,by omega,(hb2.block _ hk1).trans HI.out,hbel'.trans (hb2.mono (by omega)),HN⟩
  obtain rfl:i=s.size:=by omega
  have hnx:=fun ty=>Lib.run_next_end_at (P:=Tryz.prog) wr w.heap.size s s.size ty hit hlt
  go_wp2
  go_ret
  exact⟨_,rfl,hbel,⟨fun h=>absurd h (by decide),fun h=>absurd h (any_none hno.out)⟩⟩
theorem indexAny_mem(s:ByteArray):(0≤Lib.indexAny s.data.toList [0,47])↔((0:UInt8)∈s.data.toList∨(47:UInt8)∈s.data.toList):=by
 generalize s.data.toList=l
 induction l with
 |nil=>simp[Lib.indexAny]
 |cons b l ih=>
   have hge:=Lib.indexAny_ge [0,47] l
   unfold Lib.indexAny
   by_cases hb:[0,47].contains b=true
   ·rw[if_pos hb]
    simp only[List.contains_cons,List.contains_nil,Bool.or_false,Bool.or_eq_true,beq_iff_eq]at hb
    rcases hb with rfl|rfl<;>simp
   rw[if_neg hb]
   have h0:(0:UInt8)≠b:=by rintro rfl;simp at hb
   have h47:(47:UInt8)≠b:=by rintro rfl;simp at hb
   simp only[List.mem_cons,h0,h47,false_or]
   rw[←ih]
   split
   ·rename_i h
    have:Lib.indexAny l [0,47]= -1:=by simpa using h
    rw[this]
   rename_i h
   have:Lib.indexAny l [0,47]≠ -1:=by simpa using h
   constructor<;>intro h'<;>omega
theorem IndexAny_any(s:ByteArray)(w:World)(hs:s.size≤1000000):Calls Tryz.prog 144 #[.string s, .string ⟨#[0,47]⟩] w (AnyQ s w):=by
 by_cases h8:s.size≤8
 ·exact IndexAny_short s w h8
 refine(Tryz.strings_IndexAny_long (fun w=>by kernel_rfl) s ⟨#[0,47]⟩ w (by decide) (by omega) (by omega) (by decide) ?_).mono ?_
 ·intro j b hj
  have:b∈[0,47]:=List.mem_of_getElem? hj
  simp at this
  rcases this with rfl|rfl<;>decide
 rintro e w' ⟨rfl,rfl⟩
 exact⟨_,rfl,below_a2 _ _ _,indexAny_mem s⟩
def badB(s:ByteArray):Bool:=decide ((0:UInt8)∈s.data.toList∨(47:UInt8)∈s.data.toList)
theorem ContainsAny_any(s:ByteArray)(w:World)(hs:s.size≤1000000):
    Calls Tryz.prog 104 #[.string s, .string ⟨#[0,47]⟩] w fun e w'=>e= .returned (.bool (badB s))∧Below w.heap.size w w':=by
 go_enter Tryz.func104,Tryz.ntmps104
 go_wp2_with fail
 refine(IndexAny_any s w hs).mono ?_
 rintro e w' ⟨v,rfl,hb,hv⟩
 have HV:=Lib.hid hv
 clear hv
 go_wp2
 go_ret
 exact⟨ret_bool (decide_eq_decide.2 HV.out),hb⟩
theorem eq_dot(s:ByteArray):(s.toList==[46])=decide (s.data.toList=[46]):=by rw[toL,Bool.eq_iff_iff];simp
theorem eq_dots(s:ByteArray):(s.toList==[46,46])=decide (s.data.toList=[46,46]):=by rw[toL,Bool.eq_iff_iff];simp
set_option maxHeartbeats 1000000 in
theorem PName_any(s:ByteArray)(w:World):
    Calls Tryz.prog 57 #[.string s] w fun e w'=>e= .returned (.bool (nmL s.data.toList))∧Below w.heap.size w w':=by
 have hsz:=Lib.size_eq s
 by_cases h0:s.size=0
 ·have he:s.toList.isEmpty=true:=by rw[empty_iff'];simp[h0]
  have he':s.toList=[]:=List.isEmpty_iff.1 he
  have HF:Hid (nmL s.data.toList=false):=Lib.hid (by
   rw[←toL,he'];rfl)
  clear hsz
  go_enter Tryz.func57,Tryz.ntmps57
  go_wp2
  go_ret
  exact⟨ret_bool HF.out.symm,Below.refl _ _⟩
 have he:s.toList.isEmpty=false:=by rw[empty_iff'];simp[h0]
 have hne:s.data.toList≠[]:=by intro e;rw[e]at hsz;exact h0 hsz
 by_cases h12:s.size≤12
 ·have hle:decide ((s.size:Int)≤12)=true:=decide_eq_true (by omega)
  by_cases h1:s.data.toList=[46]
  ·have e1:(s.toList==[46])=true:=by rw[eq_dot];simp[h1]
   have e1':(s.toList != [46])=false:=by simp[bne,e1]
   have HF:Hid (nmL s.data.toList=false):=Lib.hid (by rw[h1];rfl)
   clear hsz hne h1
   go_enter Tryz.func57,Tryz.ntmps57
   go_wp2
   go_ret
   exact⟨ret_bool HF.out.symm,Below.refl _ _⟩
  have e1:(s.toList==[46])=false:=by rw[eq_dot];simp[h1]
  have e1':(s.toList != [46])=true:=by simp[bne,e1]
  by_cases h2:s.data.toList=[46,46]
  ·have e2:(s.toList==[46,46])=true:=by rw[eq_dots];simp[h2]
   have e2':(s.toList != [46,46])=false:=by simp[bne,e2]
   have HF:Hid (nmL s.data.toList=false):=Lib.hid (by rw[h2];rfl)
   clear hsz hne h1 h2
   go_enter Tryz.func57,Tryz.ntmps57
   go_wp2
   go_ret
   exact⟨ret_bool HF.out.symm,Below.refl _ _⟩
  have e2:(s.toList==[46,46])=false:=by rw[eq_dots];simp[h2]
  have e2':(s.toList != [46,46])=true:=by simp[bne,e2]
  have HF:Hid (nmL s.data.toList= !badB s):=Lib.hid (by
   unfold badB
   rw[Bool.eq_iff_iff,nmL_iff]
   simp only[Bool.not_eq_true',decide_eq_false_iff_not,not_or]
   exact⟨fun h=>h.2.2.2.2,fun h=>⟨hne,by omega,h1,h2,h⟩⟩)
  clear hsz hne h1 h2
  go_enter Tryz.func57,Tryz.ntmps57
  go_wp2_with fail
  refine(ContainsAny_any s _ (by omega)).mono ?_
  rintro e w' ⟨rfl,hb⟩
  go_wp2
  go_ret
  exact⟨ret_bool HF.out.symm,hb⟩
 have hle:decide ((s.size:Int)≤12)=false:=decide_eq_false (by omega)
 have HF:Hid (nmL s.data.toList=false):=Lib.hid (decide_eq_false (fun h=>by have:=h.2.1;omega))
 clear hsz hne
 go_enter Tryz.func57,Tryz.ntmps57
 go_wp2
 go_ret
 exact⟨ret_bool HF.out.symm,Below.refl _ _⟩
theorem Pname(s:Str):AFn Tryz.prog 57 [.v (.string s)] (fun r=>r= .v (.bool (nameL s))):=by
 rw[nameL_eq]
 exact afn_of (us:=[.string s]) fun w=>PName_any s w
section
set_option maxRecDepth 20000
set_option maxHeartbeats 2000000
theorem RspcF(s:Spc)(hs:SpcB s):AFn Tryz.prog 88 [.agg (spcA s)] (fun r=>r= .agg (spcA s)):=by
 have hfew:=hs.few
 refine enter Tryz.func88 rfl rfl rfl rfl rfl 0 rfl ?_
 refine w_ (b_ (h:=al_ (h:=e_ (q_ (yk_ ([(0,spcA s)]) 8 (h:=df_ 0 (h:=?_)))))))
 first|refine dl_ 1 (h:=?_)|refine tk_ 1 rfl (fun _ hS=>st_loadBE (row:=spcA s) rfl (kb hS rfl) (Nat.le_of_ble_eq_true rfl) rfl ⟨rfl,rfl⟩) ?_
 refine df_ 3 (h:=?_)
 first|refine dl_ 4 (h:=?_)|refine tk_ 4 rfl (fun _ hS=>st_loadBE (row:=spcA s) rfl (kb hS rfl) (Nat.le_of_ble_eq_true rfl) rfl ⟨rfl,rfl⟩) ?_
 refine c_ 2 rfl (q_call (RcopyF s.files hs.files) ?_)
 rintro r rfl
 refine o_ (h:=?_)
 first|refine c_ 5 rfl (s_append rfl rfl rfl (by simp;omega) (by repeat constructor) ?_)|refine c_ 5 rfl (s_append0 rfl rfl (by simp;omega) (by repeat constructor) ?_)
 refine o_ (h:=dbd_ 6 (h:=?_))
 refine c0_ 7 rfl (s_store rfl rfl rfl rfl rfl rfl (by repeat constructor) (by repeat constructor) ?_)
 refine o_ (h:=z_ (h:=t_ (aw_ret (?_))))
 refine rt_ (r:= .agg (spcA s)) none (h5:=?_) (h6:=⟨rfl,rfl,rfl⟩)
 exact LeA.agg (LeL.cons (LeA.refl _) (LeL.cons (LeA.tok _ _ _) LeL.nil))
end
end Go.Proofs.YtbglbmnhgbgelaaGreatDoor
namespace Go.Proofs.YtbglbmnhgbgelaaGreatDoor
section
variable {s:Spc}(hv:SpcV s)
include hv
def wvis(s:Spc)(a:Fil):Prop:=(whereP s a).2=true∧∀i,0<i→okAt s (chainP s (mostL s.files) a) i=true
theorem where_ok2{a:Fil}(h:dirL s.files a=true)(hm:mtdL s a.1=true):(whereP s a).2=true:=by rw[where_yes hv h hm]
omit hv in
theorem okAt_two(a:Fil)(L:List Fil)(i:Nat):okAt s (a::L) (i+2)=okAt s L (i+1):=by
 unfold okAt
 have h1:(a::L)[i+2]?=L[i+1]?:=List.getElem?_cons_succ
 have h2:(a::L)[i+2 - 1]?=L[i+1 - 1]?:=List.getElem?_cons_succ
 rw[h1,h2]
 simp
omit hv in
theorem okAt_one(a b:Fil)(L:List Fil):okAt s (a::b::L) 1=true↔∀dev,covL s b=some dev→a=(dev,1):=by
 unfold okAt
 simp only[List.getElem?_cons_succ,List.getElem?_cons_zero,Nat.sub_self]
 cases covL s b with
 |none=>simp
 |some dev=>simp
omit hv in
theorem okAt_none{L:List Fil}{i:Nat}(h:L.length≤i):okAt s L i=true:=by
 unfold okAt
 rw[List.getElem?_eq_none h]
theorem vis_iff(a:Fil):visP s a=true↔wvis s a∧covL s a=none:=by
 rw[vis_eq hv,Bool.and_eq_true,List.all_eq_true]
 constructor
 ·rintro⟨h1,h2⟩
  obtain⟨t,ht⟩:=chain_head hv (where_ok h1).1
  refine⟨⟨h1,fun i hi=>?_⟩,?_⟩
  ·by_cases hl:i<(chainP s (mostL s.files) a).length
   ·exact h2 i (List.mem_range.2 hl)
   exact okAt_none (by omega)
  have h3:=h2 0 (List.mem_range.2 (by rw[ht];simp))
  rw[ht]at h3
  unfold okAt at h3
  simp only[List.getElem?_cons_zero]at h3
  cases hc:covL s a with
  |none=>rfl
  |some dev=>rw[hc]at h3;simp at h3
 rintro⟨⟨h1,h2⟩,hc⟩
 refine⟨h1,fun i _=>?_⟩
 obtain⟨t,ht⟩:=chain_head hv (where_ok h1).1
 by_cases h0:i=0
 ·subst h0
  rw[ht]
  unfold okAt
  simp only[List.getElem?_cons_zero,hc]
 exact h2 i (by omega)
theorem wvis_step{a b:Fil}(h:dirL s.files a=true)(hm:mtdL s a.1=true)(hs:stepR s a=some b):wvis s a↔wvis s b∧∀dev,covL s b=some dev→a=(dev,1):=by
 have hb:=step_dir hv h hs
 have hbm:=step_mtd hv hm hs
 obtain⟨t,ht⟩:=chain_head hv hb
 have hc:chainP s (mostL s.files) a=a::chainP s (mostL s.files) b:=by rw[chain_cons hv h,hs]
 unfold wvis
 rw[hc]
 constructor
 ·rintro⟨_,h2⟩
  refine⟨⟨where_ok2 hv hb hbm,fun i hi=>?_⟩,?_⟩
  ·obtain⟨j,rfl⟩:∃j,i=j+1:=⟨i - 1,by omega⟩
   rw[←okAt_two a]
   exact h2 _ (by omega)
  have h3:=h2 1 (by omega)
  rw[ht]at h3
  exact(okAt_one a b t).1 h3
 rintro⟨⟨_,h2⟩,h3⟩
 refine⟨where_ok2 hv h hm,fun i hi=>?_⟩
 by_cases h1:i=1
 ·subst h1
  rw[ht]
  exact(okAt_one a b t).2 h3
 obtain⟨j,rfl⟩:∃j,i=j+2:=⟨i - 2,by omega⟩
 rw[okAt_two]
 exact h2 _ (by omega)
theorem wvis_root(h:dirL s.files (0,1)=true):wvis s (0,1):=by
 have hs:stepR s (0,1)=none:=by unfold stepR;rw[if_neg (by simp)];exact on_zero hv
 refine⟨where_ok2 hv h (by unfold mtdL;simp),fun i hi=>?_⟩
 rw[chain_cons hv h,hs]
 exact okAt_none (by simp;omega)
theorem cov_step{a:Fil}{dev:Int}(hc:covL s a=some dev):stepR s (dev,1)=some a∧dirL s.files (dev,1)=true∧mtdL s dev=true∧dev≠0∧dirL s.files a=true:=by
 obtain⟨i,hi⟩:=cov_mem hc
 have hm:=hv.mnt i _ hi
 have h1:=hm.dev1
 have h2:=hm.dev2
 simp only at h1 h2
 have hs:stepR s (dev,1)=some a:=by
  unfold stepR
  rw[if_neg (by simp)]
  exact on_of hv hi
 exact⟨hs,root_dir hv (by omega) h2,mtd_mem (s:=s) (m:=(dev,a)) (List.mem_of_getElem? hi),by omega,hm.dir⟩
theorem wvis_stepD{a:Fil}(h:wvis s a):wvis s (stepD s a):=by
 unfold stepD
 cases hc:covL s a with
 |none=>exact h
 |some dev=>
   obtain⟨h1,h2,h3,_⟩:=cov_step hv hc
   refine(wvis_step hv (a:=(dev,1)) h2 h3 h1).2 ⟨h,fun d hd=>?_⟩
   rw[hc]at hd
   injection hd with hd
   rw[hd]
theorem wvis_down:∀(n:Nat) (a:Fil),wvis s a→wvis s (itD s n a)
 |0,_,h=>h
 |n+1,a,h=>by rw[itD];exact wvis_down n _ (wvis_stepD hv h)
theorem vis_down{a:Fil}(h:wvis s a):visP s (itD s s.mounts.length a)=true:=(vis_iff hv _).2 ⟨wvis_down hv _ a h,down_end hv _ a fun i m _ _=>by omega⟩
theorem wvis_up:∀(k:Nat) (a:Fil),wvis s a→wvis s (upF s k a):=by
 intro k
 induction k with
 |zero=>intro a h;exact h
 |succ k ih=>
   intro a h
   obtain⟨hd,hm⟩:=where_ok h.1
   by_cases h1:a.2=1
   ·cases ho:onL s a.1 with
    |none=>rw[up_root k hd h1 (by rw[ho];rfl)];exact h
    |some on=>
      have hs:stepR s a=some on:=by unfold stepR;rw[if_neg (by simpa using h1)];exact ho
      rw[up_on k hd h1 (by rw[ho];rfl),ho]
      exact ih on ((wvis_step hv hd hm hs).1 h).1
   have hs:stepR s a=some (a.1,(nodG s.files a).parent):=if_pos h1
   rw[up_in k hd h1]
   exact((wvis_step hv hd hm hs).1 h).1
omit hv in
theorem one_from{d:Dvc}(hd:VD d){a b m:Nod}(ha:a∈d.nodes)(hb:b∈d.nodes)(hm:m∈d.nodes)(h1:m.ino≠1)(hk:m.kind=2)(hea:∃e∈a.entries,e.2=m.ino)(heb:∃e∈b.entries,e.2=m.ino):a=b:=by
 have hc:=hd.one m hm h1 hk
 obtain⟨A,B,hAB,_,_⟩:=asc_split hd.asc ha
 rw[hAB,cntN_append,cntN_cons]at hc
 have h2:=cntE_pos.2 hea
 rw[hAB]at hb
 rcases List.mem_append.1 hb with hb|hb
 ·have:=cntN_pos.2 ⟨b,hb,heb⟩;omega
 rcases List.mem_cons.1 hb with hb|hb
 ·exact hb.symm
 have:=cntN_pos.2 ⟨b,hb,heb⟩;omega
theorem ent_to{a b:Fil}{p:Str}(hl:lookL s.files a p=(b,0)):dirL s.files a=true∧nameL p=true∧b.1=a.1∧b.2≠1∧hasG s.files b=true∧(dirL s.files b=true→stepR s b=some a):=by
 unfold lookL at hl
 cases hn:nodeL s.files a with
 |none=>rw[hn]at hl;simp at hl
 |some n=>
   rw[hn]at hl
   simp only at hl
   by_cases hk:n.kind=2
   ·rw[if_pos hk]at hl
    have hdir:dirL s.files a=true:=(dir_kind hn).2 hk
    cases hf:n.entries.find? fun e:Ent=>decide (e.1=p)with
    |none=>rw[hf]at hl;simp at hl
    |some e=>
      rw[hf]at hl
      simp only[Prod.mk.injEq,and_true]at hl
      subst hl
      have he:=List.mem_of_find?_eq_some hf
      have hep:=List.find?_some hf
      simp only[decide_eq_true_eq]at hep
      obtain⟨q,d,n',e1,e2,e3,e4,e5,e6⟩:=dir_node (f:=s.files) (a:=a) (by rw[hdir];simp)
      have hn':n'=n:=by
       have:nodG s.files a=n:=by unfold nodG;rw[hn];rfl
       rw[←this];exact e5.symm
      subst hn'
      have hd:=hv.files.vd d (List.mem_of_getElem? e2)
      obtain⟨h1,h2,m,hm,hme⟩:=hd.ent n' e3 e he
      have hnb:nodeL s.files (a.1,e.2)=some m:=by rw[e1];exact node_in hv e2 hm hme
      refine⟨hdir,by rw[←hep];exact h1,rfl,h2,by unfold hasG;rw[hnb];rfl,fun hdb=>?_⟩
      have hmk:m.kind=2:=(dir_kind hnb).1 hdb
      have hm1:m.ino≠1:=by rw[hme];exact h2
      obtain⟨p',hp',hpi,hpe⟩:=hd.par m hm hm1 hmk
      have:=one_from hd e3 hp' hm hm1 hmk ⟨e,he,hme.symm⟩ hpe
      subst this
      unfold stepR
      rw[if_pos h2]
      unfold nodG
      rw[hnb]
      simp only[Option.getD_some]
      rw[←hpi,e4]
   rw[if_neg hk]at hl;simp at hl
theorem vis_ent{a b:Fil}{p:Str}(hl:lookL s.files a p=(b,0))(ha:visP s a=true)(hb:dirL s.files b=true):wvis s b:=by
 obtain⟨h1,_,h3,h4,_,h6⟩:=ent_to hv hl
 obtain⟨h7,h8⟩:=(vis_iff hv a).1 ha
 refine(wvis_step hv hb (by rw[h3];exact(where_ok h7.1).2) (h6 hb)).2 ⟨h7,fun dev hd=>?_⟩
 rw[h8]at hd;cases hd
omit hv in
theorem cov_dirs(hv:SpcV s){a:Fil}(h:dirL s.files a=false)(n:Nat):itD s n a=a:=by
 refine itD_fix ?_ n
 cases hc:covL s a with
 |none=>rfl
 |some d=>rw[(cov_step hv hc).2.2.2.2]at h;cases h
theorem no_zero:dirL s.files (0,0)=false:=by
 cases hz:dirL s.files (0,0)with
 |false=>rfl
 |true=>
   obtain⟨q,d,m,e1,e2,e3,e4,e5,e6⟩:=dir_node (f:=s.files) (a:=(0,0)) (by rw[hz];simp)
   have:=(hv.files.vd d (List.mem_of_getElem? e2)).pos e3
   simp only at e4
   omega
theorem lks_vis{fl:Bool}{p:Str}{ps:List Str}{a:Fil}{lk:Nat}{τ:Lk}(h0:dirL s.files (0,1)=true)(ha:dirL s.files a=true→visP s a=true)(h:lkS s fl p ps a lk= .inr τ):dirL s.files τ.file=true→visP s τ.file=true:=by
 unfold lkS at h
 split at h
 ·cases h
 rename_i hd
 have hd:dirL s.files a=true:=by simpa using hd
 have hva:=ha hd
 have hr:visP s (rootD s)=true:=vis_down hv (wvis_root hv h0)
 split at h
 ·cases h
 split at h
 ·injection h with h;subst h;exact ha
 split at h
 ·injection h with h;subst h
  exact fun _=>vis_down hv (wvis_up hv _ a ((vis_iff hv a).1 hva).1)
 split at h
 ·split at h
  ·cases h
  injection h with h;subst h
  intro hz
  rw[no_zero hv]at hz;cases hz
 rename_i hl
 have hl:(lookL s.files a p).2=0:=by simpa using hl
 split at h
 ·split at h
  ·cases h
  injection h with h;subst h
  simp only
  split
  ·exact fun _=>hr
  exact ha
 injection h with h;subst h
 simp only
 intro hz
 cases hb:dirL s.files (lookL s.files a p).1 with
 |false=>rw[cov_dirs hv hb]at hz;rw[hb]at hz;cases hz
 |true=>exact vis_down hv (vis_ent hv (p:=p) (by rw[←hl]) hva hb)
theorem lkt_vis(h0:dirL s.files (0,1)=true){fl:Bool}:∀(k:Nat) (σ:Lk),(dirL s.files σ.file=true→visP s σ.file=true)→(lkG s fl k σ).1=0→dirL s.files (lkG s fl k σ).2.file=true→visP s (lkG s fl k σ).2.file=true:=by
 intro k
 induction k with
 |zero=>intro σ h _ hd;exact h hd
 |succ k ih=>
   intro σ h
   unfold lkG
   cases σ.ps with
   |nil=>exact fun _ hd=>h hd
   |cons p ps=>
     simp only
     cases hs:lkS s fl p ps σ.file σ.links with
     |inl e=>
       intro _ hd
       rw[show(e,lkZ).2.file=((0,0):Fil) from rfl,no_zero hv]at hd
       cases hd
     |inr τ=>exact ih τ (lks_vis hv h0 h hs)
end
end Go.Proofs.YtbglbmnhgbgelaaGreatDoor
namespace Go.Proofs.YtbglbmnhgbgelaaGreatDoor
theorem nm_free{p:Str}(h:nameL p=true):p≠dot1∧p≠dot2∧p.size≤12∧p≠⟨#[]⟩∧(47:UInt8)∉p.data.toList:=by
 rw[nameL_eq]at h
 obtain⟨h1,h2,h3,h4,h5,h6⟩:=nmL_iff.1 h
 refine⟨?_,?_,by rw[Lib.size_eq];exact h2,?_,h6⟩<;>(intro e;subst e;first|exact h3 rfl|exact h4 rfl|exact h1 rfl)
theorem str_nil{p:Str}(h:p.data.toList=[]):p=⟨#[]⟩:=str_eqS h
theorem pieces_rel{l:Bs}(h1:l≠[])(h2:l.head?≠some 47):pieces l≠[]:=by
 intro h
 have h3:flatS (segs l)=47::l:=flat_segs l
 cases hs:segs l with
 |nil=>exact segs_ne l hs
 |cons p ps=>
   rw[hs,flatS_cons]at h3
   injection h3 with _ h3
   have h4:p=[]:=by
    unfold pieces at h
    rw[hs,List.filter_cons]at h
    split at h
    ·cases h
    rename_i hne
    simpa[ne_]using hne
   rw[h4,List.nil_append]at h3
   cases ps with
   |nil=>exact h1 h3.symm
   |cons q ps=>
     rw[flatS_cons]at h3
     rw[←h3]at h2
     simp at h2
theorem splS_rel{p:Str}(h1:p≠⟨#[]⟩)(h2:hdL p=false):splS p≠[]:=by
 intro h
 unfold splS at h
 rw[List.map_eq_nil_iff]at h
 refine pieces_rel (fun e=>h1 (str_nil e)) ?_ h
 unfold hdL at h2
 simpa using h2
end Go.Proofs.YtbglbmnhgbgelaaGreatDoor
namespace Go.Proofs.YtbglbmnhgbgelaaGreatDoor
section
variable {s:Spc}(hv:SpcV s)
include hv
omit hv in
theorem lks_err{fl:Bool}{p:Str}{ps:List Str}{a:Fil}{lk:Nat}{e:Int}(h:lkS s fl p ps a lk= .inl e):e≠0:=by
 unfold lkS at h
 repeat' split at h
 all_goals first|(cases h;done)|(injection h with h;subst h;decide)
def Fin_(s:Spc)(τ:Lk):Prop:=(τ.name=⟨#[]⟩∧τ.dir=τ.file∧τ.ex=true)∨(nameL τ.name=true∧dirL s.files τ.dir=true∧∀lk,lkS s false τ.name [] τ.dir lk= .inr ⟨[],τ.dir,τ.name,τ.file,τ.ex,lk⟩)
theorem lks_fin{fl:Bool}{p:Str}{ps:List Str}{a:Fil}{lk:Nat}{τ:Lk}(h:lkS s fl p ps a lk= .inr τ):Fin_ s τ:=by
 unfold lkS at h
 split at h
 ·cases h
 rename_i c1
 split at h
 ·cases h
 rename_i c2
 split at h
 ·injection h with h;subst h;exact .inl ⟨rfl,rfl,rfl⟩
 rename_i c3
 split at h
 ·injection h with h;subst h;exact .inl ⟨rfl,rfl,rfl⟩
 rename_i c4
 split at h
 ·rename_i c5
  split at h
  ·cases h
  rename_i c6
  injection h with h;subst h
  simp only[not_or,Decidable.not_not,Bool.not_eq_false]at c6
  refine .inr ⟨c6.2,by simpa using c1,fun lk=>?_⟩
  unfold lkS
  simp only[c1,c2,c3,c4,c5,c6.2,if_false,if_true,ne_eq,not_true_eq_false,or_self,Bool.true_eq_false,not_false_eq_true]
 rename_i c5
 split at h
 ·split at h
  ·cases h
  injection h with h;subst h;exact .inl ⟨rfl,rfl,rfl⟩
 rename_i c6
 injection h with h;subst h
 have hl:lookL s.files a p=((lookL s.files a p).1,0):=Prod.ext rfl (by simpa using c5)
 refine .inr ⟨(ent_to hv hl).2.1,by simpa using c1,fun lk=>?_⟩
 unfold lkS
 simp only[c1,c2,c3,c4,c5,if_false,ne_eq,not_true_eq_false,or_self,Bool.false_eq_true,and_false,Bool.true_eq_false,reduceCtorEq]
theorem lkg_fin{fl:Bool}:∀(k:Nat) (σ:Lk),Fin_ s σ→(lkG s fl k σ).1=0→Fin_ s (lkG s fl k σ).2:=by
 intro k
 induction k with
 |zero=>intro σ h _;exact h
 |succ k ih=>
   intro σ h
   unfold lkG
   cases σ.ps with
   |nil=>exact fun _=>h
   |cons p ps=>
     simp only
     cases hs:lkS s fl p ps σ.file σ.links with
     |inl e=>exact fun c=>absurd c (lks_err hs)
     |inr τ=>exact ih τ (lks_fin hv hs)
theorem find_fin{st:Fil}{p:Str}{fl:Bool}{x:Fnd}(h:findL s st p fl=(x,0)):∃τ,Fin_ s τ∧x=fndOf s (lsL p) τ:=by
 unfold findL at h
 generalize (if hdL p=true then rootD s else st)=d at h
 split at h
 ·cases h
 split at h
 ·cases h
 split at h
 ·cases h
 split at h
 ·rename_i c;injection h with h1 h2;exact absurd h2 c
 rename_i c
 split at h
 ·cases h
 injection h with h1 h2
 exact⟨_,lkg_fin hv _ _ (.inl ⟨rfl,rfl,rfl⟩) (Decidable.not_not.1 c),h1.symm⟩
end
end Go.Proofs.YtbglbmnhgbgelaaGreatDoor
namespace Go.Proofs.YtbglbmnhgbgelaaGreatDoor
abbrev zz:Str:=⟨#[122,122]⟩
end Go.Proofs.YtbglbmnhgbgelaaGreatDoor
namespace Go.Proofs.YtbglbmnhgbgelaaGreatDoor
structure Wk where
 ps:List Str
 at_:Fil
 dir:Fil
 name:Str
 missing:Bool
 links:Nat
def stp(s:Spc)(fl:Bool)(p:Str)(ps:List Str)(w:Wk):Int ⊕ Wk:=
 if dirL s.files w.at_=false then .inl 20
 else if 12<p.size then .inl 36
 else if p=dot2 then .inr ⟨ps,itD s s.mounts.length (upF s (s.mounts.length+1) w.at_),(0,0),⟨#[]⟩,w.missing,w.links⟩
 else if p=dot1 then .inr ⟨ps,w.at_,(0,0),⟨#[]⟩,w.missing,w.links⟩
 else if nameL p=false then .inl 2
 else if(lookL s.files w.at_ p).2≠0 then(if ps≠[]then .inl 2 else .inr ⟨ps,w.at_,w.at_,p,true,w.links⟩)
 else if(nodG s.files (lookL s.files w.at_ p).1).kind=3∧(ps≠[]∨fl=true)then
  (if w.links=8 then .inl 40 else
    .inr ⟨splS (nodG s.files (lookL s.files w.at_ p).1).target++ps,if hdL (nodG s.files (lookL s.files w.at_ p).1).target=true then rootD s else w.at_,if hdL (nodG s.files (lookL s.files w.at_ p).1).target=true then(0,0)else w.dir,if hdL (nodG s.files (lookL s.files w.at_ p).1).target=true then⟨#[]⟩else w.name,w.missing,w.links+1⟩)
 else .inr ⟨ps,itD s s.mounts.length (lookL s.files w.at_ p).1,w.at_,p,w.missing,w.links⟩
def fndW(s:Spc)(sl:Bool)(w:Wk):Fnd:=
 if w.name=⟨#[]⟩then⟨w.at_,⟨#[]⟩,w.at_, !w.missing,sl,(whereP s w.at_).1⟩
 else⟨w.dir,w.name,if w.missing=true then(0,0)else w.at_, !w.missing,sl,if(whereP s w.dir).2=true then joinS (whereP s w.dir).1 w.name else⟨#[]⟩⟩
structure Sim(w:Wk)(σ:Lk):Prop where
 ps:w.ps=σ.ps
 links:w.links=σ.links
 ex:σ.ex= !w.missing
 here:w.missing=false→w.at_=σ.file
 gone:w.missing=true→σ.file=(0,0)∧w.ps=[]∧w.dir=σ.dir∧w.name=σ.name∧w.name≠⟨#[]⟩
 last:w.ps=[]→w.missing=false→(w.name=⟨#[]⟩→σ.name=⟨#[]⟩∧σ.dir=σ.file)∧(w.name≠⟨#[]⟩→w.dir=σ.dir∧w.name=σ.name)
section
variable {s:Spc}(hv:SpcV s)
include hv
theorem look_nm{a:Fil}{p:Str}(h:nameL p=false):(lookL s.files a p).2≠0:=by
 intro e
 have:=(ent_to hv (a:=a) (p:=p) (b:=(lookL s.files a p).1) (Prod.ext rfl e)).2.1
 rw[this]at h;cases h
theorem target_ne{a b:Fil}{p:Str}(hl:lookL s.files a p=(b,0))(hk:(nodG s.files b).kind=3):(nodG s.files b).target≠⟨#[]⟩:=by
 have hb:=(ent_to hv hl).2.2.2.2.1
 obtain⟨q,i,d,m,h1,h2,h3,h4,h5,h6⟩:=at_ok hb
 rw[h6]at hk ⊢
 have hp:=(hv.files.vd d (List.mem_of_getElem? h2)).plain m (List.mem_of_getElem? h3)
 unfold plainL at hp
 split at hp
 ·cases hp
 try rw[if_pos hk]at hp
 unfold targetL at hp
 intro e
 rw[e]at hp
 revert hp
 decide+kernel
theorem sim_step(fl:Bool){p:Str}{ps:List Str}{w:Wk}{σ:Lk}(h:Sim w σ)(hm:w.missing=false):(∃e,stp s fl p ps w= .inl e∧lkS s fl p ps σ.file σ.links= .inl e)∨∃w' τ,stp s fl p ps w= .inr w'∧lkS s fl p ps σ.file σ.links= .inr τ∧Sim w' τ:=by
 have ha:=h.here hm
 have hex:(true:Bool)= !w.missing:=by rw[hm];rfl
 rw[←ha,←h.links]
 unfold stp lkS
 by_cases c1:dirL s.files w.at_=false
 ·simp only[if_pos c1];exact .inl ⟨_,rfl,rfl⟩
 simp only[if_neg c1]
 by_cases c2:12<p.size
 ·simp only[if_pos c2];exact .inl ⟨_,rfl,rfl⟩
 simp only[if_neg c2]
 by_cases c3:p=dot1
 ·have c4:¬p=dot2:=by rw[c3];decide
  simp only[if_pos c3,if_neg c4]
  exact .inr ⟨_,_,rfl,rfl,rfl,rfl,hex,fun _=>rfl,fun c=>(by rw[hm]at c;cases c),fun _ _=>⟨fun _=>⟨rfl,rfl⟩,fun c=>absurd rfl c⟩⟩
 simp only[if_neg c3]
 by_cases c4:p=dot2
 ·simp only[if_pos c4]
  exact .inr ⟨_,_,rfl,rfl,rfl,rfl,hex,fun _=>rfl,fun c=>(by rw[hm]at c;cases c),fun _ _=>⟨fun _=>⟨rfl,rfl⟩,fun c=>absurd rfl c⟩⟩
 simp only[if_neg c4]
 by_cases c5:nameL p=false
 ·have c6:=look_nm hv (a:=w.at_) c5
  simp only[if_pos c5,if_pos c6,if_pos (show ps≠[]∨nameL p=false from .inr c5)]
  exact .inl ⟨_,rfl,rfl⟩
 simp only[if_neg c5]
 have hp0:p≠⟨#[]⟩:=(nm_free (by simpa using c5)).2.2.2.1
 by_cases c6:(lookL s.files w.at_ p).2≠0
 ·simp only[if_pos c6]
  by_cases c7:ps≠[]
  ·simp only[if_pos c7,if_pos (show ps≠[]∨nameL p=false from .inl c7)]
   exact .inl ⟨_,rfl,rfl⟩
  simp only[if_neg c7,if_neg (show¬(ps≠[]∨nameL p=false) from fun c=>c.elim c7 c5)]
  have c8:ps=[]:=Decidable.not_not.1 c7
  exact .inr ⟨_,_,rfl,rfl,c8,rfl,rfl,fun c=>(by cases c),fun _=>⟨rfl,c8,rfl,rfl,hp0⟩,fun _ c=>by cases c⟩
 simp only[if_neg c6]
 by_cases c7:(nodG s.files (lookL s.files w.at_ p).1).kind=3∧(ps≠[]∨fl=true)
 ·simp only[if_pos c7]
  by_cases c8:w.links=8
  ·simp only[if_pos c8];exact .inl ⟨_,rfl,rfl⟩
  simp only[if_neg c8]
  have ht:=target_ne hv (a:=w.at_) (p:=p) (b:=(lookL s.files w.at_ p).1) (Prod.ext rfl (Decidable.not_not.1 c6)) c7.1
  refine .inr ⟨_,_,rfl,rfl,rfl,rfl,hex,fun _=>rfl,fun c=>(by rw[hm]at c;cases c),fun hps _=>?_⟩
  by_cases c9:hdL (nodG s.files (lookL s.files w.at_ p).1).target=true
  ·simp only[if_pos c9]
   exact⟨fun _=>⟨trivial,trivial⟩,fun c=>absurd rfl c⟩
  have:=splS_rel ht (by simpa using c9)
  exact absurd (List.append_eq_nil_iff.1 hps).1 this
 simp only[if_neg c7]
 exact .inr ⟨_,_,rfl,rfl,rfl,rfl,hex,fun _=>rfl,fun c=>(by rw[hm]at c;cases c),fun _ _=>⟨fun c=>absurd c hp0,fun _=>⟨rfl,rfl⟩⟩⟩
theorem sim_end{sl:Bool}{w:Wk}{σ:Lk}(h:Sim w σ)(hps:w.ps=[]):fndW s sl w=fndOf s sl σ:=by
 unfold fndW fndOf
 cases hm:w.missing with
 |true=>
   obtain⟨g1,_,g2,g3,g4⟩:=h.gone hm
   rw[if_neg g4,h.ex,hm,g1,←g2,←g3]
   simp only[if_true,g4,if_false]
 |false=>
   have ha:=h.here hm
   obtain⟨k1,k2⟩:=h.last hps hm
   by_cases c:w.name=⟨#[]⟩
   ·obtain⟨e1,e2⟩:=k1 c
    rw[if_pos c,h.ex,hm,e1,e2,←ha]
    simp only[if_true]
    by_cases cw:(whereP s w.at_).2=true
    ·rw[if_pos cw]
    rw[if_neg cw]
    have:whereP s w.at_=(⟨#[]⟩,false):=where_no hv fun c=>cw (where_ok2 hv c.1 c.2)
    rw[this]
   obtain⟨e1,e2⟩:=k2 c
   rw[if_neg c,h.ex,hm,←e1,←e2,←ha]
   simp only[c,if_false,Bool.false_eq_true]
end
end Go.Proofs.YtbglbmnhgbgelaaGreatDoor
namespace Go.Proofs.YtbglbmnhgbgelaaGreatDoor
open Go.RowKit Go.Shelf
attribute [local go_sem] Oper.semAt_some
theorem SplitSeq_slash(s:ByteArray)(w:World):
    Calls Tryz.prog 90 #[.string s, .string ⟨#[47]⟩] w fun e w'=>
     e= .returned (.func (.func 171) #[] #[.pointer (some ⟨w.heap.size+1,0,none⟩), .pointer (some ⟨w.heap.size,0,none⟩), .pointer (some ⟨w.heap.size+1+1,0,none⟩)])∧
     w'=((w.alloc (.cells #[.string s] 9)).alloc (.cells #[.string ⟨#[47]⟩] 9)).alloc (.cells #[.int .i64 0] 3):=by
 go_enter Tryz.func90,Tryz.ntmps90
 go_wp2
 go_ret
 exact⟨rfl,rfl⟩
def boxLen(w:World)(b:Nat):Nat:=match w.cell? ⟨b,0,none⟩with
 |some (.string r)=>r.size
 |_=>0
theorem boxLen_eq{w:World}{b:Nat}{t:TypeId}{r:ByteArray}(h:Boxed w b t (.string r)):boxLen w b=r.size:=by simp[boxLen,h.cell]
def Keep3(a b c:Nat)(X Y:World):Prop:=Y.heap[a]?=X.heap[a]?∧Y.heap[b]?=X.heap[b]?∧Y.heap[c]?=X.heap[c]?
theorem Keep3.trans{a b c:Nat}{X Y Z:World}(h:Keep3 a b c X Y)(k:Keep3 a b c Y Z):Keep3 a b c X Z:=⟨k.1.trans h.1,k.2.1.trans h.2.1,k.2.2.trans h.2.2⟩
theorem keep3_put{a b c N:Nat}(ha:a<N)(hb:b<N)(hc:c<N)(W:World)(l:Nat)(o':Obj)(hl:N≤l):Keep3 a b c W (W.putObj l o'):=
 ⟨World.putObj_heap_other (by omega),World.putObj_heap_other (by omega),World.putObj_heap_other (by omega)⟩
theorem keep3_below{a b c:Nat}{X Y:World}(h:Below X.heap.size X Y)(ha:a<X.heap.size)(hb:b<X.heap.size)(hc:c<X.heap.size):Keep3 a b c X Y:=⟨h.block _ ha,h.block _ hb,h.block _ hc⟩
theorem size_lt_of_extract(s:ByteArray)(i:Nat)(h:i<s.size):(s.extract (i+1) s.size).size<s.size:=by
 rw[ByteArray.size_extract];omega
theorem segs_at{s:ByteArray}{i:Nat}(hi:Lib.indexByte s.data.toList 47=i):i<s.size∧segs s.data.toList=(s.extract 0 i).data.toList::segs (s.extract (i+1) s.size).data.toList:=by
 have hm:(47:UInt8)∈s.data.toList:=by
  apply Classical.byContradiction
  intro h
  rw[index_none h]at hi
  omega
 obtain⟨j,hj,hlt,hl,hn⟩:=index_some hm
 obtain rfl:j=i:=by omega
 refine⟨by rw[Lib.size_eq];exact hlt,?_⟩
 rw[Lib.extract_data,Lib.extract_to_end]
 simp only[List.drop_zero,Nat.sub_zero]
 conv=>lhs;rw[hl]
 exact segs_cut hn _
theorem segs_end{s:ByteArray}(hi:Lib.indexByte s.data.toList 47<0):segs s.data.toList=[s.data.toList]:=by
 refine segs_none fun h=>?_
 obtain⟨i,hi',_⟩:=index_some h
 omega
def bls(xs:List Str):List Bs:=xs.map fun x=>x.data.toList
set_option maxRecDepth 100000 in
set_option maxHeartbeats 1000000 in
theorem splitSeq1(n:Nat)(s:ByteArray)(hs:s.size≤1000000)(b0 b1 b2:Nat)(w:World)(h0:Boxed w b0 9 (.string s))(h1:Boxed w b1 9 (.string ⟨#[47]⟩))(h2:Boxed w b2 3 (.int .i64 0))(h01:b0≠b1)(h02:b0≠b2):
    SeqW Fence.wide n Tryz.prog 171 #[.pointer (some ⟨b1,0,none⟩), .pointer (some ⟨b0,0,none⟩), .pointer (some ⟨b2,0,none⟩)] (fun x:Str=>#[.string x]) (fun b=>b=b0) (Keep3 b0 b1 b2) (fun xs=>bls xs<+:segs s.data.toList)
     (fun xs=>bls xs=segs s.data.toList) (fun pre=>bls pre<+:segs s.data.toList) w:=fun l J Jx W hW hJ hJx hY hst=>by
 have k0:Boxed W b0 9 (.string s):=blk_below h0 hW h0.lt
 have k1:Boxed W b1 9 (.string ⟨#[47]⟩):=blk_below h1 hW h1.lt
 have k2:Boxed W b2 3 (.int .i64 0):=blk_below h2 hW h2.lt
 refine callsIn_of_wp Tryz.func171 rfl trivial ?_ rfl
 simp only[Tryz.ntmps171,List.size_toArray,List.length_cons,List.length_nil,Nat.reduceAdd,Nat.reduceSub,Array.replicate_succ,Array.replicate_zero,List.push_toArray,List.append_toArray,List.nil_append,List.cons_append]
 have c1:=k1.cell
 gi_wp2
 gi_loopw [7] (fun _ wr=>∃(pre:List Str) (r:ByteArray),Boxed wr b0 9 (.string r)∧Boxed wr b1 9 (.string ⟨#[47]⟩)∧Boxed wr b2 3 (.int .i64 0)∧J pre wr∧Hid (bls pre++segs r.data.toList=segs s.data.toList)∧r.size≤s.size) (fun _ wr=>boxLen wr b0)
 case atStart=>exact⟨[],s,k0,k1,k2,hst,rfl,Nat.le_refl _⟩
 case round=>
  obtain⟨pre,r,m0,m1,m2,hj,hpre,hle⟩:=hrel
  clear k0 k1 k2 c1 hst
  have c0:=m0.cell
  have c1:=m1.cell
  have c2:=m2.cell
  have f0:=m0.frozen
  gi_wp2_with fail
  refine wideCall ((callsIn_wide.2 (SIndex_slash _ _)).mono ?_)
  rintro e w' ⟨rfl,rfl⟩
  have hge:=Lib.indexByte_ge r.data.toList 47
  by_cases hneg:Lib.indexByte r.data.toList 47<0
  ·have HS:=Lib.hid (segs_end hneg)
   obtain⟨fn,tmps,assign,body,hy,hR⟩:=hY pre r wr hj (by rw[←hpre.out,HS.out];simp[bls])
   gi_wp2
   refine⟨(fun h=>by cases h),hR.mono ?_⟩
   rintro e W3 (⟨rfl,hJ3,hk3⟩|⟨rfl,hJx3⟩)
   ·gi_wp2
    go_end0
    exact⟨⟨_,rfl⟩, .inl ⟨pre++[r],by rw[←hpre.out,HS.out];simp[bls],hJ3⟩⟩
   gi_wp2
   go_end0
   exact⟨⟨_,rfl⟩, .inr ⟨pre++[r],by rw[←hpre.out,HS.out];simp[bls],hJx3⟩⟩
  obtain⟨i,hi⟩:=Int.eq_ofNat_of_zero_le (show 0≤Lib.indexByte r.data.toList 47 by omega)
  obtain⟨hlt,hseg⟩:=segs_at hi
  have HS:=Lib.hid hseg
  clear hseg hge hneg
  rw[hi]
  clear hi
  obtain⟨fn,tmps,assign,body,hy,hR⟩:=hY pre (r.extract 0 i) wr hj (by rw[←hpre.out,HS.out];simp[bls])
  gi_wp2
  refine⟨(fun h=>by cases h),hR.mono ?_⟩
  rintro e W3 (⟨rfl,hJ3,hk3⟩|⟨rfl,hJx3⟩)
  ·have q0:Boxed W3 b0 9 (.string r):=hk3.1.trans m0
   have q1:Boxed W3 b1 9 (.string ⟨#[47]⟩):=hk3.2.1.trans m1
   have q2:Boxed W3 b2 3 (.int .i64 0):=hk3.2.2.trans m2
   clear c0 c1 c2 f0 hy hR
   have c0:=q0.cell
   have c1:=q1.cell
   have c2:=q2.cell
   have f0:=q0.frozen
   gi_wp2
   go_roundw
   case rel=>exact⟨pre++[r.extract 0 i],r.extract (i+1) r.size,q0.set _,q1.other (Ne.symm h01) _,q2.other (Ne.symm h02) _,hJ _ _ _ hJ3 (Moves.set_ (own:=fun b=>b=b0) _ rfl _),Lib.hid (by rw[←hpre.out,HS.out];simp[bls]),Nat.le_trans (Nat.le_of_lt (size_lt_of_extract r i hlt)) hle⟩
   case measure=>rw[boxLen_eq (q0.set _),boxLen_eq m0];exact size_lt_of_extract r i hlt
  gi_wp2
  refine bodyPost_ret (results_none rfl _ _ _) rfl ?_
  exact⟨⟨_,rfl⟩, .inr ⟨pre++[r.extract 0 i],by rw[←hpre.out,HS.out];simp[bls],hJx3⟩⟩
end Go.Proofs.YtbglbmnhgbgelaaGreatDoor
