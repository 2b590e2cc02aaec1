/-
  Part 9 of the proof of WatchPlacesP: what the statement's proof uses of the texts in wip/tpl.
-/
import Derived.Test.YtbglbmnhgbgelaaGreatDoorQa8
namespace Go.Proofs.YtbglbmnhgbgelaaGreatDoor
open Go.RowKit
theorem liv_rows{n:Nat}{g:Nat→Option (List AV)}{j sz m cap0 cap:Nat}{rows:List (List AV)}(hn:n≤j)(hg:g j=some (rowsB sz cap rows))(hr:∀r∈rows,r.length=sz)(hm:m=rows.length)(hc:rows.length≤cap):liv n g (.bs j 0 sz m cap0)= .sl sz rows none:=by
 have:Nat.blt j n=false:=by rw[←Bool.not_eq_true,Nat.blt_eq];omega
 simp only[liv,this]
 exact lowG_rows hg hr hm hc
theorem one_plain(a b c:Fil)(x:Chg):∀r∈[filA a,filA b,filA c,chgA x],∀y∈r,∃v,y= .v v:=by
 intro r hr y hy
 simp only[List.mem_cons,List.not_mem_nil,or_false]at hr
 rcases hr with rfl|rfl|rfl|rfl
 ·simp[filA]at hy;rcases hy with h|h<;>exact⟨_,h⟩
 ·simp[filA]at hy;rcases hy with h|h<;>exact⟨_,h⟩
 ·simp[filA]at hy;rcases hy with h|h<;>exact⟨_,h⟩
 simp[chgA]at hy;rcases hy with h|h|h|h|h|h|h<;>exact⟨_,h⟩
theorem ord_ne{j:Nat}{x:Int}(hx:ordV[j]?=some x):x≠0:=by
 match j,hx with
 |0,hx=>injection hx with hx;omega
 |1,hx=>injection hx with hx;omega
 |2,hx=>injection hx with hx;omega
 |j+3,hx=>exact absurd hx (by simp[ordV])
theorem entS_get{ns:List Nod}{i k:Nat}{n0 m:Nod}(hi:ns[i]?=some n0)(hk:ns[k]?=some m)(name:Str)(ino:Int):∃m',(entS ns i n0 name ino)[k]?=some m'∧m'.ino=m.ino∧m'.entries.length≤m.entries.length+1:=by
 unfold entS
 rw[List.getElem?_set]
 split
 ·rename_i e
  subst e
  rw[hi]at hk
  injection hk with hk
  subst hk
  exact⟨{n0 with entries:=entL n0.entries name ino},by rw[if_pos (List.getElem?_eq_some_iff.1 hi).1],rfl,entL_len _ _ _⟩
 exact⟨m,hk,rfl,by omega⟩
theorem entS_mem{ns:List Nod}{i:Nat}{n0:Nod}(hi:ns[i]?=some n0){name:Str}{ino:Int}{m':Nod}(hm:m'∈entS ns i n0 name ino):∃m∈ns,m'.ino=m.ino∧m'.entries.length≤m.entries.length+1:=by
 rcases List.mem_or_eq_of_mem_set hm with h|h
 ·exact⟨m',h,rfl,by omega⟩
 subst h
 exact⟨n0,List.mem_of_getElem? hi,rfl,entL_len _ _ _⟩
theorem entS_isAsc{ns:List Nod}(h:Asc ns){i:Nat}{n0:Nod}(hn:ns[i]?=some n0)(name:Str)(ino:Int):Asc (entS ns i n0 name ino):=by
 have:=entS_asc (d:=⟨0,ns⟩) h hn name ino
 simp only at this
 rw[this]
 exact entD_asc h _ _ _
theorem Renter3(f:Fls)(q:Nat)(d d':Dvc)(n:Nod)(i:Nat)(a:Fil)(name:Str)(ino:Int)(cap cap1:Nat)(hf:FlsB (f.set q d'))(hq:q<f.length)(ha:a.1=(q:Int))(hi:indexL (f.set q d') a=(i:Int))(hn:d'.nodes[i]?=some n)(hcap:f.length≤cap)(hcap1:d'.nodes.length≤cap1)(hnx:d'.next=d.next)(hl:d'.nodes.length=d.nodes.length):
    ACall Tryz.prog 76 [.agg [.bs 0 0 2 f.length cap], .agg (filA a), .v (.string name), .v (.int .i64 ino)] [DB f q d 1 cap cap1,NB d'.nodes cap1] (fun r b t=>t=[]∧r= .tup []∧b=[DB f q ⟨d.next,entS d'.nodes i n name ino⟩ 1 cap cap1,NB (entS d'.nodes i n name ino) cap1]):=by
 have key:=Renter2 f q d' n i a name ino cap cap1 hf hq ha hi hn hcap hcap1
 have e1:DB f q d' 1 cap cap1=DB f q d 1 cap cap1:=by unfold DB devB devR;rw[hnx,hl]
 have e2:DB f q d 1 cap cap1=DB f q ⟨d.next,entS d'.nodes i n name ino⟩ 1 cap cap1:=by unfold DB devB devR;rw[entS_len,hl]
 rw[e1]at key
 exact key.mono fun r b t ⟨h1,h2,h3⟩=>⟨h1,h2,by rw[h3,e2]⟩
theorem ren_facts{f:Fls}(hv:FlsV f){q:Nat}{d:Dvc}(hq:f[q]?=some d){i i2:Nat}{n1 n2:Nod}(hn1:d.nodes[i]?=some n1)(hn2:d.nodes[i2]?=some n2)(name name2:Str)(ai:Int)(ha:∃m∈d.nodes,m.ino=ai):
    ∃(X1 X2:List Nod) (m2:Nod),X1=entS d.nodes i n1 name 0∧X1[i2]?=some m2∧m2.ino=n2.ino∧X2=entS X1 i2 m2 name2 ai∧Asc X1∧Asc X2∧X1.length=d.nodes.length∧X2.length=d.nodes.length∧X2=entD (entD d.nodes n1.ino name 0) n2.ino name2 ai∧
     FlsB (f.set q ⟨d.next,X1⟩)∧FlsB (f.set q ⟨d.next,X2⟩)∧(∀m∈X2,m.entries.length≤1000)∧(∃m∈X2,m.ino=1)∧∃m∈X2,m.ino=ai:=by
 have hd:=hv.vd d (List.mem_of_getElem? hq)
 obtain⟨m2,hm2,hi2,hl2⟩:=entS_get hn1 hn2 name 0
 have e1:=entS_asc hd.asc hn1 name 0
 have a1:=entS_isAsc hd.asc hn1 name 0
 have e2:=entS_asc (d:=⟨0,entS d.nodes i n1 name 0⟩) a1 hm2 name2 ai
 simp only at e2
 have a2:=entS_isAsc a1 hm2 name2 ai
 have hb2:∀m∈entS (entS d.nodes i n1 name 0) i2 m2 name2 ai,m.entries.length≤1000:=fun m hm=>by
  obtain⟨m',h1,_,h2⟩:=entS_mem hm2 hm
  obtain⟨m'',h3,_,h4⟩:=entS_mem hn1 h1
  have:=hd.many m'' h3
  omega
 have hmem:∀x:Int,(∃m∈d.nodes,m.ino=x)→∃m∈entS (entS d.nodes i n1 name 0) i2 m2 name2 ai,m.ino=x:=by
  rintro x ⟨m,hm,rfl⟩
  obtain⟨k,hk⟩:=List.getElem?_of_mem hm
  obtain⟨m',h1,h2,_⟩:=entS_get hn1 hk name 0
  obtain⟨m'',h3,h4,_⟩:=entS_get hm2 h1 name2 ai
  exact⟨m'',List.mem_of_getElem? h3,h4.trans h2⟩
 obtain⟨r,hr,hr1,_⟩:=hd.rootMem
 refine⟨_,_,m2,rfl,hm2,hi2,rfl,a1,a2,entS_len _ _ _ _ _,by rw[entS_len,entS_len],by rw[e2,e1,hi2],hv.entS hq hn1 name 0,hv.b.set_ ?_ hb2,hb2,hmem 1 ⟨r,hr,hr1⟩,hmem ai ha⟩
 show(entS _ _ _ _ _).length≤1000
 rw[entS_len,entS_len]
 have:=hd.len
 omega
section
set_option maxRecDepth 10000
set_option maxHeartbeats 4000000
theorem Rrename(f:Fls)(src:Fil)(name:Str)(to:Fil)(name2:Str)(hv:FlsV f)(hs:name.size≤100000)(hs2:name2.size≤100000):AFn Tryz.prog 39 [.agg (flsA f), .agg (filA src), .v (.string name), .agg (filA to), .v (.string name2)] (fun r=>r=chgR (renameL f src name to name2)):=by
 have hf:=hv.b
 have P1:=Rplace f src name hf hs
 have P2:=Rplace f to name2 hf hs2
 have L1:=Rlook f src name hf
 have L2:=Rlook f to name2 hf
 obtain⟨pa,hpa⟩:∃x,placeL f src name=x:=⟨_,rfl⟩
 obtain⟨pb,hpb⟩:∃x,placeL f to name2=x:=⟨_,rfl⟩
 obtain⟨⟨A,e1⟩,hl1⟩:∃x,lookL f src name=x:=⟨_,rfl⟩
 obtain⟨⟨O,e2⟩,hl2⟩:∃x,lookL f to name2=x:=⟨_,rfl⟩
 rw[hpa]at P1
 rw[hpb]at P2
 rw[hl1]at L1
 rw[hl2]at L2
 simp only at L1 L2
 have hRen:renameL f src name to name2=(if ordL pa pb≠0 then([],[],ordL pa pb)else if e1≠0 then([],[],e1)else if src.1≠to.1 then([],[],18)else
     if dirL f A=true∧belowF f to A=true then([],[],22)else if e2=0∧O=A then(f,[],0)else if ren2L f src to A O e2≠0 then([],[],ren2L f src to A O e2)else
     (onD f to.1.toNat fun ns=>renPar (renNs ns src name to name2 A O e2) A.2 to.2 (dirL f A),[(src,name,A,(0,0)),(to,name2,O,A)],0)):=by
  unfold renameL
  rw[hpa,hpb,hl1,hl2]
 have hol:ordV.length=3:=rfl
 refine enter Tryz.func39 rfl rfl rfl rfl rfl 0 rfl ?_
 refine w_ (b_ (h:=b_ (h:=b_ (h:=al_ (h:=a_ (h:=a_ (h:=e_ (q_ (yr_ 10 (h:=dl_ 0 (h:=dl_ 1 (h:=dm_ 2 (h:=dl_ 4 (h:=dl_ 5 (h:=dm_ 6 (h:=?_))))))))))))))))
 refine c_ 3 rfl (q_call (P1) ?_)
 rintro r rfl
 refine o_ (h:=?_)
 refine c_ 7 rfl (q_call (P2) ?_)
 rintro r rfl
 refine o_ (h:=da_ 8 (h:=da_ 9 (h:=z_ (h:=t_ (w_ (bs_ (h:=a_ (h:=e_ (q_ (w_ (a_ (h:=e_ (aw_block (?_))))))))))))))
 refine aw_loopW (fun m t=>∃j:Nat,j≤ordV.length∧m=ordV.length - j∧(∀i y,i<j→ordV[i]?=some y→¬(pa=y∨pb=y))∧t=⟨look [(2, .v (.string name)),(4, .v (.string name2)),(5, .bp 0 0),(6, .bp 1 0),(8, .bp 2 0),(10, .bp 3 0),(13, .v (.int .i64 pa)),(14, .v (.int .i64 pb)),(15, .sl 1 (ordV.map intA) none),(16, .v (.int .i64 (j:Int)))],⟨[flsA f,filA src,filA to,[.v (.slice none 0 0)]],[]⟩⟩) (ordV.length) ((wk 4 0)) (⟨0,Nat.zero_le _,rfl,fun i y hi=>by omega,rfl⟩) ?_
 rintro m t ⟨j,hj,rfl,ha,rfl⟩
 refine q_ (w_ (m_ (h:=m_ (h:=n_ (h:=lt_ (h:=e_ (?_)))))))
 refine aw_cond rfl (fun hb1=>?_) (fun hb1=>?_)
 ·have hc1:=bp hb1
  obtain⟨hlt,x,hx,hrow, -⟩:=row_at intA (l:=ordV) hc1
  refine kt_ (q_ (aw_block (w_ (m_ (h:=m_ (h:=m_ (h:=i_ (h:=l_ (h:=eq_ (h:=m_ (h:=?_)))))))))))
  refine al_gs false rfl rfl (fun hb2=>?_) (fun hb2=>?_)
  ·have hc2:=bp hb2
   refine g0_ (h:=g0_ (h:=g0_ (h:=g0_ (h:=g0_ (h:=g0_ (h:=pt_ (h:=e_ (cy_ (h:=q_ (?_))))))))))
   refine aw_draw (fun _=>True) 8 (by kernel_rfl) ?_
   refine aa_t (i:=0) rfl rfl (by kernel_rfl) (by first|rfl|exact wan_y rfl rfl (beq_tt ‹_›)|exact wan_y rfl rfl (beq_ff ‹_›)|exact wan_y rfl rfl (by simp[*])) (fun h0 hS=>bz_ ⟨rfl,rfl⟩) trivial ?_
   refine aa_t (i:=1) rfl rfl (by kernel_rfl) (by first|rfl|exact wan_y rfl rfl (beq_tt ‹_›)|exact wan_y rfl rfl (beq_ff ‹_›)|exact wan_y rfl rfl (by simp[*])) (fun h0 hS=>st_move rfl ⟨rfl,rfl⟩) trivial ?_
   refine aa_t (i:=2) rfl rfl (by kernel_rfl) (by first|rfl|exact wan_y rfl rfl (beq_tt ‹_›)|exact wan_y rfl rfl (beq_ff ‹_›)|exact wan_y rfl rfl (by simp[*])) (fun h0 hS=>st_move rfl ⟨rfl,rfl⟩) trivial ?_
   refine aa_t (i:=3) rfl rfl (by kernel_rfl) (by first|rfl|exact wan_y rfl rfl (beq_tt ‹_›)|exact wan_y rfl rfl (beq_ff ‹_›)|exact wan_y rfl rfl (by simp[*])) (fun h0 hS=>st_index rfl rfl rfl (by first|assumption|rfl) ⟨rfl,rfl⟩) trivial ?_
   refine aa_t (i:=4) rfl rfl (by kernel_rfl) (by first|rfl|exact wan_y rfl rfl (beq_tt ‹_›)|exact wan_y rfl rfl (beq_ff ‹_›)|exact wan_y rfl rfl (by simp[*])) (fun h0 hS=>st_loadF1 rfl rfl ⟨rfl,rfl⟩) trivial ?_
   refine c0_ 5 rfl (s_store rfl rfl rfl rfl rfl rfl (by repeat constructor) (by repeat constructor) ?_)
   refine⟨.inr trivial,?_⟩
   refine aa_t (i:=6) rfl rfl (by kernel_rfl) (by first|rfl|exact wan_y rfl rfl (beq_tt ‹_›)|exact wan_y rfl rfl (beq_ff ‹_›)|exact wan_y rfl rfl (by simp[*])) (fun h0 hS=>st_assign rfl ⟨rfl,rfl⟩) trivial ?_
   refine aa_t (i:=7) rfl rfl (by kernel_rfl) (by first|rfl|exact wan_y rfl rfl (beq_tt ‹_›)|exact wan_y rfl rfl (beq_ff ‹_›)|exact wan_y rfl rfl (by simp[*])) (fun h0 hS=>st_assign rfl ⟨rfl,rfl⟩) trivial ?_
   refine z_ (h:=t_ (aw_ret (x_blockR (x_thenR (x_thenR (x_blockR (x_thenR (?_))))))))
   refine rt_ (r:=chgR (renameL f src name to name2)) none (h5:=?_) (h6:=⟨rfl,rfl,rfl⟩)
   rw[hRen,show ordL pa pb=x from ord_hit hx ha (.inl hc2),if_pos (ord_ne hx)]
   exact err_le _
  have hc2:=bp hb2
  refine m_ (h:=m_ (h:=m_ (h:=i_ (h:=l_ (h:=eq_ (h:=pf_ (h:=e_ (?_))))))))
  refine aw_cond rfl (fun hb3=>?_) (fun hb3=>?_)
  ·have hc3:=bp hb3
   refine q_ (?_)
   refine aw_draw (fun _=>True) 8 (by kernel_rfl) ?_
   refine aa_t (i:=0) rfl rfl (by kernel_rfl) (by first|rfl|exact wan_y rfl rfl (beq_tt ‹_›)|exact wan_y rfl rfl (beq_ff ‹_›)|exact wan_y rfl rfl (by simp[*])) (fun h0 hS=>bz_ ⟨rfl,rfl⟩) trivial ?_
   refine aa_t (i:=1) rfl rfl (by kernel_rfl) (by first|rfl|exact wan_y rfl rfl (beq_tt ‹_›)|exact wan_y rfl rfl (beq_ff ‹_›)|exact wan_y rfl rfl (by simp[*])) (fun h0 hS=>st_move rfl ⟨rfl,rfl⟩) trivial ?_
   refine aa_t (i:=2) rfl rfl (by kernel_rfl) (by first|rfl|exact wan_y rfl rfl (beq_tt ‹_›)|exact wan_y rfl rfl (beq_ff ‹_›)|exact wan_y rfl rfl (by simp[*])) (fun h0 hS=>st_move rfl ⟨rfl,rfl⟩) trivial ?_
   refine aa_t (i:=3) rfl rfl (by kernel_rfl) (by first|rfl|exact wan_y rfl rfl (beq_tt ‹_›)|exact wan_y rfl rfl (beq_ff ‹_›)|exact wan_y rfl rfl (by simp[*])) (fun h0 hS=>st_index rfl rfl rfl (by first|assumption|rfl) ⟨rfl,rfl⟩) trivial ?_
   refine aa_t (i:=4) rfl rfl (by kernel_rfl) (by first|rfl|exact wan_y rfl rfl (beq_tt ‹_›)|exact wan_y rfl rfl (beq_ff ‹_›)|exact wan_y rfl rfl (by simp[*])) (fun h0 hS=>st_loadF1 rfl rfl ⟨rfl,rfl⟩) trivial ?_
   refine c0_ 5 rfl (s_store rfl rfl rfl rfl rfl rfl (by repeat constructor) (by repeat constructor) ?_)
   refine⟨.inr trivial,?_⟩
   refine aa_t (i:=6) rfl rfl (by kernel_rfl) (by first|rfl|exact wan_y rfl rfl (beq_tt ‹_›)|exact wan_y rfl rfl (beq_ff ‹_›)|exact wan_y rfl rfl (by simp[*])) (fun h0 hS=>st_assign rfl ⟨rfl,rfl⟩) trivial ?_
   refine aa_t (i:=7) rfl rfl (by kernel_rfl) (by first|rfl|exact wan_y rfl rfl (beq_tt ‹_›)|exact wan_y rfl rfl (beq_ff ‹_›)|exact wan_y rfl rfl (by simp[*])) (fun h0 hS=>st_assign rfl ⟨rfl,rfl⟩) trivial ?_
   refine z_ (h:=t_ (aw_ret (x_blockR (x_thenR (x_thenR (x_blockR (x_thenR (?_))))))))
   refine rt_ (r:=chgR (renameL f src name to name2)) none (h5:=?_) (h6:=⟨rfl,rfl,rfl⟩)
   rw[hRen,show ordL pa pb=x from ord_hit hx ha (.inr hc3),if_pos (ord_ne hx)]
   exact err_le _
  have hc3:=bp hb3
  refine aw_skip (x_blockN (t_ (aw_region (m_ (h:=ad_ (h:=a_ (h:=al_nil (?_))))))))
  refine x_then ?_
  refine⟨_,_,?_,⟨j+1,hlt,rfl,upto_snoc hx ha (not_or.2 ⟨hc2,hc3⟩),rfl⟩,(wk 4 0)⟩
  omega
 have hc1:=bp hb1
 have e3:=row_no intA (l:=ordV) hj hc1
 subst e3
 have hord:ordL pa pb=0:=ord_none ha
 obtain⟨hpl1,hpl2⟩:=ord_zero (f:=f) (x:=src) (y:=to) (name:=name) (name2:=name2) (by rw[hpa,hpb];exact hord)
 refine aw_exit (x_thenE (x_thenE (ABlock_out (t_ (w_ (l_ (h:=l_ (h:=m_ (h:=?_)))))))))
 refine al_p rfl (q_call (L1) ?_)
 rintro r rfl
 refine m_ (h:=x_ (h:=x_ (h:=al_ (h:=s_ (h:=a_ (h:=e_ (q_ (w_ (m_ (h:=nq_ (h:=e_ (?_))))))))))))
 refine aw_cond rfl (fun hb4=>?_) (fun hb4=>?_)
 ·have hc4:=bp hb4
  refine w_ (bd_ (h:=m_ (h:=s_ (h:=a_ (h:=a_ (h:=e_ (aw_ret (x_thenR (?_)))))))))
  refine rt_ (r:=chgR (renameL f src name to name2)) none (h5:=?_) (h6:=⟨rfl,rfl,rfl⟩)
  rw[hRen,if_neg (by rw[hord];simp),if_pos hc4]
  exact err_le _
 have hc4:=bp hb4
 have he1:e1=0:=by omega
 refine kt_ (q_ (w_ (f_ (h:=l_ (h:=f_ (h:=l_ (h:=nq_ (h:=e_ (?_)))))))))
 refine aw_cond rfl (fun hb5=>?_) (fun hb5=>?_)
 ·have hc5:=bp hb5
  refine w_ (bd_ (h:=s_ (h:=a_ (h:=a_ (h:=e_ (aw_ret (x_thenR (?_))))))))
  refine rt_ (r:=chgR (renameL f src name to name2)) none (h5:=?_) (h6:=⟨rfl,rfl,rfl⟩)
  rw[hRen,if_neg (by rw[hord];simp),if_neg (by simp[he1]),if_pos hc5]
  exact err_le _
 have hc5:=bp hb5
 refine kt_ (w_ (l_ (h:=l_ (h:=?_))))
 refine al_p rfl (q_call (Rdir f A hf) ?_)
 rintro r rfl
 refine a_ (h:=e_ (?_))
 refine aw_midI (fun t=>(dirL f A=true→belowF f to A=false)∧t=⟨look [(2, .v (.string name)),(4, .v (.string name2)),(5, .bp 0 0),(6, .bp 1 0),(8, .bp 2 0),(10, .bp 3 0),(17, .bp 4 0),(19, .v (.bool (dirL f A)))],⟨[flsA f,filA src,filA to,[.v (.slice none 0 0)],filA A],[]⟩⟩) ?_ ?_
 ·skip
  refine w_ (m_ (h:=m_ (h:=?_)))
  refine al_gs true rfl rfl (fun hb6=>?_) (fun hb6=>?_)
  ·have hc6:=bp hb6
   refine l_ (h:=l_ (h:=l_ (h:=?_)))
   refine g_y (q_call (Rbelow f to A hf) ?_)
   rintro r rfl
   refine pt_ (h:=e_ (?_))
   refine aw_cond rfl (fun hb7=>?_) (fun hb7=>?_)
   ·have hc7:=bp hb7
    refine w_ (bd_ (h:=s_ (h:=a_ (h:=a_ (h:=e_ (aw_ret (x_thenR (?_))))))))
    refine rt_ (r:=chgR (renameL f src name to name2)) none (h5:=?_) (h6:=⟨rfl,rfl,rfl⟩)
    rw[hRen,if_neg (by rw[hord];simp),if_neg (by simp[he1]),if_neg (by simp[hc5]),if_pos ⟨hc6,hc7⟩]
    exact err_le _
   have hc7:=bp hb7
   have hbl:dirL f A=true→belowF f to A=false:=fun _=>hc7
   refine aw_skip (?_)
   refine x_then ?_
   exact⟨_,⟨hbl,rfl⟩,(wk 5 0)⟩
  have hc6:=bp hb6
  have hbl:dirL f A=true→belowF f to A=false:=fun h=>absurd (h.symm.trans hc6) (by decide)
  refine g0_ (h:=g0_ (h:=g0_ (h:=g0_ (h:=pf_ (h:=e_ (cn_ (h:=aw_skip (?_))))))))
  refine x_then ?_
  exact⟨_,⟨hbl,rfl⟩,(wk 5 0)⟩
 rintro t ⟨hbl,rfl⟩
 refine w_ (l_ (h:=l_ (h:=m_ (h:=?_))))
 refine al_p rfl (q_call (L2) ?_)
 rintro r rfl
 refine m_ (h:=x_ (h:=x_ (h:=al_ (h:=s_ (h:=a_ (h:=e_ (?_)))))))
 refine aw_midI (fun t=>(e2=0→O≠A)∧t=⟨look [(2, .v (.string name)),(4, .v (.string name2)),(5, .bp 0 0),(6, .bp 1 0),(8, .bp 2 0),(10, .bp 3 0),(17, .bp 4 0),(18, .v (.int .i64 e2)),(19, .v (.bool (dirL f A))),(20, .bp 5 0)],⟨[flsA f,filA src,filA to,[.v (.slice none 0 0)],filA A,filA O],[]⟩⟩) ?_ ?_
 ·skip
  refine w_ (m_ (h:=eq_ (h:=m_ (h:=?_))))
  refine al_gs true rfl rfl (fun hb8=>?_) (fun hb8=>?_)
  ·have hc8:=bp hb8
   refine l_ (h:=l_ (h:=?_))
   refine g_y (st_binA rfl rfl (by repeat constructor) (by repeat constructor) (fun w=>eqlFil _ _ _ _ w) (by kernel_rfl) ?_)
   refine pt_ (h:=e_ (?_))
   refine aw_cond rfl (fun hb9=>?_) (fun hb9=>?_)
   ·have hc9:=bp hb9
    refine w_ (l_ (h:=?_))
    refine al_p rfl (q_call (RcopyF f hf) ?_)
    rintro r rfl
    refine s_ (h:=a_ (h:=a_ (h:=e_ (aw_ret (x_thenR (?_))))))
    refine rt_ (r:=chgR (renameL f src name to name2)) none (h5:=?_) (h6:=⟨rfl,rfl,rfl⟩)
    rw[hRen,if_neg (by rw[hord];simp),if_neg (by simp[he1]),if_neg (by simp[hc5]),if_neg (fun h=>absurd h.2 (by rw[hbl h.1];decide)),if_pos ⟨hc8,hc9⟩]
    exact keepE_le _
   have hc9:=bp hb9
   have hoa:e2=0→O≠A:=fun _=>hc9
   refine aw_skip (?_)
   refine x_then ?_
   exact⟨_,⟨hoa,rfl⟩,(wk 6 0)⟩
  have hc8:=bp hb8
  have hoa:e2=0→O≠A:=fun h=>absurd h hc8
  refine g0_ (h:=g0_ (h:=g0_ (h:=pf_ (h:=e_ (cn_ (h:=aw_skip (?_)))))))
  refine x_then ?_
  exact⟨_,⟨hoa,rfl⟩,(wk 6 0)⟩
 rintro t ⟨hoa,rfl⟩
 refine aw_midI (fun t=>ren2L f src to A O e2=0∧t=⟨look [(2, .v (.string name)),(4, .v (.string name2)),(5, .bp 0 0),(6, .bp 1 0),(8, .bp 2 0),(10, .bp 3 0),(17, .bp 4 0),(18, .v (.int .i64 e2)),(19, .v (.bool (dirL f A))),(20, .bp 5 0)],⟨[flsA f,filA src,filA to,[.v (.slice none 0 0)],filA A,filA O],[]⟩⟩) ?_ ?_
 ·skip
  refine w_ (m_ (h:=eq_ (h:=e_ (?_))))
  refine aw_cond rfl (fun hb10=>?_) (fun hb10=>?_)
  ·have hc10:=bp hb10
   refine w_ (l_ (h:=l_ (h:=?_)))
   refine al_p rfl (q_call (Rdir f O hf) ?_)
   rintro r rfl
   refine a_ (h:=e_ (q_ (w_ (m_ (h:=m_ (h:=?_))))))
   refine al_gs true rfl rfl (fun hb11=>?_) (fun hb11=>?_)
   ·have hc11:=bp hb11
    refine m_ (h:=nt_ (h:=pt_ (h:=e_ (?_))))
    refine aw_cond rfl (fun hb12=>?_) (fun hb12=>?_)
    ·have hc12:=bp hb12
     refine w_ (bd_ (h:=s_ (h:=a_ (h:=a_ (h:=e_ (aw_ret (x_thenR (x_thenR (?_)))))))))
     refine rt_ (r:=chgR (renameL f src name to name2)) none (h5:=?_) (h6:=⟨rfl,rfl,rfl⟩)
     have h2:ren2L f src to A O e2=21:=by unfold ren2L;simp[hc10,hc11,hc12]
     rw[hRen,if_neg (by rw[hord];simp),if_neg (by simp[he1]),if_neg (by simp[hc5]),if_neg (fun h=>absurd h.2 (by rw[hbl h.1];decide)),if_neg (fun h=>hoa h.1 h.2),h2,if_pos (by decide)]
     exact err_le _
    have hc12:=bp hb12
    refine kt_ (q_ (w_ (m_ (h:=nt_ (h:=m_ (h:=g0_ (h:=pf_ (h:=e_ (cn_ (h:=kt_ (w_ (m_ (h:=m_ (h:=l_ (h:=l_ (h:=?_))))))))))))))))
    refine g_y (q_call (Rempty f O hf) ?_)
    rintro r rfl
    refine nt_ (h:=pt_ (h:=e_ (?_)))
    refine aw_cond rfl (fun hb13=>?_) (fun hb13=>?_)
    ·have hc13:=bp hb13
     refine w_ (bd_ (h:=s_ (h:=a_ (h:=a_ (h:=e_ (aw_ret (x_thenR (?_))))))))
     refine rt_ (r:=chgR (renameL f src name to name2)) none (h5:=?_) (h6:=⟨rfl,rfl,rfl⟩)
     have h2:ren2L f src to A O e2=39:=by unfold ren2L;simp[hc10,hc11,hc12,hc13]
     rw[hRen,if_neg (by rw[hord];simp),if_neg (by simp[he1]),if_neg (by simp[hc5]),if_neg (fun h=>absurd h.2 (by rw[hbl h.1];decide)),if_neg (fun h=>hoa h.1 h.2),h2,if_pos (by decide)]
     exact err_le _
    have hc13:=bp hb13
    have h2:ren2L f src to A O e2=0:=by unfold ren2L;simp[hc10,hc11,hc12,hc13]
    refine aw_skip (?_)
    refine x_then ?_
    exact⟨_,⟨h2,rfl⟩,(wk 6 0)⟩
   have hc11:=bp hb11
   refine g0_ (h:=g0_ (h:=pf_ (h:=e_ (cn_ (h:=kt_ (q_ (w_ (m_ (h:=nt_ (h:=m_ (h:=m_ (h:=pt_ (h:=e_ (?_))))))))))))))
   refine aw_cond rfl (fun hb14=>?_) (fun hb14=>?_)
   ·have hc14:=bp hb14
    refine w_ (bd_ (h:=s_ (h:=a_ (h:=a_ (h:=e_ (aw_ret (x_thenR (x_thenR (?_)))))))))
    refine rt_ (r:=chgR (renameL f src name to name2)) none (h5:=?_) (h6:=⟨rfl,rfl,rfl⟩)
    have h2:ren2L f src to A O e2=20:=by unfold ren2L;simp[hc10,hc11,hc14]
    rw[hRen,if_neg (by rw[hord];simp),if_neg (by simp[he1]),if_neg (by simp[hc5]),if_neg (fun h=>absurd h.2 (by rw[hbl h.1];decide)),if_neg (fun h=>hoa h.1 h.2),h2,if_pos (by decide)]
    exact err_le _
   have hc14:=bp hb14
   have h2:ren2L f src to A O e2=0:=by unfold ren2L;simp[hc10,hc11,hc14]
   refine kt_ (w_ (m_ (h:=m_ (h:=g0_ (h:=g0_ (h:=g0_ (h:=g0_ (h:=pf_ (h:=e_ (cn_ (h:=aw_skip (?_))))))))))))
   refine x_then ?_
   exact⟨_,⟨h2,rfl⟩,(wk 6 0)⟩
  have hc10:=bp hb10
  refine w_ (l_ (h:=l_ (h:=?_)))
  refine al_p rfl (q_call (Rfull f to hf) ?_)
  rintro r rfl
  refine m_ (h:=?_)
  refine al_gs true rfl rfl (fun hb15=>?_) (fun hb15=>?_)
  ·have hc15:=bp hb15
   refine l_ (h:=l_ (h:=?_))
   refine g_y (st_binA rfl rfl (by repeat constructor) (by repeat constructor) (fun w=>neqlFil _ _ _ _ w) (by kernel_rfl) ?_)
   refine pt_ (h:=e_ (?_))
   refine aw_cond rfl (fun hb16=>?_) (fun hb16=>?_)
   ·have hc16:=bp hb16
    refine w_ (bd_ (h:=s_ (h:=a_ (h:=a_ (h:=e_ (aw_ret (x_thenR (?_))))))))
    refine rt_ (r:=chgR (renameL f src name to name2)) none (h5:=?_) (h6:=⟨rfl,rfl,rfl⟩)
    have h2:ren2L f src to A O e2=28:=by unfold ren2L;rw[if_neg hc10,if_pos ⟨hc15,hc16⟩]
    rw[hRen,if_neg (by rw[hord];simp),if_neg (by simp[he1]),if_neg (by simp[hc5]),if_neg (fun h=>absurd h.2 (by rw[hbl h.1];decide)),if_neg (fun h=>hoa h.1 h.2),h2,if_pos (by decide)]
    exact err_le _
   have hc16:=bp hb16
   have h2:ren2L f src to A O e2=0:=by unfold ren2L;rw[if_neg hc10,if_neg (fun h=>h.2 hc16)]
   refine aw_skip (?_)
   refine x_then ?_
   exact⟨_,⟨h2,rfl⟩,(wk 6 0)⟩
  have hc15:=bp hb15
  have h2:ren2L f src to A O e2=0:=by unfold ren2L;rw[if_neg hc10,if_neg (fun h=>absurd (h.1.symm.trans hc15) (by decide))]
  refine g0_ (h:=g0_ (h:=g0_ (h:=pf_ (h:=e_ (cn_ (h:=aw_skip (?_)))))))
  refine x_then ?_
  exact⟨_,⟨h2,rfl⟩,(wk 6 0)⟩
 rintro t ⟨h2,rfl⟩
 obtain⟨q,i,d,n1,hsq,hq,hn1,hn1i,hidx,hnode,hk1,hnm1⟩:=place_ok hpl1
 obtain⟨q',i2,d',n2,htq,hq',hn2,hn2i, -,hnode2,hk2,hnm2⟩:=place_ok hpl2
 obtain rfl:q=q':=by omega
 obtain rfl:d=d':=Option.some.inj (hq.symm.trans hq')
 have hvd:=hv.vd d (List.mem_of_getElem? hq)
 have hql:=(List.getElem?_eq_some_iff.1 hq).1
 have hil:=(List.getElem?_eq_some_iff.1 hn1).1
 obtain⟨e,he,hle⟩:=look_ok hnode hk1 (by rw[hl1];exact he1)
 have hA1:A=(src.1,e.2):=by rw[hl1]at hle;exact congrArg Prod.fst hle
 have hAm:∃m∈d.nodes,m.ino=A.2:=by rw[hA1];exact(hvd.ent n1 (List.mem_of_getElem? hn1) e (entF_some he).1).2.2
 obtain⟨X1,X2,m2,hX1,hm2,hm2i,hX2,hasc1,hasc2,hx1l,hx2l,hX2D,hf1,hf2,hb2,⟨r,hr,hr1⟩,⟨am,ham,hami⟩⟩:=ren_facts hv hq hn1 hn2 name name2 A.2 hAm
 have hidx2:indexL (f.set q ⟨d.next,X1⟩) to=(i2:Int):=index_asc htq (d:=⟨d.next,X1⟩) (by simp[hql]) hasc1 hm2 (hm2i.trans hn2i)
 have hoo:e2=0→O.1=(q:Int)∧0<(keepNot O.2 X2).length:=by
  intro h
  obtain⟨e',he',hle'⟩:=look_ok hnode2 hk2 (by rw[hl2];exact h)
  have hO1:O=(to.1,e'.2):=by rw[hl2]at hle';exact congrArg Prod.fst hle'
  refine⟨by rw[hO1];exact htq,keep_pos hr ?_⟩
  rw[hr1,hO1]
  exact(hvd.ent n2 (List.mem_of_getElem? hn2) e' (entF_some he').1).2.1.symm
 have hO1:e2=0→O.1=A.1:=fun h=>by rw[(hoo h).1,hA1];exact hsq.symm
 obtain⟨NS,hNS⟩:∃NS,NS=(if e2=0 then dropI X2 O.2 else X2):=⟨_,rfl⟩
 have hNSf:NS=X2∨(e2=0∧NS=dropI X2 O.2):=by
  by_cases h:e2=0
  ·exact .inr ⟨h,by rw[hNS,if_pos h]⟩
  exact .inl (by rw[hNS,if_neg h])
 have hsub:NS.Sublist X2:=by
  rcases hNSf with h|⟨_,h⟩
  ·rw[h];exact List.Sublist.refl _
  rw[h];exact List.filter_sublist
 have hasc3:Asc NS:=hasc2.sublist hsub
 have hAN:am∈NS:=by
  rcases hNSf with h|⟨h0,h⟩
  ·rw[h];exact ham
  rw[h]
  refine List.mem_filter.2 ⟨ham,decide_eq_true (.inl fun e=>hoa h0 ?_)⟩
  exact Prod.ext (hO1 h0) (by rw[←e,hami])
 obtain⟨i3,hm3⟩:=List.getElem?_of_mem hAN
 have hil3:=(List.getElem?_eq_some_iff.1 hm3).1
 have hf3:FlsB (f.set q ⟨d.next,NS⟩):=hf.set_ (by have:=hsub.length_le;have:=hvd.len;show NS.length≤1000;omega) fun m hm=>hb2 m (hsub.subset hm)
 have hidx3:indexL (f.set q ⟨d.next,NS⟩) A=(i3:Int):=index_asc (by rw[hA1];exact hsq) (d:=⟨d.next,NS⟩) (by simp[hql]) hasc3 hm3 hami
 obtain⟨m3,rfl⟩:∃m3,m3=am:=⟨_,rfl⟩
 have hm3i:=hami
 obtain⟨NS2,hNS2⟩:∃NS2,NS2=renPar NS A.2 to.2 (dirL f A):=⟨_,rfl⟩
 refine w_ (l_ (h:=?_))
 refine al_p rfl (s_callM [] rfl (.cons _ _ _ _ _ rfl (LeA.refl _) .nil) (by decide) .nil (RcopyK f q d hf hq (by omega)) ?_)
 rintro r bc tc ⟨rfl,cap,cap1,hcap,hcap1,rfl,rfl⟩
 refine⟨rfl,_,(back_new2 (n:=6) rfl f q d d.nodes cap cap1:Back _ [] _ [_,_,_,_,_,_,_,_]),?_⟩
 have hcx1:X1.length≤cap1:=by omega
 have hcx2:X2.length≤cap1:=by omega
 refine al_ (h:=s_ (h:=e_ (w_ (l_ (h:=l_ (h:=m_ (h:=?_)))))))
 refine al_p rfl (s_callM [6,7] rfl (.cons _ _ _ _ _ rfl (LeA.refl _) (.cons _ _ _ _ _ rfl (LeA.refl _) (.cons _ _ _ _ _ rfl (LeA.refl _) (.cons _ _ _ _ _ rfl (LeA.refl _) .nil)))) (by decide) (.cons _ _ _ _ _ rfl (ren_DB (by rfl) _ _ _ _ _) (.cons _ _ _ _ _ rfl (ren_NB _ _ _) .nil)) (Renter f q d n1 i src name 0 cap cap1 hf hq hsq hidx hn1 hcap hcap1) ?_)
 rintro r bc tc ⟨rfl,rfl,rfl⟩
 rw[show d.nodes.set i {n1 with entries:=entL n1.entries name 0}=X1 from hX1.symm]
 refine⟨rfl,_,(back_two (Nat.le_of_ble_eq_true rfl) (Nat.le_of_ble_eq_true rfl) (by decide) f q d X1 cap cap1 cap1:Back _ [6,7] _ [_,_,_,_,_,_,_,_,_]),?_⟩
 refine e_ (w_ (l_ (h:=l_ (h:=m_ (h:=f_ (h:=l_ (h:=?_)))))))
 refine al_p rfl (s_callM [6,7] rfl (.cons _ _ _ _ _ rfl (LeA.refl _) (.cons _ _ _ _ _ rfl (LeA.refl _) (.cons _ _ _ _ _ rfl (LeA.refl _) (.cons _ _ _ _ _ rfl (LeA.refl _) .nil)))) (by decide) (.cons _ _ _ _ _ rfl (ren_DB (by rfl) _ _ _ _ _) (.cons _ _ _ _ _ rfl (ren_NB _ _ _) .nil)) (Renter3 f q d ⟨d.next,X1⟩ m2 i2 to name2 A.2 cap cap1 hf1 hql htq hidx2 hm2 hcap hcx1 rfl hx1l) ?_)
 rintro r bc tc ⟨rfl,rfl,rfl⟩
 refine⟨rfl,?_⟩
 dsimp only
 rw[←hX2]
 refine⟨_,(back_two (Nat.le_of_ble_eq_true rfl) (Nat.le_of_ble_eq_true rfl) (by decide) f q ⟨d.next,X2⟩ X2 cap cap1 cap1:Back _ [6,7] _ [_,_,_,_,_,_,_,_,_]),?_⟩
 refine e_ (?_)
 refine aw_midI (fun t=>∃capx,NS.length≤capx∧t=⟨look [(2, .v (.string name)),(4, .v (.string name2)),(6, .bp 1 0),(8, .bp 2 0),(10, .bp 3 0),(17, .bp 4 0),(19, .v (.bool (dirL f A))),(20, .bp 5 0),(22, .bp 8 0)],⟨[flsA f,filA src,filA to,[.v (.slice none 0 0)],filA A,filA O,DB f q ⟨d.next,NS⟩ 7 cap capx,NB NS capx,[.bs 6 0 2 f.length cap]],[]⟩⟩) ?_ ?_
 ·skip
  refine w_ (m_ (h:=eq_ (h:=e_ (?_))))
  refine aw_cond rfl (fun hb17=>?_) (fun hb17=>?_)
  ·have hc17:=bp hb17
   have he2:e2=0:=hc17
   obtain⟨hoq,hkp⟩:=hoo he2
   refine aw_region (l_ (h:=l_ (h:=?_)))
   refine al_p rfl (s_callM [6,7] rfl (.cons _ _ _ _ _ rfl (LeA.refl _) (.cons _ _ _ _ _ rfl (LeA.refl _) .nil)) (by decide) (.cons _ _ _ _ _ rfl (ren_DB (by rfl) _ _ _ _ _) (.cons _ _ _ _ _ rfl (ren_NB _ _ _) .nil)) (Rdrop2 f q ⟨d.next,X2⟩ ⟨d.next,X2⟩ O cap cap1 hf2 hql hoq hcap hcx2 hkp rfl rfl) ?_)
   rintro r bc tc ⟨rfl,rfl,⟨hns,rfl⟩|⟨hns,cap2,hcap2,rfl⟩⟩
   ·refine⟨rfl,_,(back_four (n:=9) rfl (by decide) (by decide) (by decide) f q ⟨d.next,X2⟩ X2 O f.length cap cap cap1 cap1:Back _ [6,7] _ [_,_,_,_,_,_,_,_,_,_,_]),?_⟩
    obtain rfl:NS=X2:=by rw[hNS,if_pos (by assumption)];exact hns
    refine al_nil (?_)
    refine x_then ?_
    first|exact⟨_,⟨_,hcap2,rfl⟩,weak_ren [0,1,2,3,4,5,6,11,8] (fun i hi=>absurd hi (Nat.not_lt_zero i)) (by decide) (.cons _ _ _ _ _ rfl rfl (.cons _ _ _ _ _ rfl rfl (.cons _ _ _ _ _ rfl rfl (.cons _ _ _ _ _ rfl rfl (.cons _ _ _ _ _ rfl rfl (.cons _ _ _ _ _ rfl rfl (.cons _ _ _ _ _ rfl (renK_DB (by rfl) _ _ _ _ _) (.cons _ _ _ _ _ rfl (renK_NB _ _ _) (.cons _ _ _ _ _ rfl rfl .nil))))))))) (by repeat (first|exact SubK.nil|refine SubK.cons _ _ _ _ rfl (LeA.refl _) ?_))⟩|exact⟨_,⟨_,hcx2,rfl⟩,wb_ 9 0 (by simp[bpLtB,bpLtL,bpLt,bp_DB,bp_NB,filA,flsA])⟩
   refine⟨rfl,_,(back_five (n:=9) rfl (by decide) (by decide) (by decide) f q ⟨d.next,keepNot O.2 X2⟩ X2 (keepNot O.2 X2) O f.length cap cap cap1 cap2:Back _ [6,7] _ [_,_,_,_,_,_,_,_,_,_,_,_]),?_⟩
   have hNSk:NS=keepNot O.2 X2:=by rw[hNS,if_pos (by assumption)];exact hns
   rw[←hNSk]at hcap2
   rw[←hNSk]
   refine al_nil (?_)
   refine x_then ?_
   first|exact⟨_,⟨_,hcap2,rfl⟩,weak_ren [0,1,2,3,4,5,6,11,8] (fun i hi=>absurd hi (Nat.not_lt_zero i)) (by decide) (.cons _ _ _ _ _ rfl rfl (.cons _ _ _ _ _ rfl rfl (.cons _ _ _ _ _ rfl rfl (.cons _ _ _ _ _ rfl rfl (.cons _ _ _ _ _ rfl rfl (.cons _ _ _ _ _ rfl rfl (.cons _ _ _ _ _ rfl (renK_DB (by rfl) _ _ _ _ _) (.cons _ _ _ _ _ rfl (renK_NB _ _ _) (.cons _ _ _ _ _ rfl rfl .nil))))))))) (by repeat (first|exact SubK.nil|refine SubK.cons _ _ _ _ rfl (LeA.refl _) ?_))⟩|exact⟨_,⟨_,hcx2,rfl⟩,wb_ 9 0 (by simp[bpLtB,bpLtL,bpLt,bp_DB,bp_NB,filA,flsA])⟩
  have hc17:=bp hb17
  have he2:¬e2=0:=hc17
  obtain rfl:NS=X2:=by rw[hNS,if_neg he2]
  refine aw_skip (?_)
  refine x_then ?_
  first|exact⟨_,⟨_,hcap2,rfl⟩,weak_ren [0,1,2,3,4,5,6,11,8] (fun i hi=>absurd hi (Nat.not_lt_zero i)) (by decide) (.cons _ _ _ _ _ rfl rfl (.cons _ _ _ _ _ rfl rfl (.cons _ _ _ _ _ rfl rfl (.cons _ _ _ _ _ rfl rfl (.cons _ _ _ _ _ rfl rfl (.cons _ _ _ _ _ rfl rfl (.cons _ _ _ _ _ rfl (renK_DB (by rfl) _ _ _ _ _) (.cons _ _ _ _ _ rfl (renK_NB _ _ _) (.cons _ _ _ _ _ rfl rfl .nil))))))))) (by repeat (first|exact SubK.nil|refine SubK.cons _ _ _ _ rfl (LeA.refl _) ?_))⟩|exact⟨_,⟨_,hcx2,rfl⟩,wb_ 9 0 (by simp[bpLtB,bpLtL,bpLt,bp_DB,bp_NB,filA,flsA])⟩
 rintro t ⟨capx,hcapx,rfl⟩
 refine aw_midI (fun t=>t=⟨look [(2, .v (.string name)),(4, .v (.string name2)),(6, .bp 1 0),(8, .bp 2 0),(10, .bp 3 0),(17, .bp 4 0),(20, .bp 5 0),(22, .bp 8 0)],⟨[flsA f,filA src,filA to,[.v (.slice none 0 0)],filA A,filA O,DB f q ⟨d.next,NS⟩ 7 cap capx,NB NS2 capx,[.bs 6 0 2 f.length cap]],[]⟩⟩) ?_ ?_
 ·skip
  refine w_ (m_ (h:=e_ (?_)))
  refine aw_cond rfl (fun hb18=>?_) (fun hb18=>?_)
  ·have hc18:=bp hb18
   have e4:NS.set i3 {m3 with parent:=to.2}=NS2:=by rw[hNS2,renPar,if_pos hc18,set_updI hasc3 hm3 (fun n=>{n with parent:=to.2}),hm3i]
   have hset3:SetAt (NB NS capx) (0+i3 * 8+5) [.v (.int .i64 to.2)] (NB NS2 capx):=by
    rw[←e4]
    exact NB_set hm3 (by repeat constructor) (by simp)
   refine yk_ ([(0,flsA f),(1,filA src),(2,filA to),(3,[.v (.slice none 0 0)]),(4,filA A),(5,filA O),(6,DB f q ⟨d.next,NS⟩ 7 cap capx),(8,[.bs 6 0 2 f.length cap])]) 15 (h:=df_ 0 (h:=?_))
   first|refine dl_ 1 (h:=?_)|refine tk_ 1 rfl (fun _ hS=>st_loadB1 (row:=DB f q ⟨d.next,NS⟩ 7 cap capx) rfl (kb hS rfl) (DB_nodes hql) ⟨rfl,rfl⟩) ?_
   refine df_ 2 (h:=?_)
   first|refine dl_ 3 (h:=?_)|refine tk_ 3 rfl (fun _ hS=>st_loadB1 (row:=DB f q ⟨d.next,NS⟩ 7 cap capx) rfl (kb hS rfl) (DB_nodes hql) ⟨rfl,rfl⟩) ?_
   refine tk_ 4 rfl (fun _ hS=>st_indexS (m:=q) rfl rfl htq hql ⟨rfl,rfl⟩) ?_
   refine df_ 5 (h:=?_)
   first|refine dl_ 6 (h:=?_)|refine tk_ 6 rfl (fun _ hS=>st_loadB1 (row:=DB f q ⟨d.next,NS⟩ 7 cap capx) rfl (kb hS rfl) (DB_nodes hql) ⟨rfl,rfl⟩) ?_
   first|refine dl_ 7 (h:=?_)|refine tk_ 7 rfl (fun _ hS=>st_loadB1 (row:=DB f q ⟨d.next,NS⟩ 7 cap capx) rfl (kb hS rfl) (DB_nodes hql) ⟨rfl,rfl⟩) ?_
   first|refine dl_ 8 (h:=?_)|refine tk_ 8 rfl (fun _ hS=>st_loadB1 (row:=DB f q ⟨d.next,NS⟩ 7 cap capx) rfl (kb hS rfl) (DB_nodes hql) ⟨rfl,rfl⟩) ?_
   refine df_ 10 (h:=?_)
   first|refine dl_ 11 (h:=?_)|refine tk_ 11 rfl (fun _ hS=>st_loadB1 (row:=DB f q ⟨d.next,NS⟩ 7 cap capx) rfl (kb hS rfl) (DB_nodes hql) ⟨rfl,rfl⟩) ?_
   refine c_ 9 rfl (s_callR 2 rfl (.cons _ _ _ _ _ rfl (LeA.of_eq (low_upd (d:=⟨d.next,NS⟩) hql hcap hcapx (Nat.zero_le _) (Nat.zero_le _) rfl rfl)) (.cons _ _ _ _ _ rfl (LeA.refl _) .nil)) (Rindex (f.set q ⟨d.next,NS⟩) A hf3) ?_)
   rintro r rfl
   refine⟨rfl,?_⟩
   refine o_ (h:=?_)
   refine tk_ 12 rfl (fun _ hS=>st_indexS (m:=i3) rfl rfl hidx3 hil3 ⟨rfl,rfl⟩) ?_
   refine df_ 13 (h:=?_)
   refine c0_ 14 rfl (s_store rfl rfl rfl rfl rfl rfl hset3 (by repeat constructor) ?_)
   refine o_ (h:=z_ (h:=?_))
   refine x_then ?_
   exact⟨_,rfl,wb_ 9 0 (by simp[bpLtB,bpLtL,bpLt,bp_DB,bp_NB,filA,flsA])⟩
  have hc18:=bp hb18
  obtain rfl:NS2=NS:=by rw[hNS2,renPar,if_neg (by rw[hc18];decide)]
  refine aw_skip (?_)
  refine x_then ?_
  exact⟨_,rfl,wb_ 9 0 (by simp[bpLtB,bpLtL,bpLt,bp_DB,bp_NB,filA,flsA])⟩
 rintro t rfl
 have hl3:NS2.length=NS.length:=by rw[hNS2];unfold renPar;split<;>simp[updI]
 have hcapx2:NS2.length≤capx:=by omega
 refine aw_midI (fun t=>t=⟨look [(10, .bp 3 0),(11, .sl 7 ([(src,name,A,(0,0)),(to,name2,O,A)].map chgA) none),(12, .v (.int .i64 0))],⟨[flsA f,filA src,filA to,flsA (f.set q ⟨d.next,NS2⟩)],[]⟩⟩) ?_ ?_
 ·skip
  refine yk_ ([(0,flsA f),(1,filA src),(2,filA to),(4,filA A),(5,filA O),(6,DB f q ⟨d.next,NS⟩ 7 cap capx),(7,NB NS2 capx),(8,[.bs 6 0 2 f.length cap])]) 15 (h:=dl_ 0 (h:=dl_ 1 (h:=dm_ 2 (h:=dl_ 3 (h:=?_)))))
  refine tk_ 4 rfl (fun _ hS=>st_le (y:= .agg (filA (0,0))) (bz_ ⟨rfl,rfl⟩) (by repeat (first|exact LeA.refl _|exact LeA.nil _|exact LeL.refl _|refine LeA.agg ⟨rfl,rfl⟩|refine LeA.tup ⟨rfl,rfl⟩|exact LeL.nil|refine LeL.cons ⟨rfl,rfl⟩ ⟨rfl,rfl⟩|exact LeA.any _)) ⟨rfl,rfl⟩) ?_
  refine dl_ 6 (h:=dm_ 7 (h:=dl_ 8 (h:=dl_ 9 (h:=?_))))
  refine c_ 5 rfl (s_callM [] rfl (.cons _ _ _ _ _ rfl (LeA.refl _) (.cons _ _ _ _ _ rfl (LeA.refl _) (.cons _ _ _ _ _ rfl (LeA.refl _) (.cons _ _ _ _ _ rfl (LeA.refl _) .nil)))) (by decide) .nil (RoneB src name A (0,0)) ?_)
  rintro r bc tc ⟨rfl,rfl,rfl⟩
  refine⟨rfl,_,(back_newB _ (one_plain _ _ _ _):Back _ [] _ [_,_,_,_,_,_,_,_,_,_,_,_,_]),?_⟩
  refine o_ (h:=?_)
  refine c_ 10 rfl (q_call (Rone to name2 O A) ?_)
  rintro r rfl
  refine o_ (h:=?_)
  refine c_ 11 rfl (st_appendB rfl rfl rfl (Nat.le_of_ble_eq_true rfl) src1 (by omega) (by omega) (fun h=>absurd h (by omega)) ?_)
  rintro hg cap4 k bx2 hcp4 hs
  obtain⟨rfl,rfl⟩:k=13∧bx2=[_,_,_,_,_,_,_,_,_,_,_,_,_,rowsB 7 cap4 ([(src,name,A,(0,0)),(to,name2,O,A)].map chgA)]:=hs.eq
  refine o_ (h:=?_)
  refine c0_ 12 rfl (s_store rfl rfl rfl rfl rfl rfl (by repeat constructor) (by repeat constructor) ?_)
  refine o_ (h:=da_ 13 (h:=da_ 14 (h:=z_ (h:=?_))))
  refine x_then ?_
  exact⟨_,rfl,weak_fz 4 2 rfl (congrArg (fun x=>[flsA f,filA src,filA to,x]) (liv_upd (k:=0) (i:=6) (j:=7) (d:=⟨d.next,NS⟩) (d':=⟨d.next,NS2⟩) hql rfl hl3 hcap hcapx2 (Nat.le_of_ble_eq_true rfl) (Nat.le_of_ble_eq_true rfl) rfl rfl)) (.cons _ _ _ _ rfl (LeA.refl _) (.cons _ _ _ _ rfl (LeA.of_eq (liv_rows (rows:=[(src,name,A,(0,0)),(to,name2,O,A)].map chgA) (Nat.le_of_ble_eq_true rfl) (frz_plain (n:=4) (k:=1) (j:=13) (Nat.le_of_ble_eq_true rfl) rfl (chg_plain _)) (chg_seven _) rfl hcp4)) (.cons _ _ _ _ rfl (LeA.refl _) .nil)))⟩
 rintro t rfl
 refine aw_ret (?_)
 refine e_ret ?_
 rw[hRen,if_neg (by rw[hord];simp),if_neg (by simp[he1]),if_neg (by simp[hc5]),if_neg (fun h=>absurd h.2 (by rw[hbl h.1];decide)),if_neg (fun h=>hoa h.1 h.2),if_neg (by rw[h2];simp),htq,Int.toNat_natCast,onD_set hq,show renNs d.nodes src name to name2 A O e2=NS by rw[hNS,hX2D,hn1i,hn2i];rfl,←hNS2]
 rfl
end
end Go.Proofs.YtbglbmnhgbgelaaGreatDoor
namespace Go.Proofs.YtbglbmnhgbgelaaGreatDoor
theorem FlsV.set_{f:Fls}(h:FlsV f){q:Nat}{d':Dvc}(hd:VD d'):FlsV (f.set q d'):=by
 refine⟨by simpa using h.few,fun d hm=>?_⟩
 rcases List.mem_or_eq_of_mem_set hm with h1|h1
 ·exact h.vd d h1
 rw[h1];exact hd
theorem at_ok{f:Fls}{a:Fil}(h:hasG f a=true):∃(q i:Nat) (d:Dvc) (m:Nod),a.1=(q:Int)∧f[q]?=some d∧d.nodes[i]?=some m∧m.ino=a.2∧nodeL f a=some m∧nodG f a=m:=by
 rcases index_node f a with⟨_,h2⟩|⟨q,i,d,n,h1,h2,h3,h4,h5,h6⟩
 ·simp[hasG,h2]at h
 exact⟨q,i,d,n,h1,h2,h3,h4,h6,by simp[nodG,h6]⟩
theorem node_asc{f:Fls}{a:Fil}{q:Nat}{d:Dvc}{m:Nod}(ha:a.1=(q:Int))(hq:f[q]?=some d)(hd:Asc d.nodes)(hm:m∈d.nodes)(hi:m.ino=a.2):nodeL f a=some m:=by
 unfold nodeL
 rw[ha,atI_nat,hq]
 simp only
 cases h:d.nodes.find? (fun n=>n.ino==a.2)with
 |none=>
   have:=List.find?_eq_none.1 h m hm
   simp[hi]at this
 |some n=>
   have h1:=List.mem_of_find?_eq_some h
   have h2:=List.find?_some h
   simp only[beq_iff_eq]at h2
   rw[asc_eq hd h1 hm (by omega)]
theorem look_no{f:Fls}{dir:Fil}{name:Str}{n0:Nod}(hn:nodeL f dir=some n0)(hk:n0.kind=2)(h:(lookL f dir name).2≠0):entF n0.entries name=none∧(lookL f dir name).1=(0,0):=by
 unfold lookL at h ⊢
 rw[hn]at h ⊢
 simp only[hk,if_true]at h ⊢
 unfold entF
 split at h
 ·rename_i he
  exact⟨he,rfl⟩
 exact absurd rfl h
theorem full_no{f:Fls}{dir:Fil}{n0:Nod}(hn:nodeL f dir=some n0)(h:¬fullL f dir=true):n0.entries.length<12:=by
 unfold fullL at h
 rw[hn]at h
 simp at h
 omega
theorem onD_len(f:Fls)(q:Nat)(g:List Nod→List Nod):(onD f q g).length=f.length:=by simp[onD]
def Okay(f:Fls)(R:ChgRes):Prop:=R.2.2=0→FlsV R.1∧R.1.length=f.length
theorem okay_err{f:Fls}{e:Int}(h:e≠0):Okay f ([],[],e):=fun h0=>absurd h0 h
theorem link_okay{f:Fls}(hv:FlsV f)(dir:Fil)(name:Str)(a:Fil):Okay f (linkL f dir name a):=by
 unfold linkL
 split
 ·rename_i h;exact okay_err h
 rename_i hp
 split
 ·exact okay_err (by decide)
 rename_i hh
 split
 ·exact okay_err (by decide)
 rename_i hdev
 split
 ·exact okay_err (by decide)
 rename_i hk
 split
 ·exact okay_err (by decide)
 rename_i hl
 split
 ·exact okay_err (by decide)
 rename_i hfl
 intro _
 obtain⟨q,i,d,n0,hdq,hq,hn0,hino,hidx,hnode,hk0,hnm⟩:=place_ok (name:=name) (dir:=dir) (f:=f) (by omega)
 obtain⟨q',i',d',m,haq,hq',hm,hmi,hnm2,hng⟩:=at_ok (f:=f) (a:=a) (by simpa using hh)
 obtain rfl:q=q':=by omega
 obtain rfl:d=d':=Option.some.inj (hq.symm.trans hq')
 have hvd:=hv.vd d (List.mem_of_getElem? hq)
 have key:=hvd.linked (List.mem_of_getElem? hn0) hk0 (List.mem_of_getElem? hm) (by rw[←hng];exact hk) hnm (look_no hnode hk0 hl).1 (full_no hnode hfl)
 rw[hino,hmi]at key
 refine⟨?_,by dsimp only;exact onD_len _ _ _⟩
 dsimp only
 rw[hdq,Int.toNat_natCast,onD_set hq]
 exact hv.set_ key
theorem dir_kind{f:Fls}{a:Fil}{m:Nod}(h:nodeL f a=some m):dirL f a=true↔m.kind=2:=by
 unfold dirL;rw[h];simp
theorem empty_len{f:Fls}{a:Fil}{m:Nod}(h:nodeL f a=some m):emptyL f a=true↔m.entries=[]:=by
 unfold emptyL;rw[h];simp
theorem look_node{f:Fls}(hv:FlsV f){dir:Fil}{name:Str}{q i:Nat}{d:Dvc}{n0:Nod}(hdq:dir.1=(q:Int))(hq:f[q]?=some d)(hn0:d.nodes[i]?=some n0)(hnode:nodeL f dir=some n0)(hk0:n0.kind=2)(hl:(lookL f dir name).2=0):
    ∃e m,entF n0.entries name=some e∧lookL f dir name=((dir.1,e.2),0)∧m∈d.nodes∧e.2=m.ino∧e.2≠1∧nodeL f (lookL f dir name).1=some m:=by
 obtain⟨e,he,hle⟩:=look_ok hnode hk0 hl
 have hvd:=hv.vd d (List.mem_of_getElem? hq)
 obtain⟨_,h1,m,hm,h2⟩:=hvd.ent n0 (List.mem_of_getElem? hn0) e (entF_some he).1
 refine⟨e,m,he,hle,hm,h2.symm,h1,?_⟩
 rw[hle]
 exact node_asc hdq hq hvd.asc hm h2
theorem unlink_okay{f:Fls}(hv:FlsV f)(dir:Fil)(name:Str):Okay f (unlinkL f dir name):=by
 unfold unlinkL
 split
 ·rename_i h;exact okay_err h
 rename_i hp
 split
 ·rename_i h;exact okay_err h
 rename_i hl
 split
 ·exact okay_err (by decide)
 rename_i hk
 intro _
 obtain⟨q,i,d,n0,hdq,hq,hn0,hino,hidx,hnode,hk0,hnm⟩:=place_ok (name:=name) (dir:=dir) (f:=f) (by omega)
 obtain⟨e,m,he,hle,hm,h1,h2,h3⟩:=look_node hv hdq hq hn0 hnode hk0 (name:=name) (by omega)
 have hvd:=hv.vd d (List.mem_of_getElem? hq)
 have key:=hvd.removed (List.mem_of_getElem? hn0) hm (hvd.leaf m hm fun h=>hk ((dir_kind h3).2 h)).2 he h1
 refine⟨?_,by dsimp only;exact onD_len _ _ _⟩
 dsimp only
 rw[hdq,Int.toNat_natCast,onD_set hq,show(lookL f dir name).1.2=m.ino by rw[hle];exact h1,←hino]
 exact hv.set_ key
theorem rmdir_okay{f:Fls}(hv:FlsV f)(dir:Fil)(name:Str):Okay f (rmdirL f dir name):=by
 unfold rmdirL
 split
 ·rename_i h;exact okay_err h
 rename_i hp
 split
 ·rename_i h;exact okay_err h
 rename_i hl
 split
 ·exact okay_err (by decide)
 rename_i hk
 split
 ·exact okay_err (by decide)
 rename_i hem
 intro _
 obtain⟨q,i,d,n0,hdq,hq,hn0,hino,hidx,hnode,hk0,hnm⟩:=place_ok (name:=name) (dir:=dir) (f:=f) (by omega)
 obtain⟨e,m,he,hle,hm,h1,h2,h3⟩:=look_node hv hdq hq hn0 hnode hk0 (name:=name) (by omega)
 have hvd:=hv.vd d (List.mem_of_getElem? hq)
 have key:=hvd.removed (List.mem_of_getElem? hn0) hm ((empty_len h3).1 (by simpa using hem)) he h1
 refine⟨?_,by dsimp only;exact onD_len _ _ _⟩
 dsimp only
 rw[hdq,Int.toNat_natCast,onD_set hq,show(lookL f dir name).1.2=m.ino by rw[hle];exact h1,←hino]
 exact hv.set_ key
theorem set_okay{f:Fls}(hv:FlsV f)(a:Fil)(mode uid gid:Int):(setL05 f a mode uid gid).2=0→FlsV (setL05 f a mode uid gid).1∧(setL05 f a mode uid gid).1.length=f.length:=by
 unfold setL05
 split
 ·intro h;exact absurd h (by decide)
 rename_i hh
 split
 ·intro h;exact absurd h (by decide)
 rename_i hp
 intro _
 obtain⟨q,i,d,m,haq,hq,hm,hmi,hnm2,hng⟩:=at_ok (f:=f) (a:=a) (by simpa using hh)
 have hvd:=hv.vd d (List.mem_of_getElem? hq)
 have key:=hvd.attrs (List.mem_of_getElem? hm) mode uid gid (by rw[←hng];simpa using hp)
 refine⟨?_,by dsimp only;exact onD_len _ _ _⟩
 dsimp only
 rw[haq,Int.toNat_natCast,onD_set hq,←hmi]
 exact hv.set_ key
theorem make_okay{f:Fls}(hv:FlsV f)(dir:Fil)(name:Str)(n:Nod):Okay f (mkL f dir name n):=by
 unfold mkL
 split
 ·rename_i h;exact okay_err h
 rename_i hp
 split
 ·exact okay_err (by decide)
 rename_i hpl
 split
 ·exact okay_err (by decide)
 rename_i hl
 obtain⟨q,i,d,n0,hdq,hq,hn0,hino,hidx,hnode,hk0,hnm⟩:=place_ok (name:=name) (dir:=dir) (f:=f) (by omega)
 have hat:atI f dir.1=some d:=by rw[hdq,atI_nat,hq]
 rw[hat]
 simp only
 split
 ·exact okay_err (by decide)
 rename_i hc
 intro _
 have hvd:=hv.vd d (List.mem_of_getElem? hq)
 have hnm2:=hvd.nextM
 have key:=hvd.make (List.mem_of_getElem? hn0) hk0 hnm (look_no hnode hk0 hl).1 (n:=n) (by simpa using hpl) (by omega) (by omega) (full_no hnode (fun h=>hc (.inr (.inr h))))
 refine⟨?_,by simp⟩
 dsimp only
 rw[hdq,Int.toNat_natCast,←hino]
 exact hv.set_ key
theorem dropI_updI{ns:List Nod}{a o:Int}{g:Nod→Nod}(hi:∀n,(g n).ino=n.ino)(he:∀n,(g n).entries=n.entries):dropI (updI ns a g) o=updI (dropI ns o) a g:=by
 have hc:cntN o (updI ns a g)=cntN o ns:=by
  unfold cntN
  congr 1
  unfold updI
  rw[List.flatMap_map]
  congr 1
  funext n
  split
  ·rw[he]
  rfl
 unfold dropI
 rw[hc]
 unfold updI
 rw[List.filter_map]
 congr 1
 apply List.filter_congr
 intro n _
 simp only[Function.comp]
 split
 ·rw[hi]
 rfl
theorem updI_same{ns:List Nod}{a:Int}{g:Nod→Nod}(h:∀n∈ns,n.ino=a→g n=n):updI ns a g=ns:=by
 unfold updI
 conv=>rhs;rw[←List.map_id ns]
 apply List.map_congr_left
 intro n hn
 split
 ·rename_i e;rw[h n hn e];rfl
 rfl
theorem updI_congr{ns:List Nod}{a:Int}{g g':Nod→Nod}(h:∀n∈ns,n.ino=a→g n=g' n):updI ns a g=updI ns a g':=by
 unfold updI
 apply List.map_congr_left
 intro n hn
 split
 ·rename_i e;rw[h n hn e]
 rfl
theorem bel_anc{f:Fls}{q:Nat}{d:Dvc}(hq:f[q]?=some d)(hd:Asc d.nodes){top:Fil}(ht:top.1=(q:Int)):∀(k n:Nat) (a:Fil),k<n→a.1=(q:Int)→AncN d.nodes k a.2 top.2→belF f top n a=true
 |_,0,_,h,_,_=>by omega
 |0,n+1,a,_,ha,hk=>by
   have e:a.2=top.2:=hk
   unfold belF
   rw[if_neg (by omega),if_pos (Prod.ext (by omega) e)]
 |k+1,n+1,a,h,ha,hk=>by
   obtain⟨m,hm,h1,h2,h3,h4⟩:=hk
   unfold belF
   rw[if_neg (by omega)]
   split
   ·rfl
   have hn:=node_asc ha hq hd hm h1
   refine bel_anc hq hd ht k n _ (by omega) ha ?_
   simp only[nodG,hn,Option.getD_some]
   exact h4
theorem rename_okay{f:Fls}(hv:FlsV f)(src:Fil)(name:Str)(to:Fil)(name2:Str):Okay f (renameL f src name to name2):=by
 unfold renameL
 split
 ·rename_i h;exact okay_err h
 rename_i hord
 obtain⟨hpl1,hpl2⟩:=ord_zero (f:=f) (x:=src) (y:=to) (name:=name) (name2:=name2) (by omega)
 split
 ·rename_i h;exact okay_err h
 rename_i hl1
 split
 ·exact okay_err (by decide)
 rename_i hdev
 split
 ·exact okay_err (by decide)
 rename_i hbel
 split
 ·intro _;exact⟨hv,rfl⟩
 rename_i hsame
 split
 ·rename_i h;exact okay_err h
 rename_i hr2
 intro _
 obtain⟨q,i,d,n1,hsq,hq,hn1,hn1i,hidx,hnode,hk1,hnm1⟩:=place_ok hpl1
 obtain⟨q',i2,d',n2,htq,hq',hn2,hn2i, -,hnode2,hk2,hnm2⟩:=place_ok hpl2
 obtain rfl:q=q':=by omega
 obtain rfl:d=d':=Option.some.inj (hq.symm.trans hq')
 have hvd:=hv.vd d (List.mem_of_getElem? hq)
 obtain⟨e,m,he,hle,hm,hem,he1,hmn⟩:=look_node hv hsq hq hn1 hnode hk1 (name:=name) (by omega)
 have hA2:(lookL f src name).1.2=m.ino:=by rw[hle];exact hem
 have hmoves:dirL f (lookL f src name).1=true↔m.kind=2:=dir_kind hmn
 have hanc:m.kind=2→¬Anc d.nodes n2.ino m.ino:=by
  rintro hmk ⟨k,hk⟩
  have hlen:=hvd.anc_len hm hk
  have:=hvd.len
  refine hbel ⟨hmoves.2 hmk,bel_anc hq hvd.asc (top:=(lookL f src name).1) (by rw[hle];exact hsq) k 17 to (by omega) htq ?_⟩
  rw[hA2,←hn2i]
  exact hk
 have hdiff:n1.ino=n2.ino→name≠name2:=by
  rintro h rfl
  have est:to=src:=Prod.ext (by omega) (by omega)
  subst est
  exact hsame ⟨by omega,rfl⟩
 have ho:(entF n2.entries name2=none∧(n2.entries.length<12∨n1.ino=n2.ino)∧(lookL f to name2).1.2=0)∨(∃eo o,entF n2.entries name2=some eo∧o∈d.nodes∧eo.2=(lookL f to name2).1.2∧o.ino=(lookL f to name2).1.2∧(lookL f to name2).1.2≠m.ino∧o.entries=[]):=by
  have hr3:ren2L f src to (lookL f src name).1 (lookL f to name2).1 (lookL f to name2).2=0:=by omega
  unfold ren2L at hr3
  by_cases h0:(lookL f to name2).2=0
  ·right
   rw[if_pos h0]at hr3
   obtain⟨eo,o,heo,hleo,hom,heoi,heo1,hon⟩:=look_node hv htq hq hn2 hnode2 hk2 (name:=name2) h0
   have hO2:(lookL f to name2).1.2=eo.2:=by rw[hleo]
   refine⟨eo,o,heo,hom,hO2.symm,by rw[hO2,heoi],?_,?_⟩
   ·intro h
    refine hsame ⟨h0,Prod.ext ?_ (h.trans hA2.symm)⟩
    rw[hleo,hle];exact htq.trans hsq.symm
   have hdo:=dir_kind hon
   by_cases hok:o.kind=2
   ·rw[if_neg (fun h=>by
       rw[if_pos h]at hr3;exact absurd hr3 (by decide))]at hr3
    rw[if_neg (fun h=>by rw[hdo.2 hok]at h;exact absurd h.1 (by decide))]at hr3
    split at hr3
    ·exact absurd hr3 (by decide)
    rename_i h5
    refine(empty_len hon).1 ?_
    cases hem2:emptyL f (lookL f to name2).1 with
    |true=>rfl
    |false=>exact absurd ⟨hdo.2 hok,hem2⟩ h5
   exact(hvd.leaf o hom hok).2
  left
  rw[if_neg h0]at hr3
  obtain⟨h1,h2⟩:=look_no hnode2 hk2 h0
  refine⟨h1,?_,by rw[h2]⟩
  split at hr3
  ·exact absurd hr3 (by decide)
  rename_i h3
  by_cases hfl:fullL f to=true
  ·right
   have:src=to:=Classical.byContradiction fun h=>h3 ⟨hfl,h⟩
   rw[hn1i,hn2i,this]
  left;exact full_no hnode2 hfl
 have key:=hvd.renamed (List.mem_of_getElem? hn1) (List.mem_of_getElem? hn2) hm hk2 he hem hnm2 hdiff hanc ho
 refine⟨?_,by dsimp only;exact onD_len _ _ _⟩
 dsimp only
 rw[htq,Int.toNat_natCast,onD_set hq]
 have hns:renPar (renNs d.nodes src name to name2 (lookL f src name).1 (lookL f to name2).1 (lookL f to name2).2) (lookL f src name).1.2 to.2 (dirL f (lookL f src name).1)=dropI (renD d.nodes n1.ino n2.ino name name2 m.ino) (lookL f to name2).1.2:=by
  rw[←renD_eq,hA2,←hn2i]
  have hY:∀y∈entD (entD d.nodes n1.ino name 0) n2.ino name2 m.ino,y.ino=m.ino→y.kind=m.kind:=by
   intro y hy hyi
   obtain⟨y1,h1,w1⟩:=mem_entD hy
   obtain⟨y2,h2,w2⟩:=mem_entD h1
   have:y2=m:=asc_eq hvd.asc h2 hm (by rw[←w2.ino,←w1.ino];exact hyi)
   rw[w1.kind,w2.kind,this]
  have hpos:∀y∈entD (entD d.nodes n1.ino name 0) n2.ino name2 m.ino,1≤y.ino:=by
   intro y hy
   obtain⟨y1,h1,w1⟩:=mem_entD hy
   obtain⟨y2,h2,w2⟩:=mem_entD h1
   rw[w1.ino,w2.ino]
   exact hvd.pos h2
  have hset:dropI (updI (entD (entD d.nodes n1.ino name 0) n2.ino name2 m.ino) m.ino (setPar n2.ino)) (lookL f to name2).1.2=updI (dropI (entD (entD d.nodes n1.ino name 0) n2.ino name2 m.ino) (lookL f to name2).1.2) m.ino (setPar n2.ino):=dropI_updI (fun n=>by unfold setPar;split<;>rfl) (fun n=>by unfold setPar;split<;>rfl)
  rw[hset]
  have hN:renNs d.nodes src name to name2 (lookL f src name).1 (lookL f to name2).1 (lookL f to name2).2=dropI (entD (entD d.nodes n1.ino name 0) n2.ino name2 m.ino) (lookL f to name2).1.2:=by
   unfold renNs
   rw[hA2,←hn1i,←hn2i]
   split
   ·rfl
   rename_i h0
   rw[(look_no hnode2 hk2 h0).2]
   unfold dropI
   symm
   rw[List.filter_eq_self]
   intro y hy
   have:=hpos y hy
   exact decide_eq_true (.inl (by show y.ino≠0;omega))
  rw[hN]
  have hsub:∀y∈dropI (entD (entD d.nodes n1.ino name 0) n2.ino name2 m.ino) (lookL f to name2).1.2,y∈entD (entD d.nodes n1.ino name 0) n2.ino name2 m.ino:=fun y hy=>(mem_dropI.1 hy).1
  unfold renPar
  split
  ·rename_i hmv
   refine updI_congr fun y hy hyi=>?_
   unfold setPar
   rw[if_pos ((hY y (hsub y hy) hyi).trans (hmoves.1 hmv))]
  rename_i hmv
  refine(updI_same fun y hy hyi=>?_).symm
  unfold setPar
  rw[if_neg (fun h=>hmv (hmoves.2 ((hY y (hsub y hy) hyi).symm.trans h)))]
 rw[hns]
 exact hv.set_ key
end Go.Proofs.YtbglbmnhgbgelaaGreatDoor
namespace Go.Proofs.YtbglbmnhgbgelaaGreatDoor
open Go.RowKit
def spcR(R:Spc×Int):AV:= .tup [.agg (spcA R.1), .v (.int .i64 R.2)]
def spc0:Spc:=⟨[],[]⟩
theorem sperr_le(e:Int):LeA (.tup [.agg [.v (.slice none 0 0), .v (.slice none 0 0)], .v (.int .i64 e)]) (spcR (spc0,e)):=(by repeat (first|exact LeA.refl _|exact LeA.nil _|exact LeL.refl _|refine LeA.agg ?_|refine LeA.tup ?_|exact LeL.nil|refine LeL.cons ?_ ?_|exact LeA.any _))
def addL(s:Spc)(dev:Int)(a:Fil):Spc×Int:=
 if dev<1∨(s.files.length:Int)≤dev then(spc0,22)else if hasG s.files a=false then(spc0,2)else if(nodG s.files a).kind≠2 then(spc0,20)else if mtdL s a.1=false∨a.1=dev then(spc0,22)else
 if mtdL s dev=true∨(covL s a).isSome=true then(spc0,16)else(⟨s.files,s.mounts++[(dev,a)]⟩,0)
def remL(s:Spc)(dev:Int):Spc×Int:=
 if dev=0∨mtdL s dev=false then(spc0,22)else if(s.mounts.any fun m=>decide (m.2.1=dev))=true then(spc0,16)else(⟨s.files,s.mounts.filter fun m=>decide (m.1≠dev)⟩,0)
section
set_option maxRecDepth 10000
set_option maxHeartbeats 1000000
theorem RspcT(s:Spc)(hs:SpcB s):AFnT Tryz.prog 88 [.agg (spcA s)] (fun g=> .agg [.sl 2 (s.files.map dvcA) none, .sl 3 (s.mounts.map mntA) g]) (149,3,s.mounts.map mntA):=by
 have hfew:=hs.few
 refine enter Tryz.func88 rfl rfl rfl rfl rfl 0 rfl ?_
 refine w_ (b_ (h:=al_ (h:=e_ (q_ (yk_ ([(0,spcA s)]) 8 (h:=df_ 0 (h:=?_)))))))
 first|refine dl_ 1 (h:=?_)|refine tk_ 1 rfl (fun _ hS=>st_loadBE (row:=spcA s) rfl (kb hS rfl) (Nat.le_of_ble_eq_true rfl) rfl ⟨rfl,rfl⟩) ?_
 refine df_ 3 (h:=?_)
 first|refine dl_ 4 (h:=?_)|refine tk_ 4 rfl (fun _ hS=>st_loadBE (row:=spcA s) rfl (kb hS rfl) (Nat.le_of_ble_eq_true rfl) rfl ⟨rfl,rfl⟩) ?_
 refine c_ 2 rfl (q_call (RcopyF s.files hs.files) ?_)
 rintro r rfl
 refine o_ (h:=?_)
 first|refine c_ 5 rfl (s_append rfl rfl rfl (by simp;omega) (by repeat constructor) ?_)|refine c_ 5 rfl (s_append0 rfl rfl (by simp;omega) (by repeat constructor) ?_)
 refine o_ (h:=dbd_ 6 (h:=?_))
 refine c0_ 7 rfl (s_store rfl rfl rfl rfl rfl rfl (by repeat constructor) (by repeat constructor) ?_)
 refine o_ (h:=z_ (h:=t_ (aw_ret (?_))))
 refine rt_ (some 0) (h5:=(LeA.refl _)) (h6:=⟨rfl,rfl,rfl⟩)
theorem Radd(s:Spc)(dev:Int)(a:Fil)(hs:SpcB s):AFn Tryz.prog 49 [.agg (spcA s), .v (.int .i64 dev), .agg (filA a)] (fun r=>r=spcR (addL s dev a)):=by
 have hfew:=hs.few
 refine enter Tryz.func49 rfl rfl rfl rfl rfl 0 rfl ?_
 refine w_ (b_ (h:=b_ (h:=al_ (h:=a_ (h:=e_ (q_ (w_ (m_ (h:=lt_ (h:=m_ (h:=?_)))))))))))
 refine al_gs false rfl rfl (fun hb1=>?_) (fun hb1=>?_)
 ·have hc1:=bp hb1
  refine g0_ (h:=g0_ (h:=g0_ (h:=g0_ (h:=g0_ (h:=g0_ (h:=pt_ (h:=e_ (cy_ (h:=w_ (bd_ (h:=s_ (h:=a_ (h:=e_ (aw_ret (x_thenR (?_))))))))))))))))
  refine rt_ (r:=spcR (addL s dev a)) none (h5:=?_) (h6:=⟨rfl,rfl,rfl⟩)
  rw[addL,if_pos (.inl hc1)]
  exact sperr_le _
 have hc1:=bp hb1
 refine m_ (h:=f_ (h:=f_ (h:=l_ (h:=n_ (h:=ge_ (h:=pf_ (h:=e_ (?_))))))))
 refine aw_cond rfl (fun hb2=>?_) (fun hb2=>?_)
 ·have hc2:=bp hb2
  refine w_ (bd_ (h:=s_ (h:=a_ (h:=e_ (aw_ret (x_thenR (?_)))))))
  refine rt_ (r:=spcR (addL s dev a)) none (h5:=?_) (h6:=⟨rfl,rfl,rfl⟩)
  rw[addL,if_pos (.inr (by rw[List.length_map]at hc2;omega))]
  exact sperr_le _
 have hc2:=bp hb2
 refine kt_ (w_ (f_ (h:=l_ (h:=l_ (h:=?_)))))
 refine al_p rfl (q_call (Rnode s.files a hs.files) ?_)
 rintro r rfl
 refine m_ (h:=x_ (h:=x_ (h:=al_ (h:=s_ (h:=a_ (h:=e_ (q_ (w_ (m_ (h:=nt_ (h:=e_ (?_))))))))))))
 refine aw_cond rfl (fun hb3=>?_) (fun hb3=>?_)
 ·have hc3:=bp hb3
  refine w_ (bd_ (h:=s_ (h:=a_ (h:=e_ (aw_ret (x_thenR (?_)))))))
  refine rt_ (r:=spcR (addL s dev a)) none (h5:=?_) (h6:=⟨rfl,rfl,rfl⟩)
  rw[addL,if_neg (by rw[List.length_map]at hc2;omega),if_pos hc3]
  exact sperr_le _
 have hc3:=bp hb3
 refine kt_ (q_ (w_ (f_ (h:=l_ (h:=nq_ (h:=e_ (?_)))))))
 refine aw_cond rfl (fun hb4=>?_) (fun hb4=>?_)
 ·have hc4:=bp hb4
  refine w_ (bd_ (h:=s_ (h:=a_ (h:=e_ (aw_ret (x_thenR (?_)))))))
  refine rt_ (r:=spcR (addL s dev a)) none (h5:=?_) (h6:=⟨rfl,rfl,rfl⟩)
  rw[addL,if_neg (by rw[List.length_map]at hc2;omega),if_neg (by simp[hc3]),if_pos hc4]
  exact sperr_le _
 have hc4:=bp hb4
 refine kt_ (q_ (w_ (l_ (h:=f_ (h:=l_ (h:=?_))))))
 refine al_p rfl (q_call (Rmounted s a.1 hs) ?_)
 rintro r rfl
 refine nt_ (h:=m_ (h:=?_))
 refine al_gs false rfl rfl (fun hb5=>?_) (fun hb5=>?_)
 ·have hc5:=bp hb5
  refine g0_ (h:=g0_ (h:=g0_ (h:=g0_ (h:=pt_ (h:=e_ (cy_ (h:=w_ (bd_ (h:=s_ (h:=a_ (h:=e_ (aw_ret (x_thenR (?_))))))))))))))
  refine rt_ (r:=spcR (addL s dev a)) none (h5:=?_) (h6:=⟨rfl,rfl,rfl⟩)
  rw[addL,if_neg (by rw[List.length_map]at hc2;omega),if_neg (by simp[hc3]),if_neg (by simp[hc4]),if_pos (.inl hc5)]
  exact sperr_le _
 have hc5:=bp hb5
 refine f_ (h:=l_ (h:=m_ (h:=eq_ (h:=pf_ (h:=e_ (?_))))))
 refine aw_cond rfl (fun hb6=>?_) (fun hb6=>?_)
 ·have hc6:=bp hb6
  refine w_ (bd_ (h:=s_ (h:=a_ (h:=e_ (aw_ret (x_thenR (?_)))))))
  refine rt_ (r:=spcR (addL s dev a)) none (h5:=?_) (h6:=⟨rfl,rfl,rfl⟩)
  rw[addL,if_neg (by rw[List.length_map]at hc2;omega),if_neg (by simp[hc3]),if_neg (by simp[hc4]),if_pos (.inr hc6)]
  exact sperr_le _
 have hc6:=bp hb6
 refine kt_ (q_ (w_ (l_ (h:=m_ (h:=?_)))))
 refine al_p rfl (q_call (Rmounted s dev hs) ?_)
 rintro r rfl
 refine m_ (h:=?_)
 refine al_gs false rfl rfl (fun hb7=>?_) (fun hb7=>?_)
 ·have hc7:=bp hb7
  refine g0_ (h:=g0_ (h:=g0_ (h:=pt_ (h:=e_ (cy_ (h:=w_ (bd_ (h:=s_ (h:=a_ (h:=e_ (aw_ret (x_thenR (?_)))))))))))))
  refine rt_ (r:=spcR (addL s dev a)) none (h5:=?_) (h6:=⟨rfl,rfl,rfl⟩)
  rw[addL,if_neg (by rw[List.length_map]at hc2;omega),if_neg (by simp[hc3]),if_neg (by simp[hc4]),if_neg (by simp[hc5,hc6]),if_pos (.inl hc7)]
  exact sperr_le _
 have hc7:=bp hb7
 refine l_ (h:=l_ (h:=?_))
 refine g_y (q_call (Rcovered s a hs) ?_)
 rintro r rfl
 refine pf_ (h:=e_ (?_))
 refine aw_cond rfl (fun hb8=>?_) (fun hb8=>?_)
 ·have hc8:=bp hb8
  refine w_ (bd_ (h:=s_ (h:=a_ (h:=e_ (aw_ret (x_thenR (?_)))))))
  refine rt_ (r:=spcR (addL s dev a)) none (h5:=?_) (h6:=⟨rfl,rfl,rfl⟩)
  rw[addL,if_neg (by rw[List.length_map]at hc2;omega),if_neg (by simp[hc3]),if_neg (by simp[hc4]),if_neg (by simp[hc5,hc6]),if_pos (.inr hc8)]
  exact sperr_le _
 have hc8:=bp hb8
 refine kt_ (w_ (l_ (h:=?_)))
 refine al_p rfl (s_callT rfl (by repeat (first|exact Args.nil|refine Args.cons _ _ _ _ _ rfl (argOk_clean rfl) ?_|refine Args.cons _ _ _ _ _ rfl (argOk_nil _) ?_|refine Args.cons _ _ _ _ _ rfl (argOk_era _) ?_|refine Args.cons _ _ _ _ _ rfl (argOk_le rfl (by repeat (first|exact LeA.refl _|exact LeA.nil _|exact LeL.refl _|refine LeA.agg ?_|refine LeA.tup ?_|exact LeL.nil|refine LeL.cons ?_ ?_|exact LeA.any _))) ?_)) (RspcT s hs) (fun _=>rfl) (by repeat constructor) ?_)
 refine al_ (h:=s_ (h:=e_ (w_ (f_ (h:=l_ (h:=m_ (h:=l_ (h:=bd_ (h:=bs_ (h:=?_))))))))))
 first|refine al_p rfl (s_append rfl rfl rfl (by simp;omega) (by repeat constructor) ?_)|refine al_p rfl (s_append0 rfl rfl (by simp;omega) (by repeat constructor) ?_)
 refine f_ (h:=s_ (h:=e_ (w_ (l_ (h:=s_ (h:=a_ (h:=e_ (aw_ret (?_)))))))))
 refine e_ret ?_
 rw[addL,if_neg (by rw[List.length_map]at hc2;omega),if_neg (by simp[hc3]),if_neg (by simp[hc4]),if_neg (by simp[hc5,hc6]),if_neg (by simp[hc7,hc8])]
 simp only[spcR,spcA,List.map_append]
 rfl
end
theorem tmod_rng(z:Int){n:Int}(h:1≤n): -n<z.tmod n∧z.tmod n<n:=⟨Int.lt_tmod_of_pos z (by omega),Int.tmod_lt_of_pos z (by omega)⟩
theorem size_app(a b:ByteArray):(a++b).size=a.size+b.size:=ByteArray.size_append
section
set_option maxRecDepth 10000
set_option maxHeartbeats 1000000
theorem Gnew(l:List Int):ACall Tryz.prog 12 [.sl 1 (l.map intA) none] [] (fun r b t=>r= .bp 0 0∧b=[srcA l 0]∧t=[]):=by
 refine enter Tryz.func12 rfl rfl rfl rfl rfl 1 rfl ?_
 refine w_ (a_ (h:=e_ (w_ (m_ (h:=bd_ (h:=b_ (h:=a_ (h:=e_ (aw_ret (?_))))))))))
 refine rt_ none (h5:=(LeA.refl _)) (h6:=⟨rfl,rfl,rfl⟩)
theorem Gn(l:List Int)(a:Nat)(n:Int)(ha:a≤1000000000000)(hn:n≤1000000000000):GenF Tryz.prog 21 l a [.v (.int .i64 n)] 1 (fun r=>∃k:Int,r= .v (.int .i64 k)∧0≤k∧(1≤n→k<n)∧(n<1→k=0)):=by
 refine enter Tryz.func21 rfl rfl rfl rfl rfl 1 rfl ?_
 refine w_ (a_ (h:=e_ (q_ (w_ (m_ (h:=lt_ (h:=e_ (?_))))))))
 refine aw_cond rfl (fun hb1=>?_) (fun hb1=>?_)
 ·have hc1:=bp hb1
  refine w_ (a_ (h:=e_ (aw_ret (x_thenR (?_)))))
  refine rt_ none (h5:=(LeA.refl _)) (h6:=⟨_,rfl,rfl,a,by omega,rfl,0,rfl,by omega,by omega,by omega⟩)
 have hc1:=bp hb1
 refine kt_ (w_ (m_ (h:=k_ (h:=f_ (h:=l_ (h:=ad_ (h:=k_ (h:=f_ (h:=s_ (h:=e_ (w_ (m_ (h:=k_ (h:=f_ (h:=l_ (h:=ml_ (h:=a_ (h:=e_ (q_ (q_ (yr_ 10 (h:=dm_ 0 (h:=dk_ 1 (h:=?_))))))))))))))))))))))))
 refine df_ 2 (h:=dl_ 3 (h:=dm_ 4 (h:=dk_ 5 (h:=df_ 6 (h:=dl_ 7 (h:=dn_ 8 (h:=dle_ 9 (h:=z_ (h:=t_ (?_))))))))))
 refine aw_cond rfl (fun hb2=>?_) (fun hb2=>?_)
 ·have hc2:=bp hb2
  have hlt:a<l.length:=by simp at hc2;omega
  obtain⟨z,hz⟩:∃z,(l.map intA)[a]?=some (intA z):=⟨l[a],by simp[hlt]⟩
  have tz:=tmod_rng z (n:=n) (by omega)
  refine yr_ 12 (h:=dm_ 0 (h:=dk_ 1 (h:=df_ 2 (h:=dl_ 3 (h:=dm_ 4 (h:=dk_ 5 (h:=df_ 6 (h:=dl_ 7 (h:=dsb_ 8 (h:=?_))))))))))
  refine r_y (i:=9) rfl (st_index (n:=a) rfl rfl (by omega) hz ⟨rfl,rfl⟩) ?_
  refine dl_ 10 (h:=da_ 11 (h:=z_ (h:=t_ (w_ (m_ (h:=m_ (h:=?_)))))))
  refine al_p rfl (st_rem rfl rfl (by omega) ?_)
  refine a_ (h:=e_ (q_ (w_ (m_ (h:=lt_ (h:=e_ (?_)))))))
  refine aw_cond rfl (fun hb3=>?_) (fun hb3=>?_)
  ·have hc3:=bp hb3
   refine aw_region (m_ (h:=m_ (h:=?_)))
   refine al_p rfl (st_add64 rfl rfl (by omega) ?_)
   refine a_ (h:=e_ (w_ (m_ (h:=a_ (h:=e_ (aw_ret (?_)))))))
   refine rt_ none (h5:=(LeA.refl _)) (h6:=⟨_,rfl,rfl,a+1,by omega,rfl,_,rfl,by omega,by omega,by omega⟩)
  have hc3:=bp hb3
  refine kt_ (w_ (m_ (h:=a_ (h:=e_ (aw_ret (?_))))))
  refine rt_ none (h5:=(LeA.refl _)) (h6:=⟨_,rfl,rfl,a+1,by omega,rfl,_,rfl,by omega,by omega,by omega⟩)
 have hc2:=bp hb2
 have tz:=tmod_rng (IntKind.i64.wrap (((a:Int)+1) * 7)) (n:=n) (by omega)
 refine kt_ (w_ (m_ (h:=m_ (h:=?_))))
 refine al_p rfl (st_rem rfl rfl (by omega) ?_)
 refine a_ (h:=e_ (q_ (w_ (m_ (h:=lt_ (h:=e_ (?_)))))))
 refine aw_cond rfl (fun hb4=>?_) (fun hb4=>?_)
 ·have hc4:=bp hb4
  refine aw_region (m_ (h:=m_ (h:=?_)))
  refine al_p rfl (st_add64 rfl rfl (by omega) ?_)
  refine a_ (h:=e_ (w_ (m_ (h:=a_ (h:=e_ (aw_ret (?_)))))))
  refine rt_ none (h5:=(LeA.refl _)) (h6:=⟨_,rfl,rfl,a+1,by omega,rfl,_,rfl,by omega,by omega,by omega⟩)
 have hc4:=bp hb4
 refine kt_ (w_ (m_ (h:=a_ (h:=e_ (aw_ret (?_))))))
 refine rt_ none (h5:=(LeA.refl _)) (h6:=⟨_,rfl,rfl,a+1,by omega,rfl,_,rfl,by omega,by omega,by omega⟩)
theorem Grange(l:List Int)(a:Nat)(lo hi:Int)(ha:a≤1000000000000)(h1: -1000000≤lo)(h2:lo≤hi)(h3:hi≤1000000):GenF Tryz.prog 14 l a [.v (.int .i64 lo), .v (.int .i64 hi)] 1 (fun r=>∃k:Int,r= .v (.int .i64 k)∧lo≤k∧k≤hi):=by
 refine enter Tryz.func14 rfl rfl rfl rfl rfl 1 rfl ?_
 refine w_ (a_ (h:=e_ (w_ (m_ (h:=m_ (h:=m_ (h:=m_ (h:=sb_ (h:=ad_ (h:=?_))))))))))
 refine al_p rfl (s_gen 0 (hc:=Gn l a (hi - lo+1) ha (by omega)) (hR:=?_))
 rintro r a1 ha1 ⟨k,rfl,k1,k2,k3⟩
 refine⟨rfl,_,(by repeat constructor),?_⟩
 refine ad_ (h:=a_ (h:=e_ (aw_ret (?_))))
 refine rt_ none (h5:=(LeA.refl _)) (h6:=⟨_,rfl,rfl,a1,by omega,rfl,_,rfl,by omega,by omega⟩)
theorem Gpick(l:List Int)(a:Nat)(rows:List (List AV))(p:Int→Bool)(ha:a≤1000000000000)(h0:Nat.blt 0 rows.length=true)(h1:Nat.ble rows.length 1000=true)(hp:allI p rows=true):GenF Tryz.prog 32 l a [.sl 1 rows none] 1 (fun r=>∃z:Int,r= .v (.int .i64 z)∧p z=true):=by
 have h0':0<rows.length:=Nat.le_of_ble_eq_true h0
 have h1':rows.length≤1000:=Nat.le_of_ble_eq_true h1
 refine enter Tryz.func32 rfl rfl rfl rfl rfl 1 rfl ?_
 refine w_ (a_ (h:=e_ (w_ (m_ (h:=m_ (h:=m_ (h:=n_ (h:=?_))))))))
 refine al_p rfl (s_gen 0 (hc:=Gn l a rows.length ha (by omega)) (hR:=?_))
 rintro r a1 ha1 ⟨k,rfl,k1,k2,k3⟩
 refine⟨rfl,_,(by repeat constructor),?_⟩
 obtain⟨m,rfl⟩:=Int.eq_ofNat_of_zero_le k1
 obtain⟨z,hz,pz⟩:=allI_get hp (i:=m) (by omega)
 refine al_p rfl (st_index (n:=m) rfl rfl rfl hz ?_)
 refine l_ (h:=a_ (h:=e_ (aw_ret (?_))))
 refine rt_ none (h5:=(LeA.refl _)) (h6:=⟨_,rfl,rfl,a1,by omega,rfl,z,rfl,pz⟩)
theorem Gword(l:List Int)(a:Nat)(rows:List (List AV))(p:ByteArray→Bool)(ha:a≤1000000000000)(h0:Nat.blt 0 rows.length=true)(h1:Nat.ble rows.length 1000=true)(hp:allS p rows=true):GenF Tryz.prog 50 l a [.sl 1 rows none] 1 (fun r=>∃z:ByteArray,r= .v (.string z)∧p z=true):=by
 have h0':0<rows.length:=Nat.le_of_ble_eq_true h0
 have h1':rows.length≤1000:=Nat.le_of_ble_eq_true h1
 refine enter Tryz.func50 rfl rfl rfl rfl rfl 1 rfl ?_
 refine w_ (a_ (h:=e_ (w_ (m_ (h:=m_ (h:=m_ (h:=n_ (h:=?_))))))))
 refine al_p rfl (s_gen 0 (hc:=Gn l a rows.length ha (by omega)) (hR:=?_))
 rintro r a1 ha1 ⟨k,rfl,k1,k2,k3⟩
 refine⟨rfl,_,(by repeat constructor),?_⟩
 obtain⟨m,rfl⟩:=Int.eq_ofNat_of_zero_le k1
 obtain⟨z,hz,pz⟩:=allS_get hp (i:=m) (by omega)
 refine al_p rfl (st_index (n:=m) rfl rfl rfl hz ?_)
 refine l_ (h:=a_ (h:=e_ (aw_ret (?_))))
 refine rt_ none (h5:=(LeA.refl _)) (h6:=⟨_,rfl,rfl,a1,by omega,rfl,z,rfl,pz⟩)
theorem Gname(l:List Int)(a:Nat)(ha:a≤100000000000):GenF Tryz.prog 23 l a [] 2 (fun r=>∃s:ByteArray,r= .v (.string s)∧s.size≤13):=by
 refine enter Tryz.func23 rfl rfl rfl rfl rfl 1 rfl ?_
 refine w_ (a_ (h:=e_ (q_ (w_ (m_ (h:=?_))))))
 refine al_p rfl (s_gen 0 (hc:=Gn l _ (20) (by omega) (by omega)) (hR:=?_))
 rintro r a1 ha1 ⟨k1,rfl,p1,q1,o1⟩
 refine⟨rfl,_,(by repeat constructor),?_⟩
 refine eq_ (h:=e_ (?_))
 refine aw_cond rfl (fun hb1=>?_) (fun hb1=>?_)
 ·have hc1:=bp hb1
  refine w_ (m_ (h:=bs_ (h:=?_)))
  refine al_p rfl (s_gen 0 (hc:=Gword l _ _ (fun s=>decide (s.size≤13)) (by omega) (by rfl) (by rfl) (by rfl)) (hR:=?_))
  rintro r a2 ha2 ⟨k2,rfl,p2⟩
  refine⟨rfl,_,(by repeat constructor),?_⟩
  refine a_ (h:=e_ (aw_ret (x_thenR (?_))))
  refine rt_ none (h5:=(LeA.refl _)) (h6:=⟨_,rfl,rfl,_,?_,rfl,_,rfl,of_decide_eq_true ‹_›⟩)<;>omega
 have hc1:=bp hb1
 refine kt_ (w_ (m_ (h:=bs_ (h:=?_))))
 refine al_p rfl (s_gen 0 (hc:=Gword l _ _ (fun s=>decide (s.size≤13)) (by omega) (by rfl) (by rfl) (by rfl)) (hR:=?_))
 rintro r a3 ha3 ⟨k3,rfl,p3⟩
 refine⟨rfl,_,(by repeat constructor),?_⟩
 refine a_ (h:=e_ (aw_ret (?_)))
 refine rt_ none (h5:=(LeA.refl _)) (h6:=⟨_,rfl,rfl,_,?_,rfl,_,rfl,of_decide_eq_true ‹_›⟩)<;>omega
theorem Gpath(l:List Int)(a:Nat)(ha:a≤50000000000):GenF Tryz.prog 16 l a [] 20 (fun r=>∃s:ByteArray,r= .v (.string s)∧s.size≤58):=by
 have e1:(⟨#[47]⟩:ByteArray).size=1:=rfl
 have e0:(⟨#[]⟩:ByteArray).size=0:=rfl
 refine enter Tryz.func16 rfl rfl rfl rfl rfl 1 rfl ?_
 refine w_ (a_ (h:=e_ (w_ (a_ (h:=e_ (?_))))))
 refine aw_midI (fun s=>∃(b:Nat) (t:ByteArray),b≤a+1∧t.size≤1∧s=⟨look [(0, .bp 0 0),(3, .v (.string t))],⟨[srcA l b],[]⟩⟩) ?_ ?_
 ·skip
  refine w_ (m_ (h:=?_))
  refine al_p rfl (s_gen 0 (hc:=Gn l _ (6) (by omega) (by omega)) (hR:=?_))
  rintro r a1 ha1 ⟨k1,rfl,p1,q1,o1⟩
  refine⟨rfl,_,(by repeat constructor),?_⟩
  refine gt_ (h:=e_ (?_))
  refine aw_cond rfl (fun hb1=>?_) (fun hb1=>?_)
  ·have hc1:=bp hb1
   refine aw_region (a_ (h:=al_nil (?_)))
   refine x_then ?_
   refine⟨_,⟨_,_,?_,?_,rfl⟩,(wk 1 0)⟩<;>first|omega|exact Nat.le_of_ble_eq_true rfl
  have hc1:=bp hb1
  refine aw_skip (?_)
  refine x_then ?_
  refine⟨_,⟨_,_,?_,?_,rfl⟩,(wk 1 0)⟩<;>first|omega|exact Nat.le_of_ble_eq_true rfl
 rintro s ⟨b,t0,hb,ht0,rfl⟩
 refine w_ (m_ (h:=bs_ (h:=?_)))
 refine al_p rfl (s_gen 0 (hc:=Gpick l _ _ (fun z=>decide (0≤z∧z≤4)) (by omega) (by rfl) (by rfl) (by rfl)) (hR:=?_))
 rintro r a2 ha2 ⟨k2,rfl,p2⟩
 refine⟨rfl,_,(by repeat constructor),?_⟩
 obtain⟨hz1,hz2⟩:=of_decide_eq_true p2
 obtain⟨m,rfl⟩:=Int.eq_ofNat_of_zero_le hz1
 refine a_ (h:=e_ (q_ (w_ (a_ (h:=e_ (aw_block (?_)))))))
 refine aw_loopW (fun n s=>∃(j b1:Nat) (t:ByteArray),j≤m∧n=m - j∧b1≤b+1+4 * j∧t.size≤1+14 * j∧s=⟨look [(0, .bp 0 0),(3, .v (.string t)),(4, .v (.int .i64 (m:Int))),(5, .v (.int .i64 (j:Int)))],⟨[srcA l b1],[]⟩⟩) (m) ((wk 1 0)) (⟨0,_,t0,by omega,rfl,by omega,by omega,rfl⟩) ?_
 rintro n s ⟨j,b1,t,hj,rfl,hb1,ht,rfl⟩
 refine q_ (w_ (m_ (h:=m_ (h:=lt_ (h:=e_ (?_))))))
 refine aw_cond rfl (fun hb2=>?_) (fun hb2=>?_)
 ·have hc2:=bp hb2
  refine kt_ (?_)
  refine aw_midI (fun s=>∃(b3:Nat) (t1:ByteArray),b3≤b1+4∧t1.size≤1+14 * (j+1)∧s=⟨look [(0, .bp 0 0),(3, .v (.string t1)),(4, .v (.int .i64 (m:Int))),(5, .v (.int .i64 (j:Int)))],⟨[srcA l b3],[]⟩⟩) ?_ ?_
  ·skip
   refine aw_block (q_ (w_ (m_ (h:=gt_ (h:=e_ (?_))))))
   refine aw_cond rfl (fun hb3=>?_) (fun hb3=>?_)
   ·have hc3:=bp hb3
    refine aw_region (m_ (h:=?_))
    refine al_p rfl (st_addS rfl rfl (by(try simp only[size_app]);omega) ?_)
    refine a_ (h:=e_ (w_ (m_ (h:=?_))))
    refine al_p rfl (s_gen 0 (hc:=Gn l _ (8) (by omega) (by omega)) (hR:=?_))
    rintro r a3 ha3 ⟨k3,rfl,p3,q3,o3⟩
    refine⟨rfl,_,(by repeat constructor),?_⟩
    refine eq_ (h:=e_ (?_))
    refine aw_cond rfl (fun hb4=>?_) (fun hb4=>?_)
    ·have hc4:=bp hb4
     refine aw_region (m_ (h:=m_ (h:=bs_ (h:=?_))))
     refine al_p rfl (s_gen 0 (hc:=Gword l _ _ (fun s=>decide (s.size≤13)) (by omega) (by rfl) (by rfl) (by rfl)) (hR:=?_))
     rintro r a4 ha4 ⟨k4,rfl,p4⟩
     refine⟨rfl,_,(by repeat constructor),?_⟩
     have hw:=of_decide_eq_true p4
     refine al_p rfl (st_addS rfl rfl (by(try simp only[size_app]);omega) ?_)
     refine a_ (h:=al_nil (x_blockN (?_)))
     refine x_then ?_
     refine⟨_,⟨_,_,?_,?_,rfl⟩,(wk 1 0)⟩<;>(try simp only[size_app])<;>omega
    have hc4:=bp hb4
    refine aw_region (m_ (h:=m_ (h:=?_)))
    refine al_p rfl (s_gen 0 (hc:=Gname l _ (by omega)) (hR:=?_))
    rintro r a5 ha5 ⟨k5,rfl,hw⟩
    refine⟨rfl,_,(by repeat constructor),?_⟩
    refine al_p rfl (st_addS rfl rfl (by(try simp only[size_app]);omega) ?_)
    refine a_ (h:=al_nil (x_blockN (?_)))
    refine x_then ?_
    refine⟨_,⟨_,_,?_,?_,rfl⟩,(wk 1 0)⟩<;>(try simp only[size_app])<;>omega
   have hc3:=bp hb3
   refine kt_ (w_ (m_ (h:=?_)))
   refine al_p rfl (s_gen 0 (hc:=Gn l _ (8) (by omega) (by omega)) (hR:=?_))
   rintro r a6 ha6 ⟨k6,rfl,p6,q6,o6⟩
   refine⟨rfl,_,(by repeat constructor),?_⟩
   refine eq_ (h:=e_ (?_))
   refine aw_cond rfl (fun hb5=>?_) (fun hb5=>?_)
   ·have hc5:=bp hb5
    refine aw_region (m_ (h:=m_ (h:=bs_ (h:=?_))))
    refine al_p rfl (s_gen 0 (hc:=Gword l _ _ (fun s=>decide (s.size≤13)) (by omega) (by rfl) (by rfl) (by rfl)) (hR:=?_))
    rintro r a7 ha7 ⟨k7,rfl,p7⟩
    refine⟨rfl,_,(by repeat constructor),?_⟩
    have hw:=of_decide_eq_true p7
    refine al_p rfl (st_addS rfl rfl (by(try simp only[size_app]);omega) ?_)
    refine a_ (h:=al_nil (x_blockN (?_)))
    refine x_then ?_
    refine⟨_,⟨_,_,?_,?_,rfl⟩,(wk 1 0)⟩<;>(try simp only[size_app])<;>omega
   have hc5:=bp hb5
   refine aw_region (m_ (h:=m_ (h:=?_)))
   refine al_p rfl (s_gen 0 (hc:=Gname l _ (by omega)) (hR:=?_))
   rintro r a8 ha8 ⟨k8,rfl,hw⟩
   refine⟨rfl,_,(by repeat constructor),?_⟩
   refine al_p rfl (st_addS rfl rfl (by(try simp only[size_app]);omega) ?_)
   refine a_ (h:=al_nil (x_blockN (?_)))
   refine x_then ?_
   refine⟨_,⟨_,_,?_,?_,rfl⟩,(wk 1 0)⟩<;>(try simp only[size_app])<;>omega
  rintro s ⟨b3,t1,hb3,ht1,rfl⟩
  refine aw_region (m_ (h:=ad_ (h:=a_ (h:=al_nil (?_)))))
  refine x_then ?_
  refine⟨_,_,?_,⟨j+1,_,_,by omega,rfl,?_,?_,rfl⟩,(wk 1 0)⟩<;>omega
 have hc2:=bp hb2
 refine aw_exit (x_thenE (x_thenE (ABlock_out (t_ (q_ (w_ (m_ (h:=?_))))))))
 refine al_p rfl (s_gen 0 (hc:=Gn l _ (8) (by omega) (by omega)) (hR:=?_))
 rintro r a9 ha9 ⟨k9,rfl,p9,q9,o9⟩
 refine⟨rfl,_,(by repeat constructor),?_⟩
 refine eq_ (h:=e_ (?_))
 refine aw_cond rfl (fun hb6=>?_) (fun hb6=>?_)
 ·have hc6:=bp hb6
  refine aw_region (m_ (h:=?_))
  refine al_p rfl (st_addS rfl rfl (by(try simp only[size_app]);omega) ?_)
  refine a_ (h:=e_ (w_ (m_ (h:=a_ (h:=e_ (aw_ret (?_)))))))
  refine rt_ none (h5:=(LeA.refl _)) (h6:=⟨_,rfl,rfl,_,?_,rfl,_,rfl,?_⟩)<;>(try simp only[size_app])<;>omega
 have hc6:=bp hb6
 refine kt_ (w_ (m_ (h:=a_ (h:=e_ (aw_ret (?_))))))
 refine rt_ none (h5:=(LeA.refl _)) (h6:=⟨_,rfl,rfl,_,?_,rfl,_,rfl,?_⟩)<;>(try simp only[size_app])<;>omega
end
section
set_option maxRecDepth 10000
set_option maxHeartbeats 1000000
theorem Gfile(l:List Int)(a:Nat)(f:Fls)(ha:a≤100000000000)(hf:FlsB f)(hne:∀d∈f,0<d.nodes.length):GenF Tryz.prog 22 l a [.agg (flsA f)] 4 (fun r=>∃x:Fil,r= .agg (filA x)):=by
 have hfew:=hf.few
 have hml:(f.map dvcA).length=f.length:=by simp
 refine enter Tryz.func22 rfl rfl rfl rfl rfl 1 rfl ?_
 refine w_ (b_ (h:=al_ (h:=e_ (w_ (m_ (h:=f_ (h:=l_ (h:=n_ (h:=?_)))))))))
 refine al_p rfl (s_gen 0 (hc:=Gn l _ ((f.map dvcA).length:Int) (by omega) (by omega)) (hR:=?_))
 rintro r a1 ha1 ⟨k1,rfl,p1,q1,o1⟩
 refine⟨rfl,_,(by repeat constructor),?_⟩
 obtain⟨m,rfl⟩:=Int.eq_ofNat_of_zero_le p1
 refine a_ (h:=e_ (q_ (w_ (f_ (h:=l_ (h:=n_ (h:=eq_ (h:=m_ (h:=?_)))))))))
 refine al_gs false rfl rfl (fun hb1=>?_) (fun hb1=>?_)
 ·have hc1:=bp hb1
  refine g0_ (h:=g0_ (h:=g0_ (h:=pt_ (h:=e_ (cy_ (h:=w_ (m_ (h:=?_))))))))
  refine al_p rfl (s_gen 0 (hc:=Grange l _ (-1) (3) (by omega) (by omega) (by omega) (by omega)) (hR:=?_))
  rintro r a2 ha2 ⟨k2,rfl,p2,q2⟩
  refine⟨rfl,_,(by repeat constructor),?_⟩
  refine m_ (h:=?_)
  refine al_p rfl (s_gen 0 (hc:=Grange l _ (-1) (9) (by omega) (by omega) (by omega) (by omega)) (hR:=?_))
  rintro r a3 ha3 ⟨k3,rfl,p3,q3⟩
  refine⟨rfl,_,(by repeat constructor),?_⟩
  refine bd_ (h:=s_ (h:=e_ (aw_ret (x_thenR (?_)))))
  refine rt_ none (h5:=(LeA.refl _)) (h6:=⟨_,rfl,rfl,_,?_,rfl,(_,_),rfl⟩)<;>omega
 have hc1:=bp hb1
 refine m_ (h:=?_)
 refine g_y (s_gen 0 (hc:=Gn l _ (24) (by omega) (by omega)) (hR:=?_))
 rintro r a4 ha4 ⟨k4,rfl,p4,q4,o4⟩
 refine⟨rfl,_,(by repeat constructor),?_⟩
 refine eq_ (h:=pf_ (h:=e_ (?_)))
 refine aw_cond rfl (fun hb2=>?_) (fun hb2=>?_)
 ·have hc2:=bp hb2
  refine w_ (m_ (h:=?_))
  refine al_p rfl (s_gen 0 (hc:=Grange l _ (-1) (3) (by omega) (by omega) (by omega) (by omega)) (hR:=?_))
  rintro r a5 ha5 ⟨k5,rfl,p5,q5⟩
  refine⟨rfl,_,(by repeat constructor),?_⟩
  refine m_ (h:=?_)
  refine al_p rfl (s_gen 0 (hc:=Grange l _ (-1) (9) (by omega) (by omega) (by omega) (by omega)) (hR:=?_))
  rintro r a6 ha6 ⟨k6,rfl,p6,q6⟩
  refine⟨rfl,_,(by repeat constructor),?_⟩
  refine bd_ (h:=s_ (h:=e_ (aw_ret (x_thenR (?_)))))
  refine rt_ none (h5:=(LeA.refl _)) (h6:=⟨_,rfl,rfl,_,?_,rfl,(_,_),rfl⟩)<;>omega
 have hc2:=bp hb2
 obtain⟨-,d,hd,hrow, -⟩:=row_at dvcA (l:=f) (k:=m) (by omega)
 have hdn:=hf.nodes d (List.mem_of_getElem? hd)
 have hpos:=hne d (List.mem_of_getElem? hd)
 have hdl:(d.nodes.map nodA).length=d.nodes.length:=by simp
 refine kt_ (w_ (f_ (h:=l_ (h:=m_ (h:=?_)))))
 refine al_p rfl (st_index (n:=m) rfl rfl rfl hrow ?_)
 refine f_ (h:=l_ (h:=a_ (h:=e_ (w_ (m_ (h:=m_ (h:=m_ (h:=m_ (h:=n_ (h:=?_))))))))))
 refine al_p rfl (s_gen 0 (hc:=Gn l _ ((d.nodes.map nodA).length:Int) (by omega) (by omega)) (hR:=?_))
 rintro r a7 ha7 ⟨k7,rfl,p7,q7,o7⟩
 refine⟨rfl,_,(by repeat constructor),?_⟩
 obtain⟨i,rfl⟩:=Int.eq_ofNat_of_zero_le p7
 obtain⟨-,n,hn,hrow2, -⟩:=row_at nodA (l:=d.nodes) (k:=i) (by omega)
 refine al_p rfl (st_index (n:=i) rfl rfl rfl hrow2 ?_)
 refine f_ (h:=l_ (h:=bd_ (h:=s_ (h:=e_ (aw_ret (?_))))))
 refine rt_ none (h5:=(LeA.refl _)) (h6:=⟨_,rfl,rfl,_,?_,rfl,(_,_),rfl⟩)<;>omega
end
section
set_option maxRecDepth 10000
set_option maxHeartbeats 1000000
theorem Gattr(l:List Int)(a:Nat)(ha:a≤10000000000):GenF Tryz.prog 128 l a [] 60 (fun r=>∃n:Nod,n.target.size≤100∧n.entries=[]∧r= .agg (nodA n)):=by
 refine enter Tryz.func128 rfl rfl rfl rfl rfl 1 rfl ?_
 refine w_ (al_ (h:=e_ (w_ (m_ (h:=bs_ (h:=?_))))))
 refine al_p rfl (s_gen 0 (hc:=Gpick l _ _ (fun _=>true) (by omega) (by rfl) (by rfl) (by rfl)) (hR:=?_))
 rintro r a1 ha1 ⟨k1,rfl,p1⟩
 refine⟨rfl,_,(by repeat constructor),?_⟩
 refine m_ (h:=bs_ (h:=?_))
 refine al_p rfl (s_gen 0 (hc:=Gpick l _ _ (fun _=>true) (by omega) (by rfl) (by rfl) (by rfl)) (hR:=?_))
 rintro r a2 ha2 ⟨k2,rfl,p2⟩
 refine⟨rfl,_,(by repeat constructor),?_⟩
 refine m_ (h:=bs_ (h:=?_))
 refine al_p rfl (s_gen 0 (hc:=Gpick l _ _ (fun _=>true) (by omega) (by rfl) (by rfl) (by rfl)) (hR:=?_))
 rintro r a3 ha3 ⟨k3,rfl,p3⟩
 refine⟨rfl,_,(by repeat constructor),?_⟩
 refine m_ (h:=bs_ (h:=?_))
 refine al_p rfl (s_gen 0 (hc:=Gpick l _ _ (fun _=>true) (by omega) (by rfl) (by rfl) (by rfl)) (hR:=?_))
 rintro r a4 ha4 ⟨k4,rfl,p4⟩
 refine⟨rfl,_,(by repeat constructor),?_⟩
 refine bd_ (h:=al_ (h:=s_ (h:=e_ (?_))))
 refine aw_midI (fun s=>∃(b:Nat) (ki mo ui gi:Int) (ta:ByteArray),b≤a+24∧ta.size≤100∧s=⟨look [(0, .bp 0 0),(2, .bp 1 0),(3, .bp 2 0)],⟨[srcA l b,[.v (.int .i64 0), .v (.int .i64 0), .v (.int .i64 0), .v (.int .i64 0), .v (.int .i64 0), .v (.int .i64 0), .v (.string ⟨#[]⟩), .v (.slice none 0 0)],[.v (.int .i64 0), .v (.int .i64 ki), .v (.int .i64 mo), .v (.int .i64 ui), .v (.int .i64 gi), .v (.int .i64 0), .v (.string ta), .v (.slice none 0 0)]],[]⟩⟩) ?_ ?_
 ·skip
  refine w_ (f_ (h:=l_ (h:=eq_ (h:=e_ (?_)))))
  refine aw_cond rfl (fun hb1=>?_) (fun hb1=>?_)
  ·have hc1:=bp hb1
   refine aw_region (m_ (h:=?_))
   refine al_p rfl (s_gen 0 (hc:=Gpath l _ (by omega)) (hR:=?_))
   rintro r a5 ha5 ⟨k5,rfl,p5⟩
   refine⟨rfl,_,(by repeat constructor),?_⟩
   refine f_ (h:=s_ (h:=al_nil (?_)))
   refine x_then ?_
   refine⟨_,⟨_,_,_,_,_,_,?_,?_,rfl⟩,(wk 3 0)⟩<;>first|omega|assumption|exact Nat.zero_le _
  have hc1:=bp hb1
  refine aw_skip (?_)
  refine x_then ?_
  refine⟨_,⟨_,_,_,_,_,_,?_,?_,rfl⟩,(wk 3 0)⟩<;>first|omega|assumption|exact Nat.zero_le _
 rintro s ⟨b,ki,mo,ui,gi,ta,hb,hta,rfl⟩
 refine aw_midI (fun s=>∃(b2:Nat) (mo2:Int) (ta2:ByteArray),b2≤a+50∧ta2.size≤100∧s=⟨look [(2, .bp 1 0),(3, .bp 2 0)],⟨[srcA l b2,[.v (.int .i64 0), .v (.int .i64 0), .v (.int .i64 0), .v (.int .i64 0), .v (.int .i64 0), .v (.int .i64 0), .v (.string ⟨#[]⟩), .v (.slice none 0 0)],[.v (.int .i64 0), .v (.int .i64 ki), .v (.int .i64 mo2), .v (.int .i64 ui), .v (.int .i64 gi), .v (.int .i64 0), .v (.string ta2), .v (.slice none 0 0)]],[]⟩⟩) ?_ ?_
 ·skip
  refine w_ (m_ (h:=?_))
  refine al_p rfl (s_gen 0 (hc:=Gn l _ (20) (by omega) (by omega)) (hR:=?_))
  rintro r a6 ha6 ⟨k6,rfl,p6,q6,o6⟩
  refine⟨rfl,_,(by repeat constructor),?_⟩
  refine eq_ (h:=e_ (?_))
  refine aw_cond rfl (fun hb2=>?_) (fun hb2=>?_)
  ·have hc2:=bp hb2
   refine aw_region (m_ (h:=bs_ (h:=?_)))
   refine al_p rfl (s_gen 0 (hc:=Gpick l _ _ (fun _=>true) (by omega) (by rfl) (by rfl) (by rfl)) (hR:=?_))
   rintro r a7 ha7 ⟨k7,rfl,p7⟩
   refine⟨rfl,_,(by repeat constructor),?_⟩
   refine m_ (h:=?_)
   refine al_p rfl (s_gen 0 (hc:=Gpath l _ (by omega)) (hR:=?_))
   rintro r a8 ha8 ⟨k8,rfl,p8⟩
   refine⟨rfl,_,(by repeat constructor),?_⟩
   refine f_ (h:=s_ (h:=f_ (h:=s_ (h:=al_nil (?_)))))
   refine x_then ?_
   refine⟨_,⟨_,_,_,?_,?_,rfl⟩,(wk 3 0)⟩<;>first|omega|assumption
  have hc2:=bp hb2
  refine aw_skip (?_)
  refine x_then ?_
  refine⟨_,⟨_,_,_,?_,?_,rfl⟩,(wk 3 0)⟩<;>first|omega|assumption
 rintro s ⟨b2,mo2,ta2,hb2,hta2,rfl⟩
 refine w_ (l_ (h:=s_ (h:=e_ (aw_ret (?_)))))
 refine rt_ (r:= .agg (nodA ⟨0,ki,mo2,ui,gi,0,ta2,[]⟩)) none (h5:=(by repeat (first|exact LeA.refl _|exact LeA.nil _|exact LeL.refl _|refine LeA.agg ?_|refine LeA.tup ?_|exact LeL.nil|refine LeL.cons ?_ ?_|exact LeA.any _))) (h6:=⟨_,rfl,rfl,b2,by omega,rfl,⟨0,ki,mo2,ui,gi,0,ta2,[]⟩,hta2,rfl,rfl⟩)
end
theorem FlsV.ne{f:Fls}(h:FlsV f):∀d∈f,0<d.nodes.length:=fun d hd=>by
 obtain⟨r,rest,hr,_⟩:=(h.vd d hd).root
 rw[hr];simp
theorem root_vd:VD rootDvc:=by
 refine⟨by decide,by decide,by decide,⟨rootNod,[],rfl,rfl,rfl,rfl⟩,List.pairwise_singleton _ _,?_,?_,?_,?_,?_,?_,?_,?_,?_,⟨fun _=>0,?_⟩⟩<;>
  (intro n hn;obtain rfl:n=rootNod:=by simpa[rootDvc]using hn)
 ·decide
 ·decide+kernel
 ·intro h;exact absurd rfl h
 ·decide
 ·exact List.Pairwise.nil
 ·intro e he;cases he
 ·intro h;exact absurd rfl h
 ·intro h;exact absurd rfl h
 ·intro h;exact absurd rfl h
 intro h;exact absurd rfl h
theorem new_valid{k:Int}(h1:1≤k)(h2:k≤3):FlsV (newL k).1∧0<(newL k).1.length:=by
 unfold newL
 rw[if_neg (by omega)]
 refine⟨⟨?_,fun d hd=>?_⟩,?_⟩
 ·show(List.replicate _ _).length≤3
  rw[List.length_replicate];omega
 ·rw[(List.mem_replicate.1 hd).2];exact root_vd
 show 0<(List.replicate _ _).length
 rw[List.length_replicate];omega
structure MntOK(f:Fls)(ms:List Mnt)(m:Mnt):Prop where
 dev1:1≤m.1
 dev2:m.1<(f.length:Int)
 fresh:mtdL ⟨f,ms⟩ m.1=false
 dir:dirL f m.2=true
 there:mtdL ⟨f,ms⟩ m.2.1=true
 free:(covL ⟨f,ms⟩ m.2).isSome=false
structure SpcV(s:Spc):Prop where
 files:FlsV s.files
 pos:0<s.files.length
 mnt:∀i m,s.mounts[i]?=some m→MntOK s.files (s.mounts.take i) m
theorem add_valid{s:Spc}(h:SpcV s)(dev:Int)(a:Fil)(h0:(addL s dev a).2=0):SpcV (addL s dev a).1∧(addL s dev a).1=⟨s.files,s.mounts++[(dev,a)]⟩:=by
 unfold addL at h0 ⊢
 split at h0
 ·exact absurd h0 (by decide)
 rename_i c1
 split at h0
 ·exact absurd h0 (by decide)
 rename_i c2
 split at h0
 ·exact absurd h0 (by decide)
 rename_i c3
 split at h0
 ·exact absurd h0 (by decide)
 rename_i c4
 split at h0
 ·exact absurd h0 (by decide)
 rename_i c5
 rw[if_neg c1,if_neg c2,if_neg c3,if_neg c4,if_neg c5]
 refine⟨⟨h.files,h.pos,fun i m hi=>?_⟩,rfl⟩
 simp only at hi ⊢
 rcases Nat.lt_trichotomy i s.mounts.length with hlt|heq|hgt
 ·rw[List.getElem?_append_left hlt]at hi
  rw[List.take_append_of_le_length (by omega)]
  exact h.mnt i m hi
 ·subst heq
  simp at hi
  subst hi
  rw[List.take_left' rfl]
  exact⟨by simp only;omega,by simp only;omega,by simpa using fun h=>c5 (.inl h),by simp only;rw[dirL_eq];simp at c2 c3;simp[c2,c3],by simpa using fun h=>c4 (.inl h),Bool.eq_false_iff.2 fun h=>c5 (.inr h)⟩
 rw[List.getElem?_eq_none (by simp;omega)]at hi;cases hi
section
set_option maxRecDepth 10000
set_option maxHeartbeats 1000000
theorem Gchange(l:List Int)(a:Nat)(f:Fls)(ha:a≤1000000000)(hv:FlsV f):GenF Tryz.prog 87 l a [.agg (flsA f)] 80 (fun r=>∃f',r= .agg (flsA f')∧FlsV f'∧f'.length=f.length):=by
 have hf:=hv.b
 have hne:=hv.ne
 refine enter Tryz.func87 rfl rfl rfl rfl rfl 1 rfl ?_
 refine w_ (b_ (h:=al_ (h:=e_ (w_ (m_ (h:=l_ (h:=?_)))))))
 refine al_p rfl (s_gen 0 (hc:=Gfile l _ f (by omega) hf hne) (hR:=?_))
 rintro r a1 ha1 ⟨x1,rfl⟩
 refine⟨rfl,_,(by repeat constructor),?_⟩
 refine m_ (h:=?_)
 refine al_p rfl (s_gen 0 (hc:=Gname l _ (by omega)) (hR:=?_))
 rintro r a2 ha2 ⟨k2,rfl,p2⟩
 refine⟨rfl,_,(by repeat constructor),?_⟩
 refine al_ (h:=s_ (h:=a_ (h:=e_ (w_ (l_ (h:=al_ (h:=s_ (h:=a_ (h:=e_ (?_))))))))))
 refine aw_midI (fun t=>∃(R1:Fls) (e:Int) (b:Nat),b≤a+80∧(e=0→FlsV R1∧R1.length=f.length)∧t=⟨look [(3, .bp 1 0),(4, .bp 2 0),(7, .bp 4 0),(8, .v (.int .i64 e))],⟨[srcA l b,flsA f,[.v (.slice none 0 0)],filA x1,flsA R1],[]⟩⟩) ?_ ?_
 ·skip
  refine w_ (m_ (h:=?_))
  refine al_p rfl (s_gen 0 (hc:=Gn l _ (8) (by omega) (by omega)) (hR:=?_))
  rintro r a3 ha3 ⟨k3,rfl,p3,q3,o3⟩
  refine⟨rfl,_,(by repeat constructor),?_⟩
  refine e_ (aw_block (w_ (eq_ (h:=a_ (h:=e_ (?_))))))
  refine aw_cond rfl (fun hb1=>?_) (fun hb1=>?_)
  ·have hc1:=bp hb1
   refine yk_ ([(1,flsA f),(2,[.v (.slice none 0 0)]),(3,filA x1)]) 13 (h:=dl_ 0 (h:=dl_ 1 (h:=dm_ 2 (h:=dm_ 3 (h:=dl_ 4 (h:=?_))))))
   refine c_ 5 rfl (s_gen 0 (hc:=Gfile l _ f (by omega) hf hne) (hR:=?_))
   rintro r a4 ha4 ⟨x4,rfl⟩
   refine⟨rfl,_,(by repeat constructor),?_⟩
   refine o_ (h:=?_)
   refine c_ 6 rfl (q_call (Rlink f x1 k2 x4 hv (by omega)) ?_)
   rintro r rfl
   refine o_ (h:=dm_ 7 (h:=dx_ 8 (h:=dx_ 9 (h:=dx_ 10 (h:=?_)))))
   refine c0_ 11 rfl (s_store rfl rfl rfl rfl rfl rfl (by repeat constructor) (by repeat constructor) ?_)
   refine o_ (h:=da_ 12 (h:=z_ (h:=x_blockN (?_))))
   refine x_then ?_
   refine⟨_,⟨_,_,_,?_,?_,rfl⟩,(wk 5 0)⟩
   ·omega
   first|exact link_okay hv _ _ _|exact unlink_okay hv _ _|exact rmdir_okay hv _ _|exact rename_okay hv _ _ _ _|exact set_okay hv _ _ _ _|exact make_okay hv _ _ _
  have hc1:=bp hb1
  refine w_ (eq_ (h:=a_ (h:=e_ (?_))))
  refine aw_cond rfl (fun hb2=>?_) (fun hb2=>?_)
  ·have hc2:=bp hb2
   refine aw_region (l_ (h:=l_ (h:=m_ (h:=?_))))
   refine al_p rfl (q_call (Runlink f x1 k2 hv (by omega)) ?_)
   rintro r rfl
   refine m_ (h:=x_ (h:=x_ (h:=x_ (h:=s_ (h:=a_ (h:=al_nil (x_blockN (?_))))))))
   refine x_then ?_
   refine⟨_,⟨_,_,_,?_,?_,rfl⟩,(wk 5 0)⟩
   ·omega
   first|exact link_okay hv _ _ _|exact unlink_okay hv _ _|exact rmdir_okay hv _ _|exact rename_okay hv _ _ _ _|exact set_okay hv _ _ _ _|exact make_okay hv _ _ _
  have hc2:=bp hb2
  refine w_ (eq_ (h:=a_ (h:=e_ (?_))))
  refine aw_cond rfl (fun hb3=>?_) (fun hb3=>?_)
  ·have hc3:=bp hb3
   refine aw_region (l_ (h:=l_ (h:=m_ (h:=?_))))
   refine al_p rfl (q_call (Rrmdir f x1 k2 hv (by omega)) ?_)
   rintro r rfl
   refine m_ (h:=x_ (h:=x_ (h:=x_ (h:=s_ (h:=a_ (h:=al_nil (x_blockN (?_))))))))
   refine x_then ?_
   refine⟨_,⟨_,_,_,?_,?_,rfl⟩,(wk 5 0)⟩
   ·omega
   first|exact link_okay hv _ _ _|exact unlink_okay hv _ _|exact rmdir_okay hv _ _|exact rename_okay hv _ _ _ _|exact set_okay hv _ _ _ _|exact make_okay hv _ _ _
  have hc3:=bp hb3
  refine w_ (eq_ (h:=a_ (h:=e_ (?_))))
  refine aw_cond rfl (fun hb4=>?_) (fun hb4=>?_)
  ·have hc4:=bp hb4
   refine yk_ ([(1,flsA f),(2,[.v (.slice none 0 0)]),(3,filA x1)]) 15 (h:=dl_ 0 (h:=dl_ 1 (h:=dm_ 2 (h:=dm_ 3 (h:=dl_ 4 (h:=dm_ 6 (h:=?_)))))))
   refine c_ 5 rfl (s_gen 0 (hc:=Gfile l _ f (by omega) hf hne) (hR:=?_))
   rintro r a5 ha5 ⟨x5,rfl⟩
   refine⟨rfl,_,(by repeat constructor),?_⟩
   refine o_ (h:=?_)
   refine c_ 7 rfl (s_gen 0 (hc:=Gname l _ (by omega)) (hR:=?_))
   rintro r a6 ha6 ⟨k6,rfl,p6⟩
   refine⟨rfl,_,(by repeat constructor),?_⟩
   refine o_ (h:=?_)
   refine c_ 8 rfl (q_call (Rrename f x1 k2 x5 k6 hv (by omega) (by omega)) ?_)
   rintro r rfl
   refine o_ (h:=dm_ 9 (h:=dx_ 10 (h:=dx_ 11 (h:=dx_ 12 (h:=?_)))))
   refine c0_ 13 rfl (s_store rfl rfl rfl rfl rfl rfl (by repeat constructor) (by repeat constructor) ?_)
   refine o_ (h:=da_ 14 (h:=z_ (h:=x_blockN (?_))))
   refine x_then ?_
   refine⟨_,⟨_,_,_,?_,?_,rfl⟩,(wk 5 0)⟩
   ·omega
   first|exact link_okay hv _ _ _|exact unlink_okay hv _ _|exact rmdir_okay hv _ _|exact rename_okay hv _ _ _ _|exact set_okay hv _ _ _ _|exact make_okay hv _ _ _
  have hc4:=bp hb4
  refine w_ (eq_ (h:=a_ (h:=e_ (?_))))
  refine aw_cond rfl (fun hb5=>?_) (fun hb5=>?_)
  ·have hc5:=bp hb5
   refine yk_ ([(1,flsA f),(2,[.v (.slice none 0 0)]),(3,filA x1)]) 12 (h:=dl_ 0 (h:=dl_ 1 (h:=dm_ 2 (h:=dm_ 4 (h:=?_)))))
   refine c_ 3 rfl (s_gen 0 (hc:=Gn l _ (9) (by omega) (by omega)) (hR:=?_))
   rintro r a7 ha7 ⟨k7,rfl,p7,q7,o7⟩
   refine⟨rfl,_,(by repeat constructor),?_⟩
   refine o_ (h:=?_)
   refine c_ 5 rfl (s_gen 0 (hc:=Gn l _ (9) (by omega) (by omega)) (hR:=?_))
   rintro r a8 ha8 ⟨k8,rfl,p8,q8,o8⟩
   refine⟨rfl,_,(by repeat constructor),?_⟩
   refine o_ (h:=?_)
   refine c_ 6 rfl (q_call (Rset f x1 511 k7 k8 hv) ?_)
   rintro r rfl
   refine o_ (h:=dm_ 7 (h:=dx_ 8 (h:=dx_ 9 (h:=?_))))
   refine c0_ 10 rfl (s_store rfl rfl rfl rfl rfl rfl (by repeat constructor) (by repeat constructor) ?_)
   refine o_ (h:=da_ 11 (h:=z_ (h:=x_blockN (?_))))
   refine x_then ?_
   refine⟨_,⟨_,_,_,?_,?_,rfl⟩,(wk 5 0)⟩
   ·omega
   first|exact link_okay hv _ _ _|exact unlink_okay hv _ _|exact rmdir_okay hv _ _|exact rename_okay hv _ _ _ _|exact set_okay hv _ _ _ _|exact make_okay hv _ _ _
  have hc5:=bp hb5
  refine yk_ ([(1,flsA f),(2,[.v (.slice none 0 0)]),(3,filA x1)]) 12 (h:=dl_ 0 (h:=dl_ 1 (h:=dm_ 2 (h:=dm_ 3 (h:=?_)))))
  refine c_ 4 rfl (s_gen 0 (hc:=Gattr l _ (by omega)) (hR:=?_))
  rintro r a9 ha9 ⟨n9,ht9,he9,rfl⟩
  refine⟨rfl,_,(by repeat constructor),?_⟩
  refine o_ (h:=?_)
  refine c_ 5 rfl (q_call (Rmake f x1 k2 n9 hv (by omega) (by omega)) ?_)
  rintro r rfl
  refine o_ (h:=dm_ 6 (h:=dx_ 7 (h:=dx_ 8 (h:=dx_ 9 (h:=?_)))))
  refine c0_ 10 rfl (s_store rfl rfl rfl rfl rfl rfl (by repeat constructor) (by repeat constructor) ?_)
  refine o_ (h:=da_ 11 (h:=z_ (h:=x_blockN (?_))))
  refine x_then ?_
  refine⟨_,⟨_,_,_,?_,?_,rfl⟩,(wk 5 0)⟩
  ·omega
  first|exact link_okay hv _ _ _|exact unlink_okay hv _ _|exact rmdir_okay hv _ _|exact rename_okay hv _ _ _ _|exact set_okay hv _ _ _ _|exact make_okay hv _ _ _
 rintro t ⟨R1,e,b,hb,hok,rfl⟩
 refine q_ (w_ (m_ (h:=nq_ (h:=e_ (?_)))))
 refine aw_cond rfl (fun hb6=>?_) (fun hb6=>?_)
 ·have hc6:=bp hb6
  refine w_ (l_ (h:=s_ (h:=e_ (aw_ret (x_thenR (?_))))))
  refine rt_ none (h5:=(LeA.refl _)) (h6:=⟨_,rfl,rfl,b,hb,rfl,f,rfl,hv,rfl⟩)
 have hc6:=bp hb6
 refine kt_ (w_ (l_ (h:=s_ (h:=e_ (aw_ret (?_))))))
 refine rt_ none (h5:=(LeA.refl _)) (h6:=⟨_,rfl,rfl,b,hb,rfl,R1,rfl,hok (by omega)⟩)
theorem Gfiles(l:List Int)(a:Nat)(ha:a≤100000000):GenF Tryz.prog 48 l a [] 1000 (fun r=>∃f,r= .agg (flsA f)∧FlsV f∧0<f.length):=by
 refine enter Tryz.func48 rfl rfl rfl rfl rfl 1 rfl ?_
 refine w_ (al_ (h:=e_ (w_ (m_ (h:=?_)))))
 refine al_p rfl (s_gen 0 (hc:=Grange l _ (1) (3) (by omega) (by omega) (by omega) (by omega)) (hR:=?_))
 rintro r a1 ha1 ⟨k1,rfl,p1,q1⟩
 refine⟨rfl,_,(by repeat constructor),?_⟩
 refine al_p rfl (q_call (Rnew k1) ?_)
 rintro r rfl
 refine m_ (h:=x_ (h:=x_ (h:=al_ (h:=s_ (h:=a_ (h:=e_ (q_ (w_ (m_ (h:=?_))))))))))
 refine al_p rfl (s_gen 0 (hc:=Grange l _ (2) (12) (by omega) (by omega) (by omega) (by omega)) (hR:=?_))
 rintro r a2 ha2 ⟨k2,rfl,p2,q2⟩
 refine⟨rfl,_,(by repeat constructor),?_⟩
 refine a_ (h:=e_ (aw_block (?_)))
 obtain⟨hv0,hp0⟩:=new_valid p1 q1
 obtain⟨M,rfl⟩:=Int.eq_ofNat_of_zero_le (show 0≤k2 by omega)
 refine aw_loopW (fun n s=>∃(j b:Nat) (f:Fls),j≤M∧n=j∧b+80 * j≤a+2+80 * M∧FlsV f∧0<f.length∧s=⟨look [(0, .bp 0 0),(2, .bp 1 0),(3, .bp 2 0),(5, .v (.int .i64 (j:Int)))],⟨[srcA l b,[.v (.slice none 0 0)],flsA f],[]⟩⟩) (M) ((wk 3 0)) (⟨M,_,_,Nat.le_refl _,rfl,by omega,hv0,hp0,rfl⟩) ?_
 rintro n s ⟨j,b,f,hj,rfl,hb,hv,hp,rfl⟩
 refine q_ (w_ (m_ (h:=gt_ (h:=e_ (?_)))))
 refine aw_cond rfl (fun hb1=>?_) (fun hb1=>?_)
 ·have hc1:=bp hb1
  refine kt_ (q_ (aw_block (aw_region (m_ (h:=l_ (h:=?_))))))
  refine al_p rfl (s_gen 0 (hc:=Gchange l _ f (by omega) hv) (hR:=?_))
  rintro r a3 ha3 ⟨f3,rfl,hv3,hl3⟩
  refine⟨rfl,_,(by repeat constructor),?_⟩
  refine s_ (h:=al_nil (x_blockN (t_ (aw_region (m_ (h:=?_))))))
  refine al_p rfl (st_sub64 rfl rfl (by omega) ?_)
  refine a_ (h:=al_nil (?_))
  refine x_then ?_
  refine⟨n - 1,_,by omega,⟨n - 1,_,f3,by omega,rfl,?_,hv3,by omega,rfl⟩,(by rw[show((n - 1:Nat):Int)=(n:Int) - 1 by omega];exact weak_of 3 0 rfl rfl rfl rfl ((by repeat (first|exact Sub.nil|refine Sub.cons _ _ _ rfl rfl ?_|refine Sub.any _ _ ?_|refine Sub.sl _ _ _ _ _ rfl ?_|refine Sub.slnil _ _ _ rfl ?_))))⟩
  omega
 have hc1:=bp hb1
 refine aw_exit (x_thenE (x_thenE (ABlock_out (t_ (w_ (l_ (h:=s_ (h:=e_ (aw_ret (?_))))))))))
 refine rt_ none (h5:=(LeA.refl _)) (h6:=⟨_,rfl,rfl,b,by omega,rfl,f,rfl,hv,hp⟩)
end
end Go.Proofs.YtbglbmnhgbgelaaGreatDoor
