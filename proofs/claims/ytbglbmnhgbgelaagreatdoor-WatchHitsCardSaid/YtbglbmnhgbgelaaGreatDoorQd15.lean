/-
  Part 15 of the proof of WatchHitsP: what the statement's proof uses of the texts in wip/tpl.
-/
import Derived.Test.YtbglbmnhgbgelaaGreatDoorQd14
set_option maxRecDepth 10000
set_option maxHeartbeats 4000000
set_option linter.unusedVariables false
set_option linter.unusedSimpArgs false
namespace Go.Proofs.YtbglbmnhgbgelaaGreatDoor
open Go.RowKit
theorem gF{s:Spc}{fl:Bool}{p:AG}{ps:List AG}{a:A9}{lk:Nat}{τ:Lk}(h:Ce s fl p ps a lk= .inr τ):τ.name.size≤12:=by
 unfold Ce at h
 split at h
 ·cases h
 split at h
 ·cases h
 rename_i h2
 repeat' split at h
 all_goals first|(cases h;done)|(injection h with h;subst h;first|exact Nat.zero_le 12|exact Nat.le_of_not_lt h2)
theorem gG{s:Spc}{fl:Bool}:∀(k:Nat) (σ:Lk),σ.name.size≤12→(Gv s fl k σ).2.name.size≤12:=by
 intro k
 induction k with
 |zero=>intro σ h;exact h
 |succ k ih=>
   intro σ h
   unfold Gv
   cases σ.ps with
   |nil=>exact h
   |cons p ps=>
     simp only
     cases hs:Ce s fl p ps σ.file σ.links with
     |inl e=>exact Nat.zero_le 12
     |inr τ=>exact ih _ (gF hs)
theorem RQ(s:Spc)(st:A9)(p:AG)(fl:Bool):(Bi s st p fl).1.name.size≤12:=by
 unfold Bi
 generalize (if D8 p=true then Dt s else st)=d
 repeat' split
 all_goals first|exact Nat.zero_le 12|exact gG _ _ (Nat.zero_le 12)
theorem gH{s:Spc}{cwd:A9}{fl:Bool}{X:List Itm×List Fnd×Int}{g:AG×Int}(h:∀f∈X.2.1,f.name.size≤12):(∀f∈(FF s cwd fl X g).2.1,f.name.size≤12)∧(FF s cwd fl X g).1.length=X.1.length+1∧(FF s cwd fl X g).2.1.length=X.2.1.length+1:=by
 unfold FF
 split
 ·split
  ·refine⟨fun f hf=>?_,by simp,by simp⟩
   rcases List.mem_append.1 hf with hf|hf
   ·exact h f hf
   rw[List.mem_singleton.1 hf];exact RQ _ _ _ _
  refine⟨fun f hf=>?_,by simp,by simp⟩
  rcases List.mem_append.1 hf with hf|hf
  ·exact h f hf
  rw[List.mem_singleton.1 hf];exact RQ _ _ _ _
 refine⟨fun f hf=>?_,by simp,by simp⟩
 rcases List.mem_append.1 hf with hf|hf
 ·exact h f hf
 rw[List.mem_singleton.1 hf];exact Nat.zero_le 12
theorem gJ(s:Spc)(cwd:A9)(fl:Bool)(e:Int):∀(l:List (AG×Int)),(∀f∈(Hl s cwd fl l e).2.1,f.name.size≤12)∧(Hl s cwd fl l e).1.length=l.length∧(Hl s cwd fl l e).2.1.length=l.length:=by
 have key:∀(l:List (AG×Int)) (X:List Itm×List Fnd×Int),(∀f∈X.2.1,f.name.size≤12)→(∀f∈(l.foldl (FF s cwd fl) X).2.1,f.name.size≤12)∧(l.foldl (FF s cwd fl) X).1.length=X.1.length+l.length∧(l.foldl (FF s cwd fl) X).2.1.length=X.2.1.length+l.length:=by
  intro l
  induction l with
  |nil=>intro X h;exact⟨h,rfl,rfl⟩
  |cons g l ih=>
    intro X h
    obtain⟨h1,h2,h3⟩:=gH (s:=s) (cwd:=cwd) (fl:=fl) (g:=g) h
    obtain⟨k1,k2,k3⟩:=ih _ h1
    rw[List.foldl_cons]
    refine⟨k1,?_,?_⟩
    ·rw[k2,h2,List.length_cons];omega
    rw[k3,h3,List.length_cons];omega
 intro l
 have:=key l ([],[],e) (fun f hf=>by cases hf)
 refine⟨this.1,by rw[Hl,this.2.1];simp,by rw[Hl,this.2.2];simp⟩
theorem RR{c:Cal}(h:Bb c=0):(c.paths.length:Int)=(Bj c.num).2.2.1∧(Bj c.num).2.2.2.1≤(c.args.length:Int)∧(c.args.length:Int)≤(Bj c.num).2.2.2.2∧(∀p∈c.paths,p.size≤128)∧∀p∈c.args,p.size≤64:=by
 unfold Bb at h
 split at h
 ·exact absurd h (by decide)
 split at h
 ·exact absurd h (by decide)
 split at h
 ·exact absurd h (by decide)
 rename_i h3
 split at h
 ·exact absurd h (by decide)
 rename_i h4
 split at h
 ·exact absurd h (by decide)
 rename_i h5
 refine⟨by omega,by omega,by omega,fun p hp=>?_,fun p hp=>?_⟩
 ·refine Nat.le_of_not_lt fun hl=>h4 (List.any_eq_true.2 ⟨p,hp,decide_eq_true hl⟩)
 refine Nat.le_of_not_lt fun hl=>h5 (List.any_eq_true.2 ⟨p,hp,decide_eq_true hl⟩)
theorem WB{c0 c1 c2 c3 c4 c5:List AV}(w:Wrk)(rows:List (List AV))(n cap:Nat)(L:List Itm):Back [c0,c1,c2,c3,c4,c5] [5] [Cu w (.sl 8 rows none) (.bs 1 0 13 n cap),LB 13 BY L cap] [c0,c1,c2,c3,c4,Cu w (.sl 8 rows none) (.bs 6 0 13 n cap),LB 13 BY L cap]:=by
 have:=Mw (bx:=[c0,c1,c2,c3,c4,c5]) (is:=[5]) (bc:=[Cu w (.sl 8 rows none) (.bs 1 0 13 n cap),LB 13 BY L cap]) (by simp) (by simp) (by simp)
 have e2:DG (Da [5] [c0,c1,c2,c3,c4,c5].length) (LB 13 BY L cap)=LB 13 BY L cap:=Ch B0 _ _ _
 have hb:DC [c0,c1,c2,c3,c4,c5] (Da [5] [c0,c1,c2,c3,c4,c5].length) [5] [Cu w (.sl 8 rows none) (.bs 1 0 13 n cap),LB 13 BY L cap]=[c0,c1,c2,c3,c4,Cu w (.sl 8 rows none) (.bs 6 0 13 n cap),LB 13 BY L cap]:=by
  unfold DC
  unfold DC
  rw[List.map_cons,e2]
  rfl
 rw[hb]at this
 exact this
theorem RS(s:Syst)(pid:Int)(c:Cal):(∀f∈(EC s pid c).found,f.name.size≤12)∧(EC s pid c).found.length=(c.paths.zip (C8 c)).length∧(EC s pid c).r.items.length=(c.paths.zip (C8 c)).length:=by
 obtain⟨h1,h2,h3⟩:=gJ s.spc (AU s.tab pid).cwd (Cs c) (Cf (AU s.tab pid) c) (c.paths.zip (C8 c))
 exact⟨h1,h3,h2⟩
section
theorem RT(w:Wrk)(F I:AV)(h9:w.c.num=9→0<w.c.args.length)(hsz:∀p∈w.c.args,p.size≤1000):AFn Tryz.prog 67 [.fp (Cu w F I)] (fun r=>r= .v (.int .i64 (Cf w.p w.c))):=by
 have hol:(w.p.opens.map Ez).length=w.p.opens.length:=List.length_map _
 refine enter Tryz.func67 rfl rfl rfl rfl rfl 0 rfl ?_
 refine w_ (a_ (h:=e_ (w_ (m_ (h:=k_ (h:=f_ (h:=f_ (h:=l_ (h:=AW (h:=s_ (h:=e_ (q_ (w_ (m_ (h:=k_ (h:=f_ (h:=f_ (h:=l_ (h:=e_ (Am (w_ (AQ (h:=a_ (h:=?_))))))))))))))))))))))))
 refine e_ (?_)
 refine A8 rfl (fun hb1=>?_) (fun hb1=>?_)
 ·have hc1:=bp hb1
  refine q_ (w_ (?_))
  refine A6 rfl (CG (len:=4) (sz:=1) (n:=0) (by kernel_rfl) rfl rfl rfl rfl ?_)
  refine l_ (h:=BG (h:=m_ (h:=?_)))
  refine Ay false rfl rfl (fun hb2=>?_) (fun hb2=>?_)
  ·have hc2:=bp hb2
   refine A3 (h:=A3 (h:=A3 (h:=Af (h:=m_ (h:=A3 (h:=A3 (h:=A3 (h:=A3 (h:=Af (h:=m_ (h:=A3 (h:=A3 (h:=A3 (h:=A3 (h:=Af (h:=e_ (Bm (h:=w_ (a_ (h:=e_ (A4 (A7 (AR (?_))))))))))))))))))))))))
   refine A7 (?_)
   refine AB ?_
   first|(exfalso;first|contradiction|omega)|(exact vi (by simp[Cf, *]))
  have hc2:=bp hb2
  refine B4 (CG (len:=4) (sz:=1) (n:=0) (by kernel_rfl) rfl rfl rfl rfl ?_)
  refine l_ (h:=CW (h:=Ak (h:=m_ (h:=?_))))
  refine Ay false rfl rfl (fun hb3=>?_) (fun hb3=>?_)
  ·have hc3:=bp hb3
   refine A3 (h:=A3 (h:=A3 (h:=A3 (h:=Af (h:=m_ (h:=A3 (h:=A3 (h:=A3 (h:=A3 (h:=Af (h:=e_ (Bm (h:=w_ (a_ (h:=e_ (A4 (A7 (AR (A7 (?_))))))))))))))))))))
   refine AB ?_
   first|(exfalso;first|contradiction|omega)|(exact vi (by simp[Cf, *]))
  have hc3:=bp hb3
  refine B4 (CG (len:=4) (sz:=1) (n:=0) (by kernel_rfl) rfl rfl rfl rfl ?_)
  refine l_ (h:=ES (h:=AQ (h:=Ak (h:=m_ (h:=?_)))))
  refine Ay false rfl rfl (fun hb4=>?_) (fun hb4=>?_)
  ·have hc4:=bp hb4
   refine A3 (h:=A3 (h:=A3 (h:=A3 (h:=Af (h:=e_ (Bm (h:=w_ (a_ (h:=e_ (A4 (A7 (AR (A7 (?_))))))))))))))
   refine AB ?_
   first|(exfalso;first|contradiction|omega)|(exact vi (by simp[Cf, *]))
  have hc4:=bp hb4
  refine B4 (CG (len:=4) (sz:=1) (n:=1) (by kernel_rfl) rfl rfl rfl rfl ?_)
  refine l_ (h:=?_)
  refine B4 (AK (RB w.c.a1) ?_)
  rintro r rfl
  refine BC (h:=Ak (h:=e_ (?_)))
  refine A8 rfl (fun hb5=>?_) (fun hb5=>?_)
  ·have hc5:=bp hb5
   refine w_ (a_ (h:=e_ (A4 (A7 (AR (A7 (?_)))))))
   refine AB ?_
   first|(exfalso;first|contradiction|omega)|(exact vi (by simp[Cf, *]))
  have hc5:=bp hb5
  refine AJ (w_ (m_ (h:=k_ (h:=f_ (h:=f_ (h:=l_ (h:=n_ (h:=Fu (h:=e_ (?_))))))))))
  refine A8 rfl (fun hb6=>?_) (fun hb6=>?_)
  ·have hc6:=bp hb6
   have h8:8≤(w.p.opens.length:Int):=by rw[List.length_map]at hc6;exact hc6
   refine w_ (a_ (h:=e_ (A4 (AR (A7 (?_))))))
   refine AB ?_
   first|(exfalso;first|contradiction|omega)|(exact vi (by simp[Cf, *]))
  have hc6:=bp hb6
  have h8:¬8≤(w.p.opens.length:Int):=by rw[List.length_map]at hc6;exact hc6
  refine BA (Ax (t_ (w_ (a_ (h:=e_ (A4 (?_)))))))
  refine AB ?_
  first|(exfalso;first|contradiction|omega)|(exact vi (by simp[Cf, *]))
 have hc1:=bp hb1
 refine w_ (AQ (h:=a_ (h:=e_ (?_))))
 refine A8 rfl (fun hb7=>?_) (fun hb7=>?_)
 ·have hc7:=bp hb7
  obtain⟨a0,ha0⟩:∃a,w.c.args[0]?=some a:=⟨_,B3 (h9 hc7)⟩
  have harg:(w.c.args.map Ct)[0]?=some (Ct a0):=by rw[List.getElem?_map,ha0];rfl
  have hag:GV w.c=a0:=by unfold GV;rw[List.headD_eq_head?_getD,List.head?_eq_getElem?,ha0];rfl
  have hsa:=hsz a0 (Au ha0)
  refine q_ (w_ (m_ (h:=k_ (h:=f_ (h:=f_ (h:=l_ (h:=?_)))))))
  refine A6 rfl (CF (n:=0) rfl rfl rfl harg ?_)
  refine l_ (h:=AQ (h:=e_ (?_)))
  refine A8 rfl (fun hb8=>?_) (fun hb8=>?_)
  ·have hc8:=bp hb8
   refine w_ (a_ (h:=e_ (A4 (A7 (AR (A7 (?_)))))))
   refine AB ?_
   first|(exfalso;first|contradiction|omega)|(exact vi (by simp[Cf, *]))
  have hc8:=bp hb8
  refine AJ (w_ (a_ (h:=e_ (Am (?_)))))
  refine Ba (fun m s=>∃j:Nat,j≤a0.size∧m=a0.size - j∧(∀(i:Nat) (h:i<a0.data.toList.length),i<j→a0.data.toList[i]≠0)∧s=⟨look [(0, .fp (Cu w F I)),(4, .v (.int .i64 (j:Int)))],⟨[],[]⟩⟩) (a0.size) ((wk 0 0)) (⟨0,Nat.zero_le _,rfl,fun i h1 h2=>by omega,rfl⟩) ?_
  rintro m s ⟨j,hj,rfl,hz,rfl⟩
  refine q_ (w_ (m_ (h:=m_ (h:=k_ (h:=f_ (h:=f_ (h:=l_ (h:=?_))))))))
  refine A6 rfl (CF (n:=0) rfl rfl rfl harg ?_)
  refine l_ (h:=n_ (h:=BG (h:=e_ (?_))))
  refine A8 rfl (fun hb9=>?_) (fun hb9=>?_)
  ·have hc9:=bp hb9
   have hlt:j<a0.size:=by omega
   refine AJ (q_ (Am (w_ (m_ (h:=k_ (h:=f_ (h:=f_ (h:=l_ (h:=?_)))))))))
   refine A6 rfl (CF (n:=0) rfl rfl rfl harg ?_)
   refine l_ (h:=m_ (h:=?_))
   refine A6 rfl (J4 (n:=j) Tryz.underlying9 rfl rfl rfl hlt ?_)
   refine AQ (h:=e_ (?_))
   refine A8 rfl (fun hb10=>?_) (fun hb10=>?_)
   ·have hc10:=bp hb10
    have hany:(a0.data.toList.any fun b=>decide (b=0))=true:=by
     rw[List.any_eq_true]
     refine⟨a0.data.toList[j]'(by simpa using hlt),List.getElem_mem _,?_⟩
     have h00:a0[j].toNat=0:=by have:=hc10;omega
     simp
     exact UInt8.toNat_inj.1 h00
    refine w_ (a_ (h:=e_ (A4 (AR (A7 (A7 (AR (AR (A7 (?_))))))))))
    refine AB ?_
    first|(exfalso;first|contradiction|omega)|(exact vi (by simp[Cf, *]))
   have hc10:=bp hb10
   have hne:a0.data.toList[j]'(by simpa using hlt)≠0:=by
    intro e
    have h00:¬a0[j].toNat=0:=by have:=hc10;omega
    simp at e
    exact h00 (congrArg UInt8.toNat e)
   refine BA (Ax (t_ (AP (m_ (h:=B8 (h:=a_ (h:=AO (?_))))))))
   refine AF ?_
   refine⟨_,_,?_,⟨j+1,by omega,rfl,(fun i h1 h2=>by
    by_cases e:i=j
    ·subst e;exact hne
    exact hz i h1 (by omega)),rfl⟩,(wk 0 0)⟩
   omega
  have hc9:=bp hb9
  have hany:(a0.data.toList.any fun b=>decide (b=0))=false:=by
   rw[List.any_eq_false]
   intro b hb
   obtain⟨i,hi,rfl⟩:=List.mem_iff_getElem.1 hb
   have:=hz i hi (by have hl:=Lib.size_eq a0;omega)
   simpa using this
  refine BR (Aq (Aq (BS (Ax (t_ (w_ (a_ (h:=e_ (A4 (?_))))))))))
  refine AB ?_
  first|(exfalso;first|contradiction|omega)|(exact vi (by simp[Cf, *]))
 have hc7:=bp hb7
 refine q_ (w_ (AQ (h:=a_ (h:=e_ (?_)))))
 refine A8 rfl (fun hb11=>?_) (fun hb11=>?_)
 ·have hc11:=bp hb11
  refine AJ (Bm (h:=w_ (?_)))
  refine A6 rfl (CG (len:=4) (sz:=1) (n:=0) (by kernel_rfl) rfl rfl rfl rfl ?_)
  refine l_ (h:=?_)
  refine A6 rfl (AK (RB w.c.a0) ?_)
  rintro r rfl
  refine BC (h:=e_ (?_))
  refine A8 rfl (fun hb12=>?_) (fun hb12=>?_)
  ·have hc12:=bp hb12
   refine w_ (a_ (h:=e_ (A4 (AR (A7 (?_))))))
   refine AB ?_
   first|(exfalso;first|contradiction|omega)|(exact vi (by simp[Cf, *]))
  have hc12:=bp hb12
  refine BA (Ax (t_ (w_ (a_ (h:=e_ (A4 (?_)))))))
  refine AB ?_
  first|(exfalso;first|contradiction|omega)|(exact vi (by simp[Cf, *]))
 have hc11:=bp hb11
 refine AP (AQ (h:=a_ (h:=e_ (?_))))
 refine A8 rfl (fun hb13=>?_) (fun hb13=>?_)
 ·have hc13:=bp hb13
  refine w_ (?_)
  refine A6 rfl (CG (len:=4) (sz:=1) (n:=0) (by kernel_rfl) rfl rfl rfl rfl ?_)
  refine l_ (h:=?_)
  refine A6 rfl (AK (RB w.c.a0) ?_)
  rintro r rfl
  refine BC (h:=e_ (?_))
  refine A8 rfl (fun hb14=>?_) (fun hb14=>?_)
  ·have hc14:=bp hb14
   refine w_ (a_ (h:=e_ (A4 (AR (A7 (?_))))))
   refine AB ?_
   first|(exfalso;first|contradiction|omega)|(exact vi (by simp[Cf, *]))
  have hc14:=bp hb14
  refine BA (Ax (t_ (w_ (a_ (h:=e_ (A4 (?_)))))))
  refine AB ?_
  first|(exfalso;first|contradiction|omega)|(exact vi (by simp[Cf, *]))
 have hc13:=bp hb13
 refine w_ (AQ (h:=a_ (h:=e_ (?_))))
 refine A8 rfl (fun hb15=>?_) (fun hb15=>?_)
 ·have hc15:=bp hb15
  refine w_ (?_)
  refine A6 rfl (CG (len:=4) (sz:=1) (n:=0) (by kernel_rfl) rfl rfl rfl rfl ?_)
  refine l_ (h:=BG (h:=m_ (h:=?_)))
  refine Ay false rfl rfl (fun hb16=>?_) (fun hb16=>?_)
  ·have hc16:=bp hb16
   refine A3 (h:=A3 (h:=A3 (h:=Af (h:=m_ (h:=A3 (h:=A3 (h:=A3 (h:=Af (h:=m_ (h:=A3 (h:=A3 (h:=A3 (h:=Af (h:=e_ (Bm (h:=w_ (a_ (h:=e_ (A4 (AR (A7 (?_))))))))))))))))))))))
   refine AB ?_
   first|(exfalso;first|contradiction|omega)|(exact vi (by simp[Cf, *]))
  have hc16:=bp hb16
  refine B4 (CG (len:=4) (sz:=1) (n:=0) (by kernel_rfl) rfl rfl rfl rfl ?_)
  refine l_ (h:=CW (h:=Ak (h:=m_ (h:=?_))))
  refine Ay false rfl rfl (fun hb17=>?_) (fun hb17=>?_)
  ·have hc17:=bp hb17
   refine A3 (h:=A3 (h:=A3 (h:=Af (h:=m_ (h:=A3 (h:=A3 (h:=A3 (h:=Af (h:=e_ (Bm (h:=w_ (a_ (h:=e_ (A4 (AR (A7 (?_)))))))))))))))))
   refine AB ?_
   first|(exfalso;first|contradiction|omega)|(exact vi (by simp[Cf, *]))
  have hc17:=bp hb17
  refine B4 (CG (len:=4) (sz:=1) (n:=1) (by kernel_rfl) rfl rfl rfl rfl ?_)
  refine l_ (h:=BG (h:=Ak (h:=m_ (h:=?_))))
  refine Ay false rfl rfl (fun hb18=>?_) (fun hb18=>?_)
  ·have hc18:=bp hb18
   refine A3 (h:=A3 (h:=A3 (h:=Af (h:=e_ (Bm (h:=w_ (a_ (h:=e_ (A4 (AR (A7 (?_))))))))))))
   refine AB ?_
   first|(exfalso;first|contradiction|omega)|(exact vi (by simp[Cf, *]))
  have hc18:=bp hb18
  refine B4 (CG (len:=4) (sz:=1) (n:=1) (by kernel_rfl) rfl rfl rfl rfl ?_)
  refine l_ (h:=CW (h:=Ak (h:=e_ (?_))))
  refine A8 rfl (fun hb19=>?_) (fun hb19=>?_)
  ·have hc19:=bp hb19
   refine w_ (a_ (h:=e_ (A4 (AR (A7 (?_))))))
   refine AB ?_
   first|(exfalso;first|contradiction|omega)|(exact vi (by simp[Cf, *]))
  have hc19:=bp hb19
  refine BA (Ax (t_ (w_ (a_ (h:=e_ (A4 (?_)))))))
  refine AB ?_
  first|(exfalso;first|contradiction|omega)|(exact vi (by simp[Cf, *]))
 have hc15:=bp hb15
 refine w_ (AQ (h:=a_ (h:=e_ (?_))))
 refine A8 rfl (fun hb20=>?_) (fun hb20=>?_)
 ·have hc20:=bp hb20
  refine w_ (m_ (h:=k_ (h:=f_ (h:=f_ (h:=l_ (h:=BK (h:=e_ (?_))))))))
  refine A8 rfl (fun hb21=>?_) (fun hb21=>?_)
  ·have hc21:=bp hb21
   refine w_ (a_ (h:=e_ (A4 (AR (A7 (?_))))))
   refine AB ?_
   first|(exfalso;first|contradiction|omega)|(exact vi (by simp[Cf, *]))
  have hc21:=bp hb21
  refine BA (Ax (t_ (w_ (a_ (h:=e_ (A4 (?_)))))))
  refine AB ?_
  first|(exfalso;first|contradiction|omega)|(exact vi (by simp[Cf, *]))
 have hc20:=bp hb20
 refine w_ (AQ (h:=a_ (h:=e_ (?_))))
 refine A8 rfl (fun hb22=>?_) (fun hb22=>?_)
 ·have hc22:=bp hb22
  refine w_ (?_)
  refine A6 rfl (CG (len:=4) (sz:=1) (n:=0) (by kernel_rfl) rfl rfl rfl rfl ?_)
  refine l_ (h:=BG (h:=e_ (?_)))
  refine A8 rfl (fun hb23=>?_) (fun hb23=>?_)
  ·have hc23:=bp hb23
   refine w_ (a_ (h:=e_ (A4 (AR (A7 (?_))))))
   refine AB ?_
   first|(exfalso;first|contradiction|omega)|(exact vi (by simp[Cf, *]))
  have hc23:=bp hb23
  refine BA (Ax (t_ (w_ (a_ (h:=e_ (A4 (?_)))))))
  refine AB ?_
  first|(exfalso;first|contradiction|omega)|(exact vi (by simp[Cf, *]))
 have hc22:=bp hb22
 refine BA (Ax (t_ (w_ (a_ (h:=e_ (A4 (?_)))))))
 refine AB ?_
 first|(exfalso;first|contradiction|omega)|(exact vi (by simp[Cf, *]))
end
def F1(n:Int):Int:=IntKind.i64.wrap (0 - n)
def Bh(s:Syst)(pid:Int)(c:Cal):Syst×Res:=
 if C1 s.tab pid=false then(s,{DX with exit:= -4})else if Bb c≠0 then(s,{DX with exit:= -22})
 else if(Dh s (AU s.tab pid) c).2.2≠0 then(s,{DX with exit:=F1 (Dh s (AU s.tab pid) c).2.2,items:=(Dh s (AU s.tab pid) c).1})
 else if(B9 (EC s pid c)).2≠0 then(s,{DX with exit:=F1 (B9 (EC s pid c)).2,items:=(Dh s (AU s.tab pid) c).1})
 else((B9 (EC s pid c)).1.s,(B9 (EC s pid c)).1.r)
def JJ(R:Syst×Res):AV:= .tup [.agg (BZ R.1), .agg (Di R.2)]
theorem WC{α:Type}{sz:Nat}{F:α→List AV}(hF:RowF sz F)(l:List α)(cap0 cap:Nat):((LB sz F l cap0).drop 0).take (l.length * sz)++List.replicate ((cap - l.length) * sz) .any=LB sz F l cap:=by
 unfold LB
 have h:=T8 (cap:=cap0) (KS hF l)
 rw[List.length_map]at h
 rw[h]
 unfold CJ
 rw[List.length_map]
def Ei:List AV:=[.v (.slice none 0 0), .v (.slice none 0 0), .v (.int .i64 0), .v (.int .i64 0), .v (.slice none 0 0)]
def FG:List AV:=[.v (.int .i64 0), .v (.int .i64 0), .v (.int .i64 0), .v (.slice none 0 0), .v (.slice none 0 0)]
def Fn(r:Res)(I:AV):List AV:=[.v (.int .i64 r.exit), .v (.int .i64 r.child), .v (.int .i64 r.gone),I, .sl 7 (r.changes.map CN) none]
def CL(s:Syst)(pid:Int)(c:Cal):Wrk:=⟨s,AU s.tab pid,c,[],DX⟩
theorem RU(s:Syst)(pid:Int)(c:Cal):LeA (.agg (BZ s++(Av (AU s.tab pid)++(DA c++[.v (.slice none 0 0), .v (.int .i64 0), .v (.int .i64 0), .v (.int .i64 0), .v (.slice none 0 0), .v (.slice none 0 0)])))) (.agg (Cu (CL s pid c) (.v (.slice none 0 0)) (.v (.slice none 0 0)))):=by
 refine LeA.agg ?_
 repeat (first|exact LeL.nil|refine LeL.cons (LeA.refl _) ?_|refine LeL.cons (LeA.nil _) ?_)
theorem LQ(w:Wrk)(R:DR):(BO w R).1.r.items.length=w.r.items.length:=by
 unfold BO
 split<;>rfl
theorem Oe(w:Wrk)(R:Tab×Int):(C4 w R).1.r.items.length=w.r.items.length:=by
 unfold C4
 split<;>rfl
theorem RV(w:Wrk)(i:Nat)(a:A9):(GX w i a).r.items.length=w.r.items.length:=List.length_modify ..
theorem WD(w:Wrk)(i:Nat)(r:Int):(Fi w i r).r.items.length=w.r.items.length:=List.length_modify ..
theorem RW(w:Wrk)(i:Nat)(n:Nod):(CR w i n).1.r.items.length=w.r.items.length:=by
 unfold CR
 split
 ·rw[RV,LQ]
 rfl
theorem WE(w:Wrk)(a:A9):(G7 w a).1.r.items.length=w.r.items.length:=by
 unfold G7
 rw[Oe]
 rfl
theorem WF(w:Wrk):(C9 w).1.r.items.length=w.r.items.length:=by
 unfold C9
 repeat' split
 all_goals first|rfl|exact RW _ _ _|exact WE _ _|exact(WE _ _).trans (RW _ _ _)
theorem gK(w:Wrk)(R:DR)(x:A9):(GZ w R x).1.r.items.length=w.r.items.length:=by
 unfold GZ
 repeat' split
 all_goals first|rfl|exact LQ _ _|exact(RV _ _ _).trans ((WD _ _ _).trans (LQ _ _))
theorem WG(w:Wrk):(Dg w).1.r.items.length=w.r.items.length:=by
 unfold Dg
 repeat' split
 all_goals first|rfl|exact gK _ _ _
theorem gL{w:Wrk}(h:w.c.num=6∨w.c.num=13):(B9 w).1.r.items.length=w.r.items.length:=by
 rcases h with h|h
 ·rw[B9,if_pos h];exact WF w
 rw[B9,if_neg (show¬w.c.num=6 by omega),if_neg (show¬w.c.num=8 by omega),if_neg (show¬(w.c.num=10∨w.c.num=12) by omega),if_pos h];exact WG w
section
variable {P:Program}{ev:Operand→Option AV}{h:AH}{R:AV→AH→Prop}{d:Option Tmp}{ty:TypeId}{pos:String}{af:Array Edge}{gd:Option (Nat×Bool)}
theorem RX{T:TypeId}{x:Operand}{a:Int}(hx:ev x=some (.v (.int .i64 a)))(hR:R (.v (.int .i64 (F1 a))) h):AStep P ⟨d, .unOp .neg T x,ty,pos,af,gd⟩ ev h R:=
 D4 (fun _ G w ec _ he=>⟨.int .i64 (F1 a),by
  have h1:=he x (by simp[Op.operands]) _ hx
  simp only[rep]at h1
  simp[execOp,h1,Op.unary,Op.intArith,F1],by simp only[rep]⟩) hR
end
section
theorem gM(w:Wrk)(cap:Nat)(hv:SpcV w.s.spc)(hm:w.s.spc.mounts.length≤1000)(htb:TabB w.s.tab)(hnm:∀f∈w.found,f.name.size≤12)(h6:(w.c.num=6∧1≤w.found.length∧1≤w.r.items.length)∨(w.c.num=13∧2≤w.found.length∧2≤w.r.items.length)):ACall Tryz.prog 68 [.bp 0 0] [WA w cap,IB w cap] (fun r b t=>t=[]∧r= .v (.int .i64 (B9 w).2)∧b=[WA (B9 w).1 cap,IB (B9 w).1 cap]):=by
 have hps:w.s.tab.ps.length≤1000:=by have:=htb.few;omega
 refine enter Tryz.func68 rfl rfl rfl rfl rfl 2 rfl ?_
 refine w_ (a_ (h:=e_ (q_ (w_ (m_ (h:=k_ (h:=f_ (h:=f_ (h:=l_ (h:=e_ (Am (w_ (AQ (h:=a_ (h:=e_ (?_))))))))))))))))
 refine A8 rfl (fun hb1=>?_) (fun hb1=>?_)
 ·have hc1:=bp hb1
  obtain⟨f,hf⟩:∃f,w.found[0]?=some f:=⟨_,B3 (by omega)⟩
  obtain⟨x,hx⟩:∃x,w.r.items[0]?=some x:=⟨_,B3 (by omega)⟩
  have hact:B9 w=C9 w:=by rw[B9,if_pos hc1]
  refine w_ (m_ (h:=?_))
  refine A6 rfl (BW [0,1] rfl (.cons _ _ _ _ _ rfl (LeA.refl _) .nil) (by decide) (.cons _ _ _ _ _ rfl rfl (.cons _ _ _ _ _ rfl (Ch B0 _ _ _) .nil)) (Vu w cap f x hv hm htb hf hx (by have:=hnm f (Au hf);omega)) ?_)
  rintro r bc tc ⟨rfl,rfl,rfl⟩
  refine⟨rfl,_,D2 rfl (C9 w).1 cap,?_⟩
  refine a_ (h:=e_ (A4 (AR (A7 (?_)))))
  refine BN (r:= .v (.int .i64 (B9 w).2)) none (h5:=(by rw[hact];exact LeA.refl _)) (h6:=⟨rfl,rfl,?_⟩)
  rw[hact]
  rfl
 have hc1:=bp hb1
 refine w_ (AQ (h:=a_ (h:=e_ (?_))))
 refine A8 rfl (fun hb2=>?_) (fun hb2=>?_)
 ·have hc2:=bp hb2
  exfalso;first|contradiction|omega
 have hc2:=bp hb2
 refine q_ (w_ (AQ (h:=a_ (h:=e_ (?_)))))
 refine A8 rfl (fun hb3=>?_) (fun hb3=>?_)
 ·have hc3:=bp hb3
  exfalso;first|contradiction|omega
 have hc3:=bp hb3
 refine AP (AQ (h:=a_ (h:=e_ (?_))))
 refine A8 rfl (fun hb4=>?_) (fun hb4=>?_)
 ·have hc4:=bp hb4
  exfalso;first|contradiction|omega
 have hc4:=bp hb4
 refine w_ (AQ (h:=a_ (h:=e_ (?_))))
 refine A8 rfl (fun hb5=>?_) (fun hb5=>?_)
 ·have hc5:=bp hb5
  obtain⟨f,hf⟩:∃f,w.found[0]?=some f:=⟨_,B3 (by omega)⟩
  obtain⟨g,hg⟩:∃f,w.found[1]?=some f:=⟨_,B3 (by omega)⟩
  obtain⟨x,hx⟩:∃x,w.r.items[0]?=some x:=⟨_,B3 (by omega)⟩
  obtain⟨x1,hx1⟩:∃x,w.r.items[1]?=some x:=⟨_,B3 (by omega)⟩
  have hact:B9 w=Dg w:=by rw[B9,if_neg (show¬w.c.num=6 by omega),if_neg (show¬w.c.num=8 by omega),if_neg (show¬(w.c.num=10∨w.c.num=12) by omega),if_pos hc5]
  refine w_ (m_ (h:=?_))
  refine A6 rfl (BW [0,1] rfl (.cons _ _ _ _ _ rfl (LeA.refl _) .nil) (by decide) (.cons _ _ _ _ _ rfl rfl (.cons _ _ _ _ _ rfl (Ch B0 _ _ _) .nil)) (W8 w cap f g x x1 hv hm hps hf hg hx hx1 (by have:=hnm f (Au hf);omega) (by have:=hnm g (Au hg);omega)) ?_)
  rintro r bc tc ⟨rfl,rfl,rfl⟩
  refine⟨rfl,_,D2 rfl (Dg w).1 cap,?_⟩
  refine a_ (h:=e_ (A4 (AR (A7 (?_)))))
  refine BN (r:= .v (.int .i64 (B9 w).2)) none (h5:=(by rw[hact];exact LeA.refl _)) (h6:=⟨rfl,rfl,?_⟩)
  rw[hact]
  rfl
 have hc5:=bp hb5
 exfalso;first|contradiction|omega
theorem RY(s:Syst)(pid:Int)(c:Cal)(hv:SpcV s.spc)(hm:s.spc.mounts.length≤1000)(ht:TabB s.tab)(hcp:c.paths.length≤1000)(hca:c.args.length≤1000)(h6:c.num=6∨c.num=13):AFn Tryz.prog 35 [.agg (BZ s), .v (.int .i64 pid), .agg (DA c)] (fun r=>r=JJ (Bh s pid c)):=by
 have hsb:=hv.b hm
 obtain⟨W1,hW1⟩:∃W,W=EC s pid c:=⟨_,rfl⟩
 have hwf:=RS s pid c
 rw[←hW1]at hwf
 have hWs:W1.s=s:=by rw[hW1];rfl
 have hWc:W1.c=c:=by rw[hW1];rfl
 refine enter Tryz.func35 rfl rfl rfl rfl rfl 0 rfl ?_
 refine w_ (b_ (h:=b_ (h:=AW (h:=AW (h:=e_ (w_ (f_ (h:=l_ (h:=m_ (h:=?_))))))))))
 refine A6 rfl (AK (Fl s.tab pid ht) ?_)
 rintro r rfl
 refine m_ (h:=x_ (h:=x_ (h:=AW (h:=s_ (h:=a_ (h:=e_ (q_ (w_ (m_ (h:=BC (h:=e_ (?_))))))))))))
 refine A8 rfl (fun hb1=>?_) (fun hb1=>?_)
 ·have hc1:=bp hb1
  have hno:C1 s.tab pid=false:=by simpa using hc1
  refine w_ (l_ (h:=?_))
  refine A6 rfl (AK (Ge s hsb ht) ?_)
  rintro r rfl
  refine A6 rfl (ET (y:= .agg (Di {DX with exit:= -4})) (Co ⟨rfl,rfl⟩) ?_)
  refine s_ (h:=s_ (h:=e_ (A4 (A7 (?_)))))
  refine AB ?_
  rw[Bh,if_pos hno];rfl
 have hc1:=bp hb1
 have hno:¬C1 s.tab pid=false:=by simpa using hc1
 refine AJ (q_ (w_ (l_ (h:=?_))))
 refine A6 rfl (AK (RC c hcp hca) ?_)
 rintro r rfl
 refine BK (h:=e_ (?_))
 refine A8 rfl (fun hb2=>?_) (fun hb2=>?_)
 ·have hc2:=bp hb2
  have hck:Bb c≠0:=by simpa using hc2
  refine w_ (l_ (h:=?_))
  refine A6 rfl (AK (Ge s hsb ht) ?_)
  rintro r rfl
  refine A6 rfl (ET (y:= .agg (Di {DX with exit:= -22})) (Co ⟨rfl,rfl⟩) ?_)
  refine s_ (h:=s_ (h:=e_ (A4 (A7 (?_)))))
  refine AB ?_
  rw[Bh,if_neg hno,if_pos hck];rfl
 have hc2:=bp hb2
 have hck:Bb c=0:=by simpa using hc2
 obtain⟨hk1,hk2,hk3,hk4,hk5⟩:=RR hck
 have hargs:∀p∈(CL s pid c).c.args,p.size≤1000:=fun p hp=>by have:=hk5 p hp;omega
 have hpaths:∀p∈(CL s pid c).c.paths,p.size≤100000:=fun p hp=>by have:=hk4 p hp;omega
 have hpn:(c.num=6∧c.paths.length=1∧(C8 c).length=1)∨(c.num=13∧c.paths.length=2∧(C8 c).length=2):=by
  rcases h6 with h|h
  ·refine .inl ⟨h,?_,?_⟩
   ·rw[h]at hk1;have:(Bj 6).2.2.1=1:=rfl;omega
   simp[C8,h]
  refine .inr ⟨h,?_,?_⟩
  ·rw[h]at hk1;have:(Bj 13).2.2.1=2:=rfl;omega
  simp[C8,h]
 have hpp:(CL s pid c).c.paths.length=(C8 (CL s pid c).c).length:=by show c.paths.length=(C8 c).length;omega
 have hp0:0<(CL s pid c).c.paths.length:=by show 0<c.paths.length;omega
 have hzl:(c.paths.zip (C8 c)).length=c.paths.length:=by rw[List.length_zip];omega
 have hil0:0<W1.r.items.length:=by rw[hwf.2.2,hzl];omega
 refine AJ (q_ (BF ([(0,BZ s),(1,DA c),(4,Av (AU s.tab pid))]) 7 (h:=?_)))
 refine AD 0 (h:=?_)
 refine AD 2 (h:=?_)
 refine AD 3 (h:=?_)
 refine c_ 1 rfl (AK (Ge s hsb ht) ?_)
 rintro r rfl
 refine o_ (h:=?_)
 refine Bn 4 rfl (fun _ hS=>En (y:= .agg (Cu (CL s pid c) (.v (.slice none 0 0)) (.v (.slice none 0 0)))) (Co ⟨rfl,rfl⟩) (RU s pid c) ⟨rfl,rfl⟩) ?_
 refine c_ 5 rfl (Lt rfl rfl (by repeat constructor) ?_)
 refine o_ (h:=BB 6 (h:=z_ (h:=t_ (?_))))
 refine B5 (fun S=>∃cap,W1.r.items.length≤cap∧S=⟨look [(3, .bp 2 0),(6, .bp 3 0),(7, .bp 4 0),(10, .bp 0 0),(11, .v (.int .i64 (Dh s (AU s.tab pid) c).2.2))],⟨[WA W1 cap,IB W1 cap,BZ s,Ei,FG],[]⟩⟩) ?_ ?_
 ·skip
  refine AP (m_ (h:=m_ (h:=?_)))
  refine A6 rfl (Cg 1 rfl (.cons _ _ _ _ _ rfl (LeA.of_eq rfl) .nil) (RT (CL s pid c) (.v (.slice none 0 0)) (.v (.slice none 0 0)) (fun h=>by have:c.num=9:=h;omega) hargs) ?_)
  rintro r rfl
  refine⟨rfl,?_⟩
  refine A6 rfl (BW [5] rfl (.cons _ _ _ _ _ rfl (LeA.refl _) (.cons _ _ _ _ _ rfl (LeA.refl _) .nil)) (by decide) (.cons _ _ _ _ _ rfl rfl .nil) (Vr (CL s pid c) (Cf (AU s.tab pid) c) hv hm hpp (by show c.paths.length≤1000;omega) hp0 hpaths) ?_)
  rintro r bc tc ⟨rfl,cap,hcap,rfl,rfl⟩
  refine⟨rfl,_,WB (CL s pid c) _ _ cap _,?_⟩
  refine a_ (h:=AO (?_))
  refine AF ?_
  rw[hW1]
  exact⟨_,⟨cap,hcap,rfl⟩,E7 [5,6,0,2,3] (fun i hi=>absurd hi (Nat.not_lt_zero i)) (by decide) (.cons _ _ _ _ _ rfl rfl (.cons _ _ _ _ _ rfl (Gb B0 _ _ _) (.cons _ _ _ _ _ rfl rfl (.cons _ _ _ _ _ rfl rfl (.cons _ _ _ _ _ rfl rfl .nil))))) (by repeat (first|exact SubK.nil|refine SubK.cons _ _ _ _ rfl (LeA.refl _) ?_))⟩
 rintro S ⟨cap,hcap,rfl⟩
 refine w_ (m_ (h:=k_ (h:=f_ (h:=f_ (h:=l_ (h:=?_))))))
 refine A6 rfl (M1 rfl rfl (SrcA.bs 1 0 _ cap _ rfl (by rw[show IB W1 cap=LB 13 BY W1.r.items cap from rfl,Mv B0 hcap];omega)) hil0 (by rw[hwf.2.2,hzl];omega) ?_)
 rintro cap2 k bx2 hcp2 hs
 rw[show((IB W1 cap).drop 0).take (W1.r.items.length * 13)++List.replicate ((cap2 - W1.r.items.length) * 13) AV.any=LB 13 BY W1.r.items cap2 from WC B0 _ cap cap2]at hs
 obtain⟨rfl,rfl⟩:k=5∧bx2=[_,_,_,_,_,_]:=hs.eq
 refine a_ (h:=e_ (?_))
 refine B5 (fun S=>∃(W2:Wrk) (E2:Int),((¬(Dh s (AU s.tab pid) c).2.2=0∧E2=(Dh s (AU s.tab pid) c).2.2)∨((Dh s (AU s.tab pid) c).2.2=0∧W2=(B9 W1).1∧E2=(B9 W1).2))∧S=⟨look [(3, .bp 2 0),(6, .bp 3 0),(7, .bp 4 0),(10, .bp 0 0),(11, .v (.int .i64 E2)),(12, .bs 5 0 13 W1.r.items.length cap2)],⟨[WA W2 cap,IB W2 cap,BZ s,Ei,FG,LB 13 BY W1.r.items cap2],[]⟩⟩) ?_ ?_
 ·skip
  refine w_ (m_ (h:=AQ (h:=e_ (?_))))
  refine A8 rfl (fun hb3=>?_) (fun hb3=>?_)
  ·have hc3:=bp hb3
   have he1:(Dh s (AU s.tab pid) c).2.2=0:=by simpa using hc3
   refine AP (m_ (h:=?_))
   refine A6 rfl (BW [0,1] rfl (.cons _ _ _ _ _ rfl (LeA.refl _) .nil) (by decide) (.cons _ _ _ _ _ rfl rfl (.cons _ _ _ _ _ rfl (Ch B0 _ _ _) .nil)) (gM W1 cap (by rw[hWs];exact hv) (by rw[hWs];exact hm) (by rw[hWs];exact ht) hwf.1 (by rw[hWc,hwf.2.1,hwf.2.2,hzl];omega)) ?_)
   rintro r bc tc ⟨rfl,rfl,rfl⟩
   refine⟨rfl,_,D2 rfl (B9 W1).1 cap,?_⟩
   refine a_ (h:=AO (?_))
   refine AF ?_
   exact⟨_,⟨(B9 W1).1,(B9 W1).2, .inr ⟨he1,rfl,rfl⟩,rfl⟩,B1 6 0 rfl rfl rfl (by simp[Ag,Ab,Ac,Bc B0,BD,WA,IB,CD,BZ,Ei,FG]) ((by repeat (first|exact Sub.nil|refine Sub.cons _ _ _ rfl rfl ?_|refine Sub.any _ _ ?_|refine Sub.sl _ _ _ _ _ rfl ?_|refine Sub.slnil _ _ _ rfl ?_)))⟩
  have hc3:=bp hb3
  have he1:¬(Dh s (AU s.tab pid) c).2.2=0:=by simpa using hc3
  refine BA (?_)
  refine AF ?_
  first|exact⟨_,⟨(B9 W1).1,(B9 W1).2, .inr ⟨he1,rfl,rfl⟩,rfl⟩,B1 6 0 rfl rfl rfl (by simp[Ag,Ab,Ac,Bc B0,BD,WA,IB,CD,BZ,Ei,FG]) ((by repeat (first|exact Sub.nil|refine Sub.cons _ _ _ rfl rfl ?_|refine Sub.any _ _ ?_|refine Sub.sl _ _ _ _ _ rfl ?_|refine Sub.slnil _ _ _ rfl ?_)))⟩|exact⟨_,⟨W1,_, .inl ⟨he1,rfl⟩,rfl⟩,B1 6 0 rfl rfl rfl (by simp[Ag,Ab,Ac,Bc B0,BD,WA,IB,CD,BZ,Ei,FG]) ((by repeat (first|exact Sub.nil|refine Sub.cons _ _ _ rfl rfl ?_|refine Sub.any _ _ ?_|refine Sub.sl _ _ _ _ _ rfl ?_|refine Sub.slnil _ _ _ rfl ?_)))⟩
 rintro S ⟨W2,E2,hQ,rfl⟩
 refine q_ (w_ (m_ (h:=BK (h:=e_ (?_)))))
 refine A8 rfl (fun hb4=>?_) (fun hb4=>?_)
 ·have hc4:=bp hb4
  have he2:E2≠0:=by simpa using hc4
  have hrun:Bh s pid c=(s,{DX with exit:=F1 E2,items:=W1.r.items}):=by
   rw[Bh,if_neg hno,if_neg (by simp[hck])]
   rcases hQ with⟨q1,q2⟩|⟨q1,q2,q3⟩
   ·rw[if_pos q1,←q2,hW1];rfl
   rw[if_neg (by simp[q1]),←hW1,←q3,if_pos he2,hW1];rfl
  refine B5 (fun S=>S=⟨look [(6, .bp 0 0),(7, .bp 1 0)],⟨[BZ s,Fn {DX with exit:=F1 E2} (.sl 13 (W1.r.items.map BY) none)],[]⟩⟩) ?_ ?_
  ·skip
   refine AP (l_ (h:=?_))
   refine A6 rfl (AK (Ge s hsb ht) ?_)
   rintro r rfl
   refine m_ (h:=?_)
   refine A6 rfl (RX rfl ?_)
   refine m_ (h:=?_)
   refine A6 rfl (ET (y:= .agg (Fn {DX with exit:=F1 E2} (.bs 5 0 13 W1.r.items.length cap2))) (Co ⟨rfl,rfl⟩) ?_)
   refine s_ (h:=s_ (h:=AO (?_)))
   refine AF ?_
   refine⟨_,rfl,(E7 [3,4,5] (rows:=[BZ s,Fn {DX with exit:=F1 E2} (.bs 2 0 13 W1.r.items.length cap2),LB 13 BY W1.r.items cap2]) (l:=[(6, .bp 0 0),(7, .bp 1 0)]) (fun i hi=>absurd hi (Nat.not_lt_zero i)) (by decide) (.cons _ _ _ _ _ rfl rfl (.cons _ _ _ _ _ rfl rfl (.cons _ _ _ _ _ rfl (Gb B0 _ _ _) .nil))) (by repeat (first|exact SubK.nil|refine SubK.cons _ _ _ _ rfl (LeA.refl _) ?_))).trans (Er 2 1 rfl (congrArg (fun x=>[BZ s,Fn {DX with exit:=F1 E2} x]) (KT B0 rfl rfl hcp2)) (.cons _ _ _ _ rfl (LeA.refl _) (.cons _ _ _ _ rfl (LeA.refl _) .nil)))⟩
  rintro S rfl
  refine A4 (A7 (?_))
  refine Ai (r:=JJ (Bh s pid c)) none (h5:=(by rw[hrun];exact(by repeat (first|exact LeA.refl _|exact LeA.nil _|exact LeL.refl _|refine LeA.agg ?_|refine LeA.tup ?_|exact LeL.nil|refine LeL.cons ?_ ?_|exact LeA.any _)))) (h6:=⟨rfl,rfl,rfl⟩)
 have hc4:=bp hb4
 have he2:E2=0:=by simpa using hc4
 have hlen2:W2.r.items.length≤cap:=by
  rcases hQ with⟨q1,q2⟩|⟨q1,q2,q3⟩
  ·exact absurd (q2.symm.trans he2) q1
  rw[q2,gL (by rw[hWc];exact h6)];exact hcap
 have hrun:Bh s pid c=(W2.s,W2.r):=by
  rcases hQ with⟨q1,q2⟩|⟨q1,q2,q3⟩
  ·exact absurd (q2.symm.trans he2) q1
  rw[Bh,if_neg hno,if_neg (by simp[hck]),if_neg (by simp[q1]),←hW1,←q3,if_neg (by simp[he2]),q2]
 refine AJ (?_)
 refine B5 (fun S=>S=⟨look [(6, .bp 0 0),(7, .bp 1 0)],⟨[BZ W2.s,Fn W2.r (.sl 13 (W2.r.items.map BY) none)],[]⟩⟩) ?_ ?_
 ·skip
  refine BF ([(0,WA W2 cap)]) 10 (h:=AN 0 (h:=B7 1 (h:=AE 2 (h:=AD 3 (h:=AN 4 (h:=B7 5 (h:=AE 6 (h:=AD 7 (h:=?_)))))))))
  refine Az 8 rfl (Aw rfl rfl rfl rfl rfl rfl (by repeat constructor) (by repeat constructor) ?_)
  refine o_ (h:=?_)
  refine Az 9 rfl (Aw rfl rfl rfl rfl rfl rfl (by repeat constructor) (by repeat constructor) ?_)
  refine o_ (h:=z_ (h:=?_))
  refine AF ?_
  refine⟨_,rfl,(E7 [3,4,1] (rows:=[BZ W2.s,Fn W2.r (.bs 2 0 13 W2.r.items.length cap),LB 13 BY W2.r.items cap]) (l:=[(6, .bp 0 0),(7, .bp 1 0)]) (fun i hi=>absurd hi (Nat.not_lt_zero i)) (by decide) (.cons _ _ _ _ _ rfl rfl (.cons _ _ _ _ _ rfl rfl (.cons _ _ _ _ _ rfl (Gb B0 _ _ _) .nil))) (by repeat (first|exact SubK.nil|refine SubK.cons _ _ _ _ rfl (LeA.refl _) ?_))).trans (Er 2 1 rfl (congrArg (fun x=>[BZ W2.s,Fn W2.r x]) (KT B0 rfl rfl hlen2)) (.cons _ _ _ _ rfl (LeA.refl _) (.cons _ _ _ _ rfl (LeA.refl _) .nil)))⟩
 rintro S rfl
 refine A4 (?_)
 refine AB ?_
 rw[hrun];rfl
end
theorem WH(w:Wrk)(R:DR):(BO w R).1.r.items=w.r.items:=by
 unfold BO
 split<;>rfl
section
theorem gN(w:Wrk)(cap:Nat)(f g:Fnd)(x1:Itm)(hv:SpcV w.s.spc)(hm:w.s.spc.mounts.length≤1000)(hf:w.found[0]?=some f)(hg:w.found[1]?=some g)(hx1:w.r.items[1]?=some x1)(hn2:g.name.size≤100000):ACall Tryz.prog 115 [.bp 0 0] [WA w cap,IB w cap] (fun r b t=>t=[]∧r= .v (.int .i64 (EO w).2)∧b=[WA (EO w).1 cap,IB (EO w).1 cap]):=by
 have hsb:=hv.b hm
 have hrow0:(w.found.map Al)[0]?=some (Al f):=by rw[List.getElem?_map,hf];rfl
 have hrow1:(w.found.map Al)[1]?=some (Al g):=by rw[List.getElem?_map,hg];rfl
 have hfn:B2 w 0=f:=by unfold B2;rw[hf];rfl
 have hgn:B2 w 1=g:=by unfold B2;rw[hg];rfl
 obtain⟨R,hR⟩:∃R,R=Dd w.s.spc.files g.dir g.name f.file:=⟨_,rfl⟩
 have hok:=UC hv.files g.dir g.name f.file
 rw[←hR]at hok
 have hcall:AFn Tryz.prog 46 [.agg (At w.s.spc.files), .agg (AA g.dir), .v (.string g.name), .agg (AA f.file)] (fun r=>r=CK R):=by rw[hR];exact ZP _ _ _ _ hv.files hn2
 have hlk:EO w=if f.ex=false then(w,2)else if AY w.s.spc.files f.file=true then(w,1)else if g.ex=true then(w,17)else if g.slash=true then(w,2)else if f.file.1≠g.dir.1 then(w,18)else if C3 w g.dir 2=false then(w,13)else if R.2.2≠0 then(w,R.2.2)else(GX (BO w R).1 1 f.file,0):=by
  unfold EO GW
  rw[hfn,hgn,←hR]
 clear hR
 refine enter Tryz.func115 rfl rfl rfl rfl rfl 2 rfl ?_
 refine w_ (a_ (h:=e_ (?_)))
 refine B5 (fun S=>S=⟨look [(0, .bp 0 0),(3, .bp 2 0),(4, .bp 3 0)],⟨[WA w cap,IB w cap,Al f,Al g],[]⟩⟩) ?_ ?_
 ·skip
  refine BF ([(0,WA w cap)]) 16 (h:=AN 0 (h:=B7 1 (h:=AE 2 (h:=AD 3 (h:=?_)))))
  refine Bn 4 rfl (fun _ hS=>CF (n:=0) rfl rfl rfl hrow0 ⟨rfl,rfl⟩) ?_
  refine AD 5 (h:=AN 6 (h:=B7 7 (h:=AE 8 (h:=AD 9 (h:=?_)))))
  refine Bn 10 rfl (fun _ hS=>CF (n:=1) rfl rfl rfl hrow1 ⟨rfl,rfl⟩) ?_
  refine AD 11 (h:=?_)
  refine E0 12 13 rfl rfl ?_ ?_
  ·refine Bw (by repeat constructor) ?_
   refine o_ (h:=?_)
   refine c_ 13 rfl (Bw (by repeat constructor) ?_)
   refine o_ (h:=?_)
   refine Az 14 rfl (Aw rfl rfl rfl rfl rfl rfl (by repeat constructor) (by repeat constructor) ?_)
   refine o_ (h:=?_)
   refine Az 15 rfl (Aw rfl rfl rfl rfl rfl rfl (by repeat constructor) (by repeat constructor) ?_)
   refine o_ (h:=z_ (h:=?_))
   refine AF ?_
   exact⟨_,rfl,CS 4 0⟩
  refine Bw (by repeat constructor) ?_
  refine o_ (h:=?_)
  refine c_ 12 rfl (Bw (by repeat constructor) ?_)
  refine o_ (h:=?_)
  refine Az 14 rfl (Aw rfl rfl rfl rfl rfl rfl (by repeat constructor) (by repeat constructor) ?_)
  refine o_ (h:=?_)
  refine Az 15 rfl (Aw rfl rfl rfl rfl rfl rfl (by repeat constructor) (by repeat constructor) ?_)
  refine o_ (h:=z_ (h:=?_))
  refine AF ?_
  first|exact⟨_,rfl,CS 4 0⟩|exact⟨_,rfl,E7 [0,1,3,2] OA (by decide) (.cons _ _ _ _ _ rfl rfl (.cons _ _ _ _ _ rfl (Gb B0 _ _ _) (.cons _ _ _ _ _ rfl rfl (.cons _ _ _ _ _ rfl rfl .nil)))) (by repeat (first|exact SubK.nil|refine SubK.cons _ _ _ _ rfl (LeA.refl _) ?_))⟩
 rintro S rfl
 refine q_ (Am (w_ (f_ (h:=l_ (h:=BC (h:=a_ (h:=e_ (?_))))))))
 refine A8 rfl (fun hb1=>?_) (fun hb1=>?_)
 ·have hc1:=bp hb1
  have k1:f.ex=false:=by simpa using hc1
  refine w_ (a_ (h:=e_ (A4 (AR (A7 (?_))))))
  refine BN (r:= .v (.int .i64 (EO w).2)) none (h5:=(by rw[hlk,if_pos k1];exact LeA.refl _)) (h6:=⟨rfl,rfl,?_⟩)
  rw[hlk,if_pos k1]
  rfl
 have hc1:=bp hb1
 have k1:¬f.ex=false:=by simpa using hc1
 refine w_ (m_ (h:=?_))
 refine A6 rfl (Cg 1 rfl (.cons _ _ _ _ _ rfl (LeA.of_eq rfl) (.cons _ _ _ _ _ rfl (LeA.refl _) .nil)) (Jn w .any 0 f hsb hf) ?_)
 rintro r rfl
 refine⟨rfl,?_⟩
 refine a_ (h:=e_ (?_))
 refine A8 rfl (fun hb2=>?_) (fun hb2=>?_)
 ·have hc2:=bp hb2
  have k2:AY w.s.spc.files f.file=true:=hc2
  refine w_ (a_ (h:=e_ (A4 (AR (A7 (?_))))))
  refine BN (r:= .v (.int .i64 (EO w).2)) none (h5:=(by rw[hlk,if_neg k1,if_pos k2];exact LeA.refl _)) (h6:=⟨rfl,rfl,?_⟩)
  rw[hlk,if_neg k1,if_pos k2]
  rfl
 have hc2:=bp hb2
 have k2:¬AY w.s.spc.files f.file=true:=by simpa using hc2
 refine w_ (f_ (h:=l_ (h:=a_ (h:=e_ (?_)))))
 refine A8 rfl (fun hb3=>?_) (fun hb3=>?_)
 ·have hc3:=bp hb3
  have k3:g.ex=true:=hc3
  refine w_ (a_ (h:=e_ (A4 (AR (A7 (?_))))))
  refine BN (r:= .v (.int .i64 (EO w).2)) none (h5:=(by rw[hlk,if_neg k1,if_neg k2,if_pos k3];exact LeA.refl _)) (h6:=⟨rfl,rfl,?_⟩)
  rw[hlk,if_neg k1,if_neg k2,if_pos k3]
  rfl
 have hc3:=bp hb3
 have k3:¬g.ex=true:=by simpa using hc3
 refine w_ (f_ (h:=l_ (h:=a_ (h:=e_ (?_)))))
 refine A8 rfl (fun hb4=>?_) (fun hb4=>?_)
 ·have hc4:=bp hb4
  have k4:g.slash=true:=hc4
  refine w_ (a_ (h:=e_ (A4 (AR (A7 (?_))))))
  refine BN (r:= .v (.int .i64 (EO w).2)) none (h5:=(by rw[hlk,if_neg k1,if_neg k2,if_neg k3,if_pos k4];exact LeA.refl _)) (h6:=⟨rfl,rfl,?_⟩)
  rw[hlk,if_neg k1,if_neg k2,if_neg k3,if_pos k4]
  rfl
 have hc4:=bp hb4
 have k4:¬g.slash=true:=by simpa using hc4
 refine w_ (f_ (h:=f_ (h:=l_ (h:=f_ (h:=f_ (h:=l_ (h:=BK (h:=a_ (h:=e_ (?_))))))))))
 refine A8 rfl (fun hb5=>?_) (fun hb5=>?_)
 ·have hc5:=bp hb5
  have k5:f.file.1≠g.dir.1:=by simpa using hc5
  refine w_ (a_ (h:=e_ (A4 (AR (A7 (?_))))))
  refine BN (r:= .v (.int .i64 (EO w).2)) none (h5:=(by rw[hlk,if_neg k1,if_neg k2,if_neg k3,if_neg k4,if_pos k5];exact LeA.refl _)) (h6:=⟨rfl,rfl,?_⟩)
  rw[hlk,if_neg k1,if_neg k2,if_neg k3,if_neg k4,if_pos k5]
  rfl
 have hc5:=bp hb5
 have k5:¬f.file.1≠g.dir.1:=by simpa using hc5
 refine w_ (m_ (h:=f_ (h:=l_ (h:=?_))))
 refine A6 rfl (Cg 1 rfl (.cons _ _ _ _ _ rfl (LeA.of_eq rfl) (.cons _ _ _ _ _ rfl (LeA.refl _) (.cons _ _ _ _ _ rfl (LeA.refl _) .nil))) (H0 w .any g.dir 2 hsb) ?_)
 rintro r rfl
 refine⟨rfl,?_⟩
 refine BC (h:=a_ (h:=e_ (?_)))
 refine A8 rfl (fun hb6=>?_) (fun hb6=>?_)
 ·have hc6:=bp hb6
  have k6:C3 w g.dir 2=false:=by simpa using hc6
  refine w_ (a_ (h:=e_ (A4 (AR (A7 (?_))))))
  refine BN (r:= .v (.int .i64 (EO w).2)) none (h5:=(by rw[hlk,if_neg k1,if_neg k2,if_neg k3,if_neg k4,if_neg k5,if_pos k6];exact LeA.refl _)) (h6:=⟨rfl,rfl,?_⟩)
  rw[hlk,if_neg k1,if_neg k2,if_neg k3,if_neg k4,if_neg k5,if_pos k6]
  rfl
 have hc6:=bp hb6
 have k6:¬C3 w g.dir 2=false:=by simpa using hc6
 refine BA (Ax (t_ (?_)))
 refine B5 (fun S=>S=⟨look [(0, .bp 0 0),(3, .bp 2 0),(5, .v (.int .i64 R.2.2))],⟨[WA (BO w R).1 cap,IB (BO w R).1 cap,Al f],[]⟩⟩) ?_ ?_
 ·skip
  refine BF ([(0,WA w cap),(1,IB w cap),(2,Al f),(3,Al g)]) 17 (h:=AN 0 (h:=AN 1 (h:=B7 2 (h:=AE 3 (h:=AE 4 (h:=AE 5 (h:=AD 6 (h:=AE 7 (h:=AD 8 (h:=AE 9 (h:=AD 10 (h:=AE 11 (h:=AD 12 (h:=?_))))))))))))))
  refine c_ 13 rfl (AK (hcall) ?_)
  rintro r rfl
  refine o_ (h:=B6 14 (h:=B6 15 (h:=B6 16 (h:=?_))))
  refine c_ 17 rfl (BW [0,1] rfl (.cons _ _ _ _ _ rfl (LeA.refl _) (.cons _ _ _ _ _ rfl (LeA.refl _) (.cons _ _ _ _ _ rfl (LeA.refl _) (.cons _ _ _ _ _ rfl (LeA.refl _) .nil)))) (by decide) (.cons _ _ _ _ _ rfl rfl (.cons _ _ _ _ _ rfl (Ch B0 _ _ _) .nil)) (LP w cap R.1 R.2.1 R.2.2) ?_)
  rintro r bc tc ⟨rfl,rfl,rfl⟩
  refine⟨rfl,_,D2 rfl ((BO w R).1) cap,?_⟩
  refine o_ (h:=?_)
  refine c_ 18 rfl (FJ rfl ?_)
  refine o_ (h:=z_ (h:=?_))
  refine AF ?_
  exact⟨_,rfl,CS 3 0⟩
 rintro S rfl
 refine q_ (w_ (m_ (h:=AQ (h:=e_ (?_)))))
 refine A8 rfl (fun hb7=>?_) (fun hb7=>?_)
 ·have hc7:=bp hb7
  have h0:R.2.2=0:=hc7
  have hfb:FlsB (BO w R).1.s.spc.files:=by rw[JH h0];exact(hok h0).1.b
  have hxr:(BO w R).1.r.items[1]?=some x1:=by rw[WH];exact hx1
  refine AP (m_ (h:=f_ (h:=l_ (h:=?_))))
  refine A6 rfl (BW [0,1] rfl (.cons _ _ _ _ _ rfl (LeA.refl _) (.cons _ _ _ _ _ rfl (LeA.refl _) (.cons _ _ _ _ _ rfl (LeA.refl _) .nil))) (by decide) (.cons _ _ _ _ _ rfl rfl (.cons _ _ _ _ _ rfl (Ch B0 _ _ _) .nil)) (RO (BO w R).1 cap 1 f.file x1 hfb hxr) ?_)
  rintro r bc tc ⟨rfl,rfl,rfl⟩
  refine⟨rfl,_,D2 rfl (GX (BO w R).1 1 f.file) cap,?_⟩
  refine e_ (w_ (m_ (h:=a_ (h:=e_ (A4 (?_))))))
  refine BN (r:= .v (.int .i64 (EO w).2)) none (h5:=(by rw[hlk,if_neg k1,if_neg k2,if_neg k3,if_neg k4,if_neg k5,if_neg k6,if_neg (by simp[h0])];exact LeA.of_eq (vi h0))) (h6:=⟨rfl,rfl,?_⟩)
  rw[hlk,if_neg k1,if_neg k2,if_neg k3,if_neg k4,if_neg k5,if_neg k6,if_neg (by simp[h0])]
  rfl
 have hc7:=bp hb7
 have h0:¬R.2.2=0:=hc7
 refine AJ (w_ (m_ (h:=a_ (h:=e_ (A4 (?_))))))
 refine BN (r:= .v (.int .i64 (EO w).2)) none (h5:=(by rw[hlk,if_neg k1,if_neg k2,if_neg k3,if_neg k4,if_neg k5,if_neg k6,if_pos h0];exact LeA.refl _)) (h6:=⟨rfl,rfl,?_⟩)
 rw[hlk,if_neg k1,if_neg k2,if_neg k3,if_neg k4,if_neg k5,if_neg k6,if_pos h0]
 rw[Od h0]
 rfl
theorem WJ(w:Wrk)(cap:Nat)(f:Fnd)(x0:Itm)(hv:SpcV w.s.spc)(hm:w.s.spc.mounts.length≤1000)(hps:w.s.tab.ps.length≤1000)(hf:w.found[0]?=some f)(hx0:w.r.items[0]?=some x0)(hn:f.name.size≤100000):ACall Tryz.prog 116 [.bp 0 0] [WA w cap,IB w cap] (fun r b t=>t=[]∧r= .v (.int .i64 (Df w).2)∧b=[WA (Df w).1 cap,IB (Df w).1 cap]):=by
 have hsb:=hv.b hm
 have hrow0:(w.found.map Al)[0]?=some (Al f):=by rw[List.getElem?_map,hf];rfl
 have hfn:B2 w 0=f:=by unfold B2;rw[hf];rfl
 have hil:0<w.r.items.length:=(Ar.1 hx0).1
 obtain⟨R1,hR1⟩:∃R,R=FC w.s.spc.files f.dir f.name:=⟨_,rfl⟩
 obtain⟨R2,hR2⟩:∃R,R=Ed w.s.spc.files f.dir f.name:=⟨_,rfl⟩
 have hcall1:AFn Tryz.prog 47 [.agg (At w.s.spc.files), .agg (AA f.dir), .v (.string f.name)] (fun r=>r=CK R1):=by rw[hR1];exact ZR _ _ _ hv.files hn
 have hcall2:AFn Tryz.prog 126 [.agg (At w.s.spc.files), .agg (AA f.dir), .v (.string f.name)] (fun r=>r=CK R2):=by rw[hR2];exact ZS _ _ _ hv.files hn
 obtain⟨y,hyd⟩:∃y,y=(AM w.s.spc.files f.dir f.name).1:=⟨_,rfl⟩
 have hl1:AFn Tryz.prog 38 [.agg (At w.s.spc.files), .agg (AA f.dir), .v (.string f.name)] (fun r=>r= .tup [.agg (AA y), .v (.int .i64 (AM w.s.spc.files f.dir f.name).2)]):=by rw[hyd];exact Gm _ _ _ hsb.files
 have hrm:Df w=if f.ex=false then(w,2)else if w.c.num=10 then(if f.name=⟨#[]⟩∨AY w.s.spc.files f.file=true then(w,21)else if C3 w f.dir 2=false then(w,13)else G8 w R1)else(if f.name=⟨#[]⟩then(w,16)else if AY w.s.spc.files f.file=false then(w,20)else if Fh w y=true then(w,16)else if C3 w f.dir 2=false then(w,13)else G8 w R2):=by
  unfold Df GW
  rw[hfn,←hR1,←hR2,←hyd]
 clear hR1 hR2 hyd
 refine enter Tryz.func116 rfl rfl rfl rfl rfl 2 rfl ?_
 refine w_ (a_ (h:=e_ (w_ (m_ (h:=k_ (h:=f_ (h:=l_ (h:=?_))))))))
 refine A6 rfl (CF (n:=0) rfl rfl rfl hrow0 ?_)
 refine l_ (h:=AW (h:=s_ (h:=e_ (q_ (w_ (f_ (h:=l_ (h:=BC (h:=e_ (?_))))))))))
 refine A8 rfl (fun hb1=>?_) (fun hb1=>?_)
 ·have hc1:=bp hb1
  have k1:f.ex=false:=by simpa using hc1
  refine w_ (a_ (h:=e_ (A4 (A7 (?_)))))
  refine BN (r:= .v (.int .i64 (Df w).2)) none (h5:=(by rw[hrm,if_pos k1];exact LeA.refl _)) (h6:=⟨rfl,rfl,?_⟩)
  rw[hrm,if_pos k1]
  rfl
 have hc1:=bp hb1
 have k1:¬f.ex=false:=by simpa using hc1
 refine AJ (w_ (a_ (h:=e_ (?_))))
 refine B5 (fun S=>∃R,Df w=G8 w R∧S=⟨look [(0, .bp 0 0),(4, .v (.int .i64 R.2.2))],⟨[WA (BO w R).1 cap,IB (BO w R).1 cap],[]⟩⟩) ?_ ?_
 ·skip
  refine w_ (m_ (h:=k_ (h:=f_ (h:=f_ (h:=l_ (h:=AQ (h:=e_ (?_))))))))
  refine A8 rfl (fun hb2=>?_) (fun hb2=>?_)
  ·have hc2:=bp hb2
   have k2:w.c.num=10:=hc2
   refine q_ (?_)
   refine B5 (fun S=>S=⟨look [(0, .bp 0 0),(3, .bp 2 0),(28, .v (.bool (decide (f.name=⟨#[]⟩)||AY w.s.spc.files f.file)))],⟨[WA w cap,IB w cap,Al f],[]⟩⟩) ?_ ?_
   ·skip
    refine AP (f_ (h:=l_ (h:=AQ (h:=m_ (h:=?_)))))
    refine Ay false rfl rfl (fun hb3=>?_) (fun hb3=>?_)
    ·have hc3:=bp hb3
     refine A3 (h:=A3 (h:=Af (h:=AO (?_))))
     refine AF ?_
     exact⟨_,rfl,C5 3 0 (by simp[Ag,Ab,Ac,Bc B0,BD,WA,IB,CD,Al,Aj,AA,As,Ah,At])⟩
    have hc3:=bp hb3
    refine m_ (h:=?_)
    refine B4 (Cg 1 rfl (.cons _ _ _ _ _ rfl (LeA.of_eq rfl) (.cons _ _ _ _ _ rfl (LeA.refl _) .nil)) (Jn w .any 0 f hsb hf) ?_)
    rintro r rfl
    refine⟨rfl,?_⟩
    refine Ak (h:=AO (?_))
    refine AF ?_
    exact⟨_,rfl,C5 3 0 (by simp[Ag,Ab,Ac,Bc B0,BD,WA,IB,CD,Al,Aj,AA,As,Ah,At])⟩
   rintro S rfl
   refine A8 rfl (fun hb4=>?_) (fun hb4=>?_)
   ·have hc4:=bp hb4
    have k3:f.name=⟨#[]⟩∨AY w.s.spc.files f.file=true:=by simpa using hc4
    refine w_ (a_ (h:=e_ (A4 (A7 (A7 (?_))))))
    refine BN (r:= .v (.int .i64 (Df w).2)) none (h5:=(by rw[hrm,if_neg k1,if_pos k2,if_pos k3];exact LeA.refl _)) (h6:=⟨rfl,rfl,?_⟩)
    rw[hrm,if_neg k1,if_pos k2,if_pos k3]
    rfl
   have hc4:=bp hb4
   have k3:¬(f.name=⟨#[]⟩∨AY w.s.spc.files f.file=true):=by simpa using hc4
   refine AJ (q_ (w_ (m_ (h:=f_ (h:=l_ (h:=?_))))))
   refine A6 rfl (Cg 1 rfl (.cons _ _ _ _ _ rfl (LeA.of_eq rfl) (.cons _ _ _ _ _ rfl (LeA.refl _) (.cons _ _ _ _ _ rfl (LeA.refl _) .nil))) (H0 w .any f.dir 2 hsb) ?_)
   rintro r rfl
   refine⟨rfl,?_⟩
   refine BC (h:=e_ (?_))
   refine A8 rfl (fun hb5=>?_) (fun hb5=>?_)
   ·have hc5:=bp hb5
    have k4:C3 w f.dir 2=false:=by simpa using hc5
    refine w_ (a_ (h:=e_ (A4 (A7 (A7 (?_))))))
    refine BN (r:= .v (.int .i64 (Df w).2)) none (h5:=(by rw[hrm,if_neg k1,if_pos k2,if_neg k3,if_pos k4];exact LeA.refl _)) (h6:=⟨rfl,rfl,?_⟩)
    rw[hrm,if_neg k1,if_pos k2,if_neg k3,if_pos k4]
    rfl
   have hc5:=bp hb5
   have k4:¬C3 w f.dir 2=false:=by simpa using hc5
   refine AJ (BF ([(0,WA w cap),(1,IB w cap),(2,Al f)]) 15 (h:=AN 0 (h:=AN 1 (h:=B7 2 (h:=AE 3 (h:=AE 4 (h:=AE 5 (h:=AD 6 (h:=AE 7 (h:=AD 8 (h:=AE 9 (h:=AD 10 (h:=?_)))))))))))))
   refine c_ 11 rfl (AK (hcall1) ?_)
   rintro r rfl
   refine o_ (h:=B6 12 (h:=B6 13 (h:=B6 14 (h:=?_))))
   refine c_ 15 rfl (BW [0,1] rfl (.cons _ _ _ _ _ rfl (LeA.refl _) (.cons _ _ _ _ _ rfl (LeA.refl _) (.cons _ _ _ _ _ rfl (LeA.refl _) (.cons _ _ _ _ _ rfl (LeA.refl _) .nil)))) (by decide) (.cons _ _ _ _ _ rfl rfl (.cons _ _ _ _ _ rfl (Ch B0 _ _ _) .nil)) (LP w cap R1.1 R1.2.1 R1.2.2) ?_)
   rintro r bc tc ⟨rfl,rfl,rfl⟩
   refine⟨rfl,_,D2 rfl ((BO w R1).1) cap,?_⟩
   refine o_ (h:=?_)
   refine c_ 16 rfl (FJ rfl ?_)
   refine o_ (h:=z_ (h:=?_))
   refine AF ?_
   exact⟨_,⟨R1,(by rw[hrm,if_neg k1,if_pos k2,if_neg k3,if_neg k4]),rfl⟩,CS 2 0⟩
  have hc2:=bp hb2
  have k2:¬w.c.num=10:=hc2
  refine q_ (w_ (f_ (h:=l_ (h:=AQ (h:=e_ (?_))))))
  refine A8 rfl (fun hb6=>?_) (fun hb6=>?_)
  ·have hc6:=bp hb6
   have k3:f.name=⟨#[]⟩:=hc6
   refine w_ (a_ (h:=e_ (A4 (A7 (A7 (?_))))))
   refine BN (r:= .v (.int .i64 (Df w).2)) none (h5:=(by rw[hrm,if_neg k1,if_neg k2,if_pos k3];exact LeA.refl _)) (h6:=⟨rfl,rfl,?_⟩)
   rw[hrm,if_neg k1,if_neg k2,if_pos k3]
   rfl
  have hc6:=bp hb6
  have k3:¬f.name=⟨#[]⟩:=hc6
  refine AJ (q_ (w_ (m_ (h:=?_))))
  refine A6 rfl (Cg 1 rfl (.cons _ _ _ _ _ rfl (LeA.of_eq rfl) (.cons _ _ _ _ _ rfl (LeA.refl _) .nil)) (Jn w .any 0 f hsb hf) ?_)
  rintro r rfl
  refine⟨rfl,?_⟩
  refine BC (h:=e_ (?_))
  refine A8 rfl (fun hb7=>?_) (fun hb7=>?_)
  ·have hc7:=bp hb7
   have k4:AY w.s.spc.files f.file=false:=by simpa using hc7
   refine w_ (a_ (h:=e_ (A4 (A7 (A7 (?_))))))
   refine BN (r:= .v (.int .i64 (Df w).2)) none (h5:=(by rw[hrm,if_neg k1,if_neg k2,if_neg k3,if_pos k4];exact LeA.refl _)) (h6:=⟨rfl,rfl,?_⟩)
   rw[hrm,if_neg k1,if_neg k2,if_neg k3,if_pos k4]
   rfl
  have hc7:=bp hb7
  have k4:¬AY w.s.spc.files f.file=false:=by simpa using hc7
  refine AJ (?_)
  refine B5 (fun S=>S=⟨look [(0, .bp 0 0),(3, .bp 2 0),(5, .bp 3 0)],⟨[WA w cap,IB w cap,Al f,AA y],[]⟩⟩) ?_ ?_
  ·skip
   refine BF ([(0,WA w cap),(1,IB w cap),(2,Al f)]) 17 (h:=AN 0 (h:=B7 1 (h:=AE 2 (h:=AE 3 (h:=AE 4 (h:=AD 5 (h:=AE 6 (h:=AD 7 (h:=AE 8 (h:=AD 9 (h:=?_)))))))))))
   refine E0 10 14 rfl rfl ?_ ?_
   ·refine AK (hl1) ?_
    rintro r rfl
    refine o_ (h:=?_)
    refine AN 11 (h:=B6 12 (h:=B6 13 (h:=?_)))
    refine c_ 14 rfl (Bw (by repeat constructor) ?_)
    refine o_ (h:=?_)
    refine Az 15 rfl (Aw rfl rfl rfl rfl rfl rfl (by repeat constructor) (by repeat constructor) ?_)
    refine o_ (h:=BB 16 (h:=z_ (h:=?_)))
    refine AF ?_
    exact⟨_,rfl,CS 4 0⟩
   refine Bw (by repeat constructor) ?_
   refine o_ (h:=?_)
   refine c_ 10 rfl (AK (hl1) ?_)
   rintro r rfl
   refine o_ (h:=AN 11 (h:=B6 12 (h:=B6 13 (h:=?_))))
   refine Az 15 rfl (Aw rfl rfl rfl rfl rfl rfl (by repeat constructor) (by repeat constructor) ?_)
   refine o_ (h:=BB 16 (h:=z_ (h:=?_)))
   refine AF ?_
   exact⟨_,rfl,CS 4 0⟩
  rintro S rfl
  refine q_ (w_ (m_ (h:=l_ (h:=?_))))
  refine A6 rfl (Cg 1 rfl (.cons _ _ _ _ _ rfl (LeA.of_eq rfl) (.cons _ _ _ _ _ rfl (LeA.refl _) .nil)) (Vp w .any y hsb hps) ?_)
  rintro r rfl
  refine⟨rfl,?_⟩
  refine e_ (?_)
  refine A8 rfl (fun hb8=>?_) (fun hb8=>?_)
  ·have hc8:=bp hb8
   have k5:Fh w y=true:=hc8
   refine w_ (a_ (h:=e_ (A4 (A7 (A7 (?_))))))
   refine BN (r:= .v (.int .i64 (Df w).2)) none (h5:=(by rw[hrm,if_neg k1,if_neg k2,if_neg k3,if_neg k4,if_pos k5];exact LeA.refl _)) (h6:=⟨rfl,rfl,?_⟩)
   rw[hrm,if_neg k1,if_neg k2,if_neg k3,if_neg k4,if_pos k5]
   rfl
  have hc8:=bp hb8
  have k5:¬Fh w y=true:=by simpa using hc8
  refine AJ (q_ (w_ (m_ (h:=f_ (h:=l_ (h:=?_))))))
  refine A6 rfl (Cg 1 rfl (.cons _ _ _ _ _ rfl (LeA.of_eq rfl) (.cons _ _ _ _ _ rfl (LeA.refl _) (.cons _ _ _ _ _ rfl (LeA.refl _) .nil))) (H0 w .any f.dir 2 hsb) ?_)
  rintro r rfl
  refine⟨rfl,?_⟩
  refine BC (h:=e_ (?_))
  refine A8 rfl (fun hb9=>?_) (fun hb9=>?_)
  ·have hc9:=bp hb9
   have k6:C3 w f.dir 2=false:=by simpa using hc9
   refine w_ (a_ (h:=e_ (A4 (A7 (A7 (?_))))))
   refine BN (r:= .v (.int .i64 (Df w).2)) none (h5:=(by rw[hrm,if_neg k1,if_neg k2,if_neg k3,if_neg k4,if_neg k5,if_pos k6];exact LeA.refl _)) (h6:=⟨rfl,rfl,?_⟩)
   rw[hrm,if_neg k1,if_neg k2,if_neg k3,if_neg k4,if_neg k5,if_pos k6]
   rfl
  have hc9:=bp hb9
  have k6:¬C3 w f.dir 2=false:=by simpa using hc9
  refine AJ (BF ([(0,WA w cap),(1,IB w cap),(2,Al f)]) 15 (h:=AN 0 (h:=AN 1 (h:=B7 2 (h:=AE 3 (h:=AE 4 (h:=AE 5 (h:=AD 6 (h:=AE 7 (h:=AD 8 (h:=AE 9 (h:=AD 10 (h:=?_)))))))))))))
  refine c_ 11 rfl (AK (hcall2) ?_)
  rintro r rfl
  refine o_ (h:=B6 12 (h:=B6 13 (h:=B6 14 (h:=?_))))
  refine c_ 15 rfl (BW [0,1] rfl (.cons _ _ _ _ _ rfl (LeA.refl _) (.cons _ _ _ _ _ rfl (LeA.refl _) (.cons _ _ _ _ _ rfl (LeA.refl _) (.cons _ _ _ _ _ rfl (LeA.refl _) .nil)))) (by decide) (.cons _ _ _ _ _ rfl rfl (.cons _ _ _ _ _ rfl (Ch B0 _ _ _) .nil)) (LP w cap R2.1 R2.2.1 R2.2.2) ?_)
  rintro r bc tc ⟨rfl,rfl,rfl⟩
  refine⟨rfl,_,D2 rfl ((BO w R2).1) cap,?_⟩
  refine o_ (h:=?_)
  refine c_ 16 rfl (FJ rfl ?_)
  refine o_ (h:=z_ (h:=?_))
  refine AF ?_
  first|exact⟨_,⟨R1,(by rw[hrm,if_neg k1,if_pos k2,if_neg k3,if_neg k4]),rfl⟩,CS 2 0⟩|exact⟨_,⟨R2,(by rw[hrm,if_neg k1,if_neg k2,if_neg k3,if_neg k4,if_neg k5,if_neg k6]),rfl⟩,CS 2 0⟩
 rintro S ⟨R,hrm2,rfl⟩
 have hit:(BO w R).1.r.items=w.r.items:=WH w R
 have hxa:(BO w R).1.r.items[0]?=some x0:=by rw[hit];exact hx0
 have hil1:0<(BO w R).1.r.items.length:=by rw[hit];exact hil
 refine q_ (w_ (m_ (h:=AQ (h:=e_ (?_)))))
 refine A8 rfl (fun hb10=>?_) (fun hb10=>?_)
 ·have hc10:=bp hb10
  have h0:R.2.2=0:=hc10
  refine AP (m_ (h:=k_ (h:=f_ (h:=f_ (h:=l_ (h:=?_))))))
  refine A6 rfl (DF (m:=0) rfl rfl rfl hil1 ?_)
  refine f_ (h:=?_)
  refine K0 (Aw rfl rfl rfl rfl rfl rfl (JF B0 (x':={x0 with role:=3}) hxa (by repeat constructor) (List.cons_ne_nil _ _)) (by repeat constructor) ?_)
  refine e_ (w_ (m_ (h:=a_ (h:=e_ (A4 (?_))))))
  refine BN (r:= .v (.int .i64 (Df w).2)) none (h5:=(by rw[hrm2,G8,if_neg (by simp[h0])];exact LeA.of_eq (vi h0))) (h6:=⟨rfl,rfl,?_⟩)
  rw[hrm2,G8,if_neg (by simp[h0])]
  rw[Vy,Vz hxa]
  rfl
 have hc10:=bp hb10
 have h0:¬R.2.2=0:=hc10
 refine AJ (w_ (m_ (h:=a_ (h:=e_ (A4 (?_))))))
 refine BN (r:= .v (.int .i64 (Df w).2)) none (h5:=(by rw[hrm2,G8,if_pos h0];exact LeA.refl _)) (h6:=⟨rfl,rfl,?_⟩)
 rw[hrm2,G8,if_pos h0]
 rw[Od h0]
 rfl
theorem WK(w:Wrk)(cap:Nat)(f:Fnd)(hv:SpcV w.s.spc)(hm:w.s.spc.mounts.length≤1000)(hf:w.found[0]?=some f):ACall Tryz.prog 118 [.bp 0 0] [WA w cap,IB w cap] (fun r b t=>t=[]∧r= .v (.int .i64 (Ea w).2)∧b=[WA (Ea w).1 cap,IB (Ea w).1 cap]):=by
 have hsb:=hv.b hm
 have hrow0:(w.found.map Al)[0]?=some (Al f):=by rw[List.getElem?_map,hf];rfl
 have hfn:B2 w 0=f:=by unfold B2;rw[hf];rfl
 obtain⟨n,hnd⟩:∃n,n=Aa w.s.spc.files f.file:=⟨_,rfl⟩
 have hnode:AFn Tryz.prog 70 [.agg (At w.s.spc.files), .agg (AA f.file)] (fun r=>r= .tup [.agg (Aj n), .v (.bool (D0 w.s.spc.files f.file))]):=by rw[hnd];exact Dn _ _ hsb.files
 have hat:Ea w=if f.ex=false then(w,2)else if w.c.num=14 then(if w.p.euid≠0∧w.p.euid≠n.uid then(w,1)else Hm w (EL w.s.spc.files f.file w.c.a0 n.uid n.gid))else if w.p.euid≠0 then(w,1)else Hm w (EL w.s.spc.files f.file n.mode w.c.a0 w.c.a1):=by
  unfold Ea
  rw[hfn,←hnd]
 clear hnd
 refine enter Tryz.func118 rfl rfl rfl rfl rfl 2 rfl ?_
 refine w_ (a_ (h:=e_ (w_ (m_ (h:=k_ (h:=f_ (h:=l_ (h:=?_))))))))
 refine A6 rfl (CF (n:=0) rfl rfl rfl hrow0 ?_)
 refine l_ (h:=AW (h:=s_ (h:=e_ (q_ (w_ (f_ (h:=l_ (h:=BC (h:=e_ (?_))))))))))
 refine A8 rfl (fun hb1=>?_) (fun hb1=>?_)
 ·have hc1:=bp hb1
  have k1:f.ex=false:=by simpa using hc1
  refine w_ (a_ (h:=e_ (A4 (A7 (?_)))))
  refine BN (r:= .v (.int .i64 (Ea w).2)) none (h5:=(by rw[hat,if_pos k1];exact LeA.refl _)) (h6:=⟨rfl,rfl,?_⟩)
  rw[hat,if_pos k1]
  rfl
 have hc1:=bp hb1
 have k1:¬f.ex=false:=by simpa using hc1
 refine AJ (?_)
 refine B5 (fun S=>S=⟨look [(0, .bp 0 0),(3, .bp 2 0),(4, .bp 3 0)],⟨[WA w cap,IB w cap,Al f,Aj n],[]⟩⟩) ?_ ?_
 ·skip
  refine BF ([(0,WA w cap),(1,IB w cap),(2,Al f)]) 15 (h:=AN 0 (h:=B7 1 (h:=AE 2 (h:=AE 3 (h:=AE 4 (h:=AD 5 (h:=AE 6 (h:=AD 7 (h:=?_)))))))))
  refine E0 8 12 rfl rfl ?_ ?_
  ·refine AK (hnode) ?_
   rintro r rfl
   refine o_ (h:=?_)
   refine AN 9 (h:=B6 10 (h:=B6 11 (h:=?_)))
   refine c_ 12 rfl (Bw (by repeat constructor) ?_)
   refine o_ (h:=?_)
   refine Az 13 rfl (Aw rfl rfl rfl rfl rfl rfl (by repeat constructor) (by repeat constructor) ?_)
   refine o_ (h:=BB 14 (h:=z_ (h:=?_)))
   refine AF ?_
   exact⟨_,rfl,CS 4 0⟩
  refine Bw (by repeat constructor) ?_
  refine o_ (h:=?_)
  refine c_ 8 rfl (AK (hnode) ?_)
  rintro r rfl
  refine o_ (h:=AN 9 (h:=B6 10 (h:=B6 11 (h:=?_))))
  refine Az 13 rfl (Aw rfl rfl rfl rfl rfl rfl (by repeat constructor) (by repeat constructor) ?_)
  refine o_ (h:=BB 14 (h:=z_ (h:=?_)))
  refine AF ?_
  exact⟨_,rfl,CS 4 0⟩
 rintro S rfl
 refine B5 (fun S=>∃m u g,Ea w=Hm w (EL w.s.spc.files f.file m u g)∧S=⟨look [(0, .bp 0 0),(3, .bp 2 0),(4, .bp 3 0)],⟨[WA w cap,IB w cap,Al f,Aj {n with mode:=m,uid:=u,gid:=g}],[]⟩⟩) ?_ ?_
 ·skip
  refine w_ (m_ (h:=k_ (h:=f_ (h:=f_ (h:=l_ (h:=AQ (h:=e_ (?_))))))))
  refine A8 rfl (fun hb2=>?_) (fun hb2=>?_)
  ·have hc2:=bp hb2
   have k2:w.c.num=14:=hc2
   refine q_ (?_)
   refine B5 (fun S=>S=⟨look [(0, .bp 0 0),(3, .bp 2 0),(4, .bp 3 0),(50, .v (.bool (!decide (w.p.euid=0)&& !decide (w.p.euid=n.uid))))],⟨[WA w cap,IB w cap,Al f,Aj n],[]⟩⟩) ?_ ?_
   ·skip
    refine DU 16 (h:=AN 0 (h:=B7 1 (h:=AE 2 (h:=AE 3 (h:=AD 4 (h:=Kr 5 (h:=AN 6 (h:=?_))))))))
    refine H8 (j:=6) rfl (fun hb3=>?_) (fun hb3=>?_)
    ·have hc3:=bp hb3
     refine AN 7 (h:=B7 8 (h:=AE 9 (h:=AE 10 (h:=AD 11 (h:=AE 12 (h:=AD 13 (h:=Kr 14 (h:=HQ 15 (h:=z_ (h:=?_))))))))))
     refine AF ?_
     exact⟨_,rfl,C5 4 0 (by simp[Ag,Ab,Ac,Bc B0,BD,WA,IB,CD,Al,Aj,AA,As,Ah,At])⟩
    have hc3:=bp hb3
    refine BE 7 (h:=BE 8 (h:=BE 9 (h:=BE 10 (h:=BE 11 (h:=BE 12 (h:=BE 13 (h:=BE 14 (h:=FW 15 (h:=z_ (h:=?_))))))))))
    refine AF ?_
    exact⟨_,rfl,C5 4 0 (by simp[Ag,Ab,Ac,Bc B0,BD,WA,IB,CD,Al,Aj,AA,As,Ah,At])⟩
   rintro S rfl
   refine A8 rfl (fun hb4=>?_) (fun hb4=>?_)
   ·have hc4:=bp hb4
    have k3:w.p.euid≠0∧w.p.euid≠n.uid:=by simpa using hc4
    refine w_ (a_ (h:=e_ (A4 (A7 (A7 (?_))))))
    refine BN (r:= .v (.int .i64 (Ea w).2)) none (h5:=(by rw[hat,if_neg k1,if_pos k2,if_pos k3];exact LeA.refl _)) (h6:=⟨rfl,rfl,?_⟩)
    rw[hat,if_neg k1,if_pos k2,if_pos k3]
    rfl
   have hc4:=bp hb4
   have k3:¬(w.p.euid≠0∧w.p.euid≠n.uid):=by simpa using hc4
   refine AJ (AP (m_ (h:=k_ (h:=f_ (h:=f_ (h:=?_))))))
   refine A6 rfl (CG (len:=4) (sz:=1) (n:=0) (by kernel_rfl) rfl rfl rfl rfl ?_)
   refine l_ (h:=f_ (h:=s_ (h:=AO (?_))))
   refine AF ?_
   exact⟨_,⟨w.c.a0,n.uid,n.gid,(by rw[hat,if_neg k1,if_pos k2,if_neg k3]),rfl⟩,CS 4 0⟩
  have hc2:=bp hb2
  have k2:¬w.c.num=14:=hc2
  refine q_ (w_ (m_ (h:=k_ (h:=f_ (h:=f_ (h:=l_ (h:=BK (h:=e_ (?_)))))))))
  refine A8 rfl (fun hb5=>?_) (fun hb5=>?_)
  ·have hc5:=bp hb5
   have k3:w.p.euid≠0:=by simpa using hc5
   refine w_ (a_ (h:=e_ (A4 (A7 (A7 (?_))))))
   refine BN (r:= .v (.int .i64 (Ea w).2)) none (h5:=(by rw[hat,if_neg k1,if_neg k2,if_pos k3];exact LeA.refl _)) (h6:=⟨rfl,rfl,?_⟩)
   rw[hat,if_neg k1,if_neg k2,if_pos k3]
   rfl
  have hc5:=bp hb5
  have k3:¬w.p.euid≠0:=by simpa using hc5
  refine AJ (BF ([(0,WA w cap),(1,IB w cap),(2,Al f)]) 16 (h:=AN 0 (h:=B7 1 (h:=AE 2 (h:=AE 3 (h:=?_))))))
  refine Bn 4 rfl (fun _ hS=>CG (len:=4) (sz:=1) (n:=0) (by kernel_rfl) rfl rfl rfl rfl ⟨rfl,rfl⟩) ?_
  refine AD 5 (h:=AN 6 (h:=B7 7 (h:=AE 8 (h:=AE 9 (h:=?_)))))
  refine Bn 10 rfl (fun _ hS=>CG (len:=4) (sz:=1) (n:=1) (by kernel_rfl) rfl rfl rfl rfl ⟨rfl,rfl⟩) ?_
  refine AD 11 (h:=AE 12 (h:=?_))
  refine Az 13 rfl (Aw rfl rfl rfl rfl rfl rfl (by repeat constructor) (by repeat constructor) ?_)
  refine o_ (h:=AE 14 (h:=?_))
  refine Az 15 rfl (Aw rfl rfl rfl rfl rfl rfl (by repeat constructor) (by repeat constructor) ?_)
  refine o_ (h:=z_ (h:=?_))
  refine AF ?_
  first|exact⟨_,⟨w.c.a0,n.uid,n.gid,(by rw[hat,if_neg k1,if_pos k2,if_neg k3]),rfl⟩,CS 4 0⟩|exact⟨_,⟨n.mode,w.c.a0,w.c.a1,(by rw[hat,if_neg k1,if_neg k2,if_neg k3]),rfl⟩,CS 4 0⟩
 rintro S ⟨m,u,g,hat2,rfl⟩
 obtain⟨R,hR⟩:∃R,R=EL w.s.spc.files f.file m u g:=⟨_,rfl⟩
 have hset:AFn Tryz.prog 127 [.agg (At w.s.spc.files), .agg (AA f.file), .v (.int .i64 m), .v (.int .i64 u), .v (.int .i64 g)] (fun r=>r=Mg R):=by rw[hR];exact ZV _ _ _ _ _ hv.files
 rw[←hR]at hat2
 clear hR
 refine B5 (fun S=>S=⟨look [(0, .bp 0 0),(6, .bp 4 0),(7, .v (.int .i64 R.2))],⟨[WA w cap,IB w cap,Al f,Aj {n with mode:=m,uid:=u,gid:=g},At R.1],[]⟩⟩) ?_ ?_
 ·skip
  refine BF ([(0,WA w cap),(1,IB w cap),(2,Al f),(3,Aj {n with mode:=m,uid:=u,gid:=g})]) 21 (h:=AN 0 (h:=B7 1 (h:=AE 2 (h:=AE 3 (h:=AE 4 (h:=AD 5 (h:=AE 6 (h:=AD 7 (h:=AE 8 (h:=AD 9 (h:=AE 10 (h:=AD 11 (h:=AE 12 (h:=AD 13 (h:=?_)))))))))))))))
  refine E0 14 18 rfl rfl ?_ ?_
  ·refine AK (hset) ?_
   rintro r rfl
   refine o_ (h:=?_)
   refine AN 15 (h:=B6 16 (h:=B6 17 (h:=?_)))
   refine c_ 18 rfl (Bw (by repeat constructor) ?_)
   refine o_ (h:=?_)
   refine Az 19 rfl (Aw rfl rfl rfl rfl rfl rfl (by repeat constructor) (by repeat constructor) ?_)
   refine o_ (h:=BB 20 (h:=z_ (h:=?_)))
   refine AF ?_
   exact⟨_,rfl,CS 5 0⟩
  refine Bw (by repeat constructor) ?_
  refine o_ (h:=?_)
  refine c_ 14 rfl (AK (hset) ?_)
  rintro r rfl
  refine o_ (h:=AN 15 (h:=B6 16 (h:=B6 17 (h:=?_))))
  refine Az 19 rfl (Aw rfl rfl rfl rfl rfl rfl (by repeat constructor) (by repeat constructor) ?_)
  refine o_ (h:=BB 20 (h:=z_ (h:=?_)))
  refine AF ?_
  exact⟨_,rfl,CS 5 0⟩
 rintro S rfl
 refine w_ (m_ (h:=l_ (h:=m_ (h:=?_))))
 refine A6 rfl (BW [0,1] rfl (.cons _ _ _ _ _ rfl (LeA.refl _) (.cons _ _ _ _ _ rfl (LeA.refl _) (.cons _ _ _ _ _ rfl (LeA.nil _) (.cons _ _ _ _ _ rfl (LeA.refl _) .nil)))) (by decide) (.cons _ _ _ _ _ rfl rfl (.cons _ _ _ _ _ rfl (Ch B0 _ _ _) .nil)) (LP w cap R.1 [] R.2) ?_)
 rintro r bc tc ⟨rfl,rfl,rfl⟩
 refine⟨rfl,_,D2 rfl (BO w (R.1,[],R.2)).1 cap,?_⟩
 refine a_ (h:=e_ (A4 (?_)))
 refine BN (r:= .v (.int .i64 (Ea w).2)) none (h5:=(by rw[hat2,Hm,gC];exact LeA.refl _)) (h6:=⟨rfl,rfl,?_⟩)
 rw[hat2,Hm]
 rfl
end
end Go.Proofs.YtbglbmnhgbgelaaGreatDoor
