/-
  Part 15 of the proof of WatchTreesP: what the statement's proof uses of the texts in wip/tpl.
-/
import Derived.Test.YtbglbmnhgbgelaaGreatDoorQg14
set_option maxRecDepth 10000
set_option maxHeartbeats 4000000
set_option linter.unusedVariables false
set_option linter.unusedSimpArgs false
namespace Go.Proofs.YtbglbmnhgbgelaaGreatDoor
open Go.RowKit
theorem g9{s:Spc}{fl:Bool}{p:AE}{ps:List AE}{a:A9}{lk:Nat}{τ:Lk}(h:Cd s fl p ps a lk= .inr τ):τ.name.size≤12:=by
 unfold Cd at h
 split at h
 ·cases h
 split at h
 ·cases h
 rename_i h2
 repeat' split at h
 all_goals first|(cases h;done)|(injection h with h;subst h;first|exact Nat.zero_le 12|exact Nat.le_of_not_lt h2)
theorem gA{s:Spc}{fl:Bool}:∀(k:Nat) (σ:Lk),σ.name.size≤12→(Gw s fl k σ).2.name.size≤12:=by
 intro k
 induction k with
 |zero=>intro σ h;exact h
 |succ k ih=>
   intro σ h
   unfold Gw
   cases σ.ps with
   |nil=>exact h
   |cons p ps=>
     simp only
     cases hs:Cd s fl p ps σ.file σ.links with
     |inl e=>exact Nat.zero_le 12
     |inr τ=>exact ih _ (g9 hs)
theorem RO(s:Spc)(st:A9)(p:AE)(fl:Bool):(Bh s st p fl).1.name.size≤12:=by
 unfold Bh
 generalize (if D8 p=true then Dq s else st)=d
 repeat' split
 all_goals first|exact Nat.zero_le 12|exact gA _ _ (Nat.zero_le 12)
theorem gB{s:Spc}{cwd:A9}{fl:Bool}{X:List Itm×List Fnd×Int}{g:AE×Int}(h:∀f∈X.2.1,f.name.size≤12):(∀f∈(FE s cwd fl X g).2.1,f.name.size≤12)∧(FE s cwd fl X g).1.length=X.1.length+1∧(FE s cwd fl X g).2.1.length=X.2.1.length+1:=by
 unfold FE
 split
 ·split
  ·refine⟨fun f hf=>?_,by simp,by simp⟩
   rcases List.mem_append.1 hf with hf|hf
   ·exact h f hf
   rw[List.mem_singleton.1 hf];exact RO _ _ _ _
  refine⟨fun f hf=>?_,by simp,by simp⟩
  rcases List.mem_append.1 hf with hf|hf
  ·exact h f hf
  rw[List.mem_singleton.1 hf];exact RO _ _ _ _
 refine⟨fun f hf=>?_,by simp,by simp⟩
 rcases List.mem_append.1 hf with hf|hf
 ·exact h f hf
 rw[List.mem_singleton.1 hf];exact Nat.zero_le 12
theorem gC(s:Spc)(cwd:A9)(fl:Bool)(e:Int):∀(l:List (AE×Int)),(∀f∈(Hj s cwd fl l e).2.1,f.name.size≤12)∧(Hj s cwd fl l e).1.length=l.length∧(Hj s cwd fl l e).2.1.length=l.length:=by
 have key:∀(l:List (AE×Int)) (X:List Itm×List Fnd×Int),(∀f∈X.2.1,f.name.size≤12)→(∀f∈(l.foldl (FE s cwd fl) X).2.1,f.name.size≤12)∧(l.foldl (FE s cwd fl) X).1.length=X.1.length+l.length∧(l.foldl (FE s cwd fl) X).2.1.length=X.2.1.length+l.length:=by
  intro l
  induction l with
  |nil=>intro X h;exact⟨h,rfl,rfl⟩
  |cons g l ih=>
    intro X h
    obtain⟨h1,h2,h3⟩:=gB (s:=s) (cwd:=cwd) (fl:=fl) (g:=g) h
    obtain⟨k1,k2,k3⟩:=ih _ h1
    rw[List.foldl_cons]
    refine⟨k1,?_,?_⟩
    ·rw[k2,h2,List.length_cons];omega
    rw[k3,h3,List.length_cons];omega
 intro l
 have:=key l ([],[],e) (fun f hf=>by cases hf)
 refine⟨this.1,by rw[Hj,this.2.1];simp,by rw[Hj,this.2.2];simp⟩
theorem RP{c:Cal}(h:BY c=0):(c.paths.length:Int)=(Bi c.num).2.2.1∧(Bi c.num).2.2.2.1≤(c.args.length:Int)∧(c.args.length:Int)≤(Bi c.num).2.2.2.2∧(∀p∈c.paths,p.size≤128)∧∀p∈c.args,p.size≤64:=by
 unfold BY at h
 split at h
 ·exact absurd h (by decide)
 split at h
 ·exact absurd h (by decide)
 split at h
 ·exact absurd h (by decide)
 rename_i h3
 split at h
 ·exact absurd h (by decide)
 rename_i h4
 split at h
 ·exact absurd h (by decide)
 rename_i h5
 refine⟨by omega,by omega,by omega,fun p hp=>?_,fun p hp=>?_⟩
 ·refine Nat.le_of_not_lt fun hl=>h4 (List.any_eq_true.2 ⟨p,hp,decide_eq_true hl⟩)
 refine Nat.le_of_not_lt fun hl=>h5 (List.any_eq_true.2 ⟨p,hp,decide_eq_true hl⟩)
theorem Vt{c0 c1 c2 c3 c4 c5:List AV}(w:Wrk)(rows:List (List AV))(n cap:Nat)(L:List Itm):Back [c0,c1,c2,c3,c4,c5] [5] [Cs w (.sl 8 rows none) (.bs 1 0 13 n cap),LB 13 Bt L cap] [c0,c1,c2,c3,c4,Cs w (.sl 8 rows none) (.bs 6 0 13 n cap),LB 13 Bt L cap]:=by
 have:=My (bx:=[c0,c1,c2,c3,c4,c5]) (is:=[5]) (bc:=[Cs w (.sl 8 rows none) (.bs 1 0 13 n cap),LB 13 Bt L cap]) (by simp) (by simp) (by simp)
 have e2:DG (DZ [5] [c0,c1,c2,c3,c4,c5].length) (LB 13 Bt L cap)=LB 13 Bt L cap:=Cg B1 _ _ _
 have hb:DA [c0,c1,c2,c3,c4,c5] (DZ [5] [c0,c1,c2,c3,c4,c5].length) [5] [Cs w (.sl 8 rows none) (.bs 1 0 13 n cap),LB 13 Bt L cap]=[c0,c1,c2,c3,c4,Cs w (.sl 8 rows none) (.bs 6 0 13 n cap),LB 13 Bt L cap]:=by
  unfold DA
  unfold DA
  rw[List.map_cons,e2]
  rfl
 rw[hb]at this
 exact this
theorem Vu(s:Syst)(pid:Int)(c:Cal):(∀f∈(EZ s pid c).found,f.name.size≤12)∧(EZ s pid c).found.length=(c.paths.zip (CB c)).length∧(EZ s pid c).r.items.length=(c.paths.zip (CB c)).length:=by
 obtain⟨h1,h2,h3⟩:=gC s.spc (AU s.tab pid).cwd (Cr c) (Ce (AU s.tab pid) c) (c.paths.zip (CB c))
 exact⟨h1,h3,h2⟩
section
theorem RQ(w:Wrk)(F I:AV)(h9:w.c.num=9→0<w.c.args.length)(hsz:∀p∈w.c.args,p.size≤1000):AFn Tryz.prog 67 [.fp (Cs w F I)] (fun r=>r= .v (.int .i64 (Ce w.p w.c))):=by
 have hol:(w.p.opens.map FF).length=w.p.opens.length:=List.length_map _
 refine enter Tryz.func67 rfl rfl rfl rfl rfl 0 rfl ?_
 refine w_ (a_ (h:=e_ (w_ (m_ (h:=k_ (h:=f_ (h:=f_ (h:=l_ (h:=AW (h:=s_ (h:=e_ (q_ (w_ (m_ (h:=k_ (h:=f_ (h:=f_ (h:=l_ (h:=e_ (Ao (w_ (AQ (h:=a_ (h:=?_))))))))))))))))))))))))
 refine e_ (?_)
 refine A8 rfl (fun hb1=>?_) (fun hb1=>?_)
 ·have hc1:=bp hb1
  refine q_ (w_ (?_))
  refine A4 rfl (CE (len:=4) (sz:=1) (n:=0) (by kernel_rfl) rfl rfl rfl rfl ?_)
  refine l_ (h:=BJ (h:=m_ (h:=?_)))
  refine Ax false rfl rfl (fun hb2=>?_) (fun hb2=>?_)
  ·have hc2:=bp hb2
   refine A3 (h:=A3 (h:=A3 (h:=Af (h:=m_ (h:=A3 (h:=A3 (h:=A3 (h:=A3 (h:=Af (h:=m_ (h:=A3 (h:=A3 (h:=A3 (h:=A3 (h:=Af (h:=e_ (Bf (h:=w_ (a_ (h:=e_ (A6 (A7 (AR (?_))))))))))))))))))))))))
   refine A7 (?_)
   refine AB ?_
   first|(exfalso;first|contradiction|omega)|(exact vi (by simp[Ce, *]))
  have hc2:=bp hb2
  refine B6 (CE (len:=4) (sz:=1) (n:=0) (by kernel_rfl) rfl rfl rfl rfl ?_)
  refine l_ (h:=CZ (h:=Am (h:=m_ (h:=?_))))
  refine Ax false rfl rfl (fun hb3=>?_) (fun hb3=>?_)
  ·have hc3:=bp hb3
   refine A3 (h:=A3 (h:=A3 (h:=A3 (h:=Af (h:=m_ (h:=A3 (h:=A3 (h:=A3 (h:=A3 (h:=Af (h:=e_ (Bf (h:=w_ (a_ (h:=e_ (A6 (A7 (AR (A7 (?_))))))))))))))))))))
   refine AB ?_
   first|(exfalso;first|contradiction|omega)|(exact vi (by simp[Ce, *]))
  have hc3:=bp hb3
  refine B6 (CE (len:=4) (sz:=1) (n:=0) (by kernel_rfl) rfl rfl rfl rfl ?_)
  refine l_ (h:=EP (h:=AQ (h:=Am (h:=m_ (h:=?_)))))
  refine Ax false rfl rfl (fun hb4=>?_) (fun hb4=>?_)
  ·have hc4:=bp hb4
   refine A3 (h:=A3 (h:=A3 (h:=A3 (h:=Af (h:=e_ (Bf (h:=w_ (a_ (h:=e_ (A6 (A7 (AR (A7 (?_))))))))))))))
   refine AB ?_
   first|(exfalso;first|contradiction|omega)|(exact vi (by simp[Ce, *]))
  have hc4:=bp hb4
  refine B6 (CE (len:=4) (sz:=1) (n:=1) (by kernel_rfl) rfl rfl rfl rfl ?_)
  refine l_ (h:=?_)
  refine B6 (AK (R9 w.c.a1) ?_)
  rintro r rfl
  refine BA (h:=Am (h:=e_ (?_)))
  refine A8 rfl (fun hb5=>?_) (fun hb5=>?_)
  ·have hc5:=bp hb5
   refine w_ (a_ (h:=e_ (A6 (A7 (AR (A7 (?_)))))))
   refine AB ?_
   first|(exfalso;first|contradiction|omega)|(exact vi (by simp[Ce, *]))
  have hc5:=bp hb5
  refine AG (w_ (m_ (h:=k_ (h:=f_ (h:=f_ (h:=l_ (h:=n_ (h:=Fu (h:=e_ (?_))))))))))
  refine A8 rfl (fun hb6=>?_) (fun hb6=>?_)
  ·have hc6:=bp hb6
   have h8:8≤(w.p.opens.length:Int):=by rw[List.length_map]at hc6;exact hc6
   refine w_ (a_ (h:=e_ (A6 (AR (A7 (?_))))))
   refine AB ?_
   first|(exfalso;first|contradiction|omega)|(exact vi (by simp[Ce, *]))
  have hc6:=bp hb6
  have h8:¬8≤(w.p.opens.length:Int):=by rw[List.length_map]at hc6;exact hc6
  refine BB (Ay (t_ (w_ (a_ (h:=e_ (A6 (?_)))))))
  refine AB ?_
  first|(exfalso;first|contradiction|omega)|(exact vi (by simp[Ce, *]))
 have hc1:=bp hb1
 refine w_ (AQ (h:=a_ (h:=e_ (?_))))
 refine A8 rfl (fun hb7=>?_) (fun hb7=>?_)
 ·have hc7:=bp hb7
  obtain⟨a0,ha0⟩:∃a,w.c.args[0]?=some a:=⟨_,B3 (h9 hc7)⟩
  have harg:(w.c.args.map D5)[0]?=some (D5 a0):=by rw[List.getElem?_map,ha0];rfl
  have hag:GX w.c=a0:=by unfold GX;rw[List.headD_eq_head?_getD,List.head?_eq_getElem?,ha0];rfl
  have hsa:=hsz a0 (Au ha0)
  refine q_ (w_ (m_ (h:=k_ (h:=f_ (h:=f_ (h:=l_ (h:=?_)))))))
  refine A4 rfl (CS (n:=0) rfl rfl rfl harg ?_)
  refine l_ (h:=AQ (h:=e_ (?_)))
  refine A8 rfl (fun hb8=>?_) (fun hb8=>?_)
  ·have hc8:=bp hb8
   refine w_ (a_ (h:=e_ (A6 (A7 (AR (A7 (?_)))))))
   refine AB ?_
   first|(exfalso;first|contradiction|omega)|(exact vi (by simp[Ce, *]))
  have hc8:=bp hb8
  refine AG (w_ (a_ (h:=e_ (Ao (?_)))))
  refine Ba (fun m s=>∃j:Nat,j≤a0.size∧m=a0.size - j∧(∀(i:Nat) (h:i<a0.data.toList.length),i<j→a0.data.toList[i]≠0)∧s=⟨look [(0, .fp (Cs w F I)),(4, .v (.int .i64 (j:Int)))],⟨[],[]⟩⟩) (a0.size) ((wk 0 0)) (⟨0,Nat.zero_le _,rfl,fun i h1 h2=>by omega,rfl⟩) ?_
  rintro m s ⟨j,hj,rfl,hz,rfl⟩
  refine q_ (w_ (m_ (h:=m_ (h:=k_ (h:=f_ (h:=f_ (h:=l_ (h:=?_))))))))
  refine A4 rfl (CS (n:=0) rfl rfl rfl harg ?_)
  refine l_ (h:=n_ (h:=BJ (h:=e_ (?_))))
  refine A8 rfl (fun hb9=>?_) (fun hb9=>?_)
  ·have hc9:=bp hb9
   have hlt:j<a0.size:=by omega
   refine AG (q_ (Ao (w_ (m_ (h:=k_ (h:=f_ (h:=f_ (h:=l_ (h:=?_)))))))))
   refine A4 rfl (CS (n:=0) rfl rfl rfl harg ?_)
   refine l_ (h:=m_ (h:=?_))
   refine A4 rfl (J3 (n:=j) Tryz.underlying9 rfl rfl rfl hlt ?_)
   refine AQ (h:=e_ (?_))
   refine A8 rfl (fun hb10=>?_) (fun hb10=>?_)
   ·have hc10:=bp hb10
    have hany:(a0.data.toList.any fun b=>decide (b=0))=true:=by
     rw[List.any_eq_true]
     refine⟨a0.data.toList[j]'(by simpa using hlt),List.getElem_mem _,?_⟩
     have h00:a0[j].toNat=0:=by have:=hc10;omega
     simp
     exact UInt8.toNat_inj.1 h00
    refine w_ (a_ (h:=e_ (A6 (AR (A7 (A7 (AR (AR (A7 (?_))))))))))
    refine AB ?_
    first|(exfalso;first|contradiction|omega)|(exact vi (by simp[Ce, *]))
   have hc10:=bp hb10
   have hne:a0.data.toList[j]'(by simpa using hlt)≠0:=by
    intro e
    have h00:¬a0[j].toNat=0:=by have:=hc10;omega
    simp at e
    exact h00 (congrArg UInt8.toNat e)
   refine BB (Ay (t_ (AP (m_ (h:=B8 (h:=a_ (h:=AO (?_))))))))
   refine AD ?_
   refine⟨_,_,?_,⟨j+1,by omega,rfl,(fun i h1 h2=>by
    by_cases e:i=j
    ·subst e;exact hne
    exact hz i h1 (by omega)),rfl⟩,(wk 0 0)⟩
   omega
  have hc9:=bp hb9
  have hany:(a0.data.toList.any fun b=>decide (b=0))=false:=by
   rw[List.any_eq_false]
   intro b hb
   obtain⟨i,hi,rfl⟩:=List.mem_iff_getElem.1 hb
   have:=hz i hi (by have hl:=Lib.size_eq a0;omega)
   simpa using this
  refine BO (Aq (Aq (BQ (Ay (t_ (w_ (a_ (h:=e_ (A6 (?_))))))))))
  refine AB ?_
  first|(exfalso;first|contradiction|omega)|(exact vi (by simp[Ce, *]))
 have hc7:=bp hb7
 refine q_ (w_ (AQ (h:=a_ (h:=e_ (?_)))))
 refine A8 rfl (fun hb11=>?_) (fun hb11=>?_)
 ·have hc11:=bp hb11
  refine AG (Bf (h:=w_ (?_)))
  refine A4 rfl (CE (len:=4) (sz:=1) (n:=0) (by kernel_rfl) rfl rfl rfl rfl ?_)
  refine l_ (h:=?_)
  refine A4 rfl (AK (R9 w.c.a0) ?_)
  rintro r rfl
  refine BA (h:=e_ (?_))
  refine A8 rfl (fun hb12=>?_) (fun hb12=>?_)
  ·have hc12:=bp hb12
   refine w_ (a_ (h:=e_ (A6 (AR (A7 (?_))))))
   refine AB ?_
   first|(exfalso;first|contradiction|omega)|(exact vi (by simp[Ce, *]))
  have hc12:=bp hb12
  refine BB (Ay (t_ (w_ (a_ (h:=e_ (A6 (?_)))))))
  refine AB ?_
  first|(exfalso;first|contradiction|omega)|(exact vi (by simp[Ce, *]))
 have hc11:=bp hb11
 refine AP (AQ (h:=a_ (h:=e_ (?_))))
 refine A8 rfl (fun hb13=>?_) (fun hb13=>?_)
 ·have hc13:=bp hb13
  refine w_ (?_)
  refine A4 rfl (CE (len:=4) (sz:=1) (n:=0) (by kernel_rfl) rfl rfl rfl rfl ?_)
  refine l_ (h:=?_)
  refine A4 rfl (AK (R9 w.c.a0) ?_)
  rintro r rfl
  refine BA (h:=e_ (?_))
  refine A8 rfl (fun hb14=>?_) (fun hb14=>?_)
  ·have hc14:=bp hb14
   refine w_ (a_ (h:=e_ (A6 (AR (A7 (?_))))))
   refine AB ?_
   first|(exfalso;first|contradiction|omega)|(exact vi (by simp[Ce, *]))
  have hc14:=bp hb14
  refine BB (Ay (t_ (w_ (a_ (h:=e_ (A6 (?_)))))))
  refine AB ?_
  first|(exfalso;first|contradiction|omega)|(exact vi (by simp[Ce, *]))
 have hc13:=bp hb13
 refine w_ (AQ (h:=a_ (h:=e_ (?_))))
 refine A8 rfl (fun hb15=>?_) (fun hb15=>?_)
 ·have hc15:=bp hb15
  refine w_ (?_)
  refine A4 rfl (CE (len:=4) (sz:=1) (n:=0) (by kernel_rfl) rfl rfl rfl rfl ?_)
  refine l_ (h:=BJ (h:=m_ (h:=?_)))
  refine Ax false rfl rfl (fun hb16=>?_) (fun hb16=>?_)
  ·have hc16:=bp hb16
   refine A3 (h:=A3 (h:=A3 (h:=Af (h:=m_ (h:=A3 (h:=A3 (h:=A3 (h:=Af (h:=m_ (h:=A3 (h:=A3 (h:=A3 (h:=Af (h:=e_ (Bf (h:=w_ (a_ (h:=e_ (A6 (AR (A7 (?_))))))))))))))))))))))
   refine AB ?_
   first|(exfalso;first|contradiction|omega)|(exact vi (by simp[Ce, *]))
  have hc16:=bp hb16
  refine B6 (CE (len:=4) (sz:=1) (n:=0) (by kernel_rfl) rfl rfl rfl rfl ?_)
  refine l_ (h:=CZ (h:=Am (h:=m_ (h:=?_))))
  refine Ax false rfl rfl (fun hb17=>?_) (fun hb17=>?_)
  ·have hc17:=bp hb17
   refine A3 (h:=A3 (h:=A3 (h:=Af (h:=m_ (h:=A3 (h:=A3 (h:=A3 (h:=Af (h:=e_ (Bf (h:=w_ (a_ (h:=e_ (A6 (AR (A7 (?_)))))))))))))))))
   refine AB ?_
   first|(exfalso;first|contradiction|omega)|(exact vi (by simp[Ce, *]))
  have hc17:=bp hb17
  refine B6 (CE (len:=4) (sz:=1) (n:=1) (by kernel_rfl) rfl rfl rfl rfl ?_)
  refine l_ (h:=BJ (h:=Am (h:=m_ (h:=?_))))
  refine Ax false rfl rfl (fun hb18=>?_) (fun hb18=>?_)
  ·have hc18:=bp hb18
   refine A3 (h:=A3 (h:=A3 (h:=Af (h:=e_ (Bf (h:=w_ (a_ (h:=e_ (A6 (AR (A7 (?_))))))))))))
   refine AB ?_
   first|(exfalso;first|contradiction|omega)|(exact vi (by simp[Ce, *]))
  have hc18:=bp hb18
  refine B6 (CE (len:=4) (sz:=1) (n:=1) (by kernel_rfl) rfl rfl rfl rfl ?_)
  refine l_ (h:=CZ (h:=Am (h:=e_ (?_))))
  refine A8 rfl (fun hb19=>?_) (fun hb19=>?_)
  ·have hc19:=bp hb19
   refine w_ (a_ (h:=e_ (A6 (AR (A7 (?_))))))
   refine AB ?_
   first|(exfalso;first|contradiction|omega)|(exact vi (by simp[Ce, *]))
  have hc19:=bp hb19
  refine BB (Ay (t_ (w_ (a_ (h:=e_ (A6 (?_)))))))
  refine AB ?_
  first|(exfalso;first|contradiction|omega)|(exact vi (by simp[Ce, *]))
 have hc15:=bp hb15
 refine w_ (AQ (h:=a_ (h:=e_ (?_))))
 refine A8 rfl (fun hb20=>?_) (fun hb20=>?_)
 ·have hc20:=bp hb20
  refine w_ (m_ (h:=k_ (h:=f_ (h:=f_ (h:=l_ (h:=BF (h:=e_ (?_))))))))
  refine A8 rfl (fun hb21=>?_) (fun hb21=>?_)
  ·have hc21:=bp hb21
   refine w_ (a_ (h:=e_ (A6 (AR (A7 (?_))))))
   refine AB ?_
   first|(exfalso;first|contradiction|omega)|(exact vi (by simp[Ce, *]))
  have hc21:=bp hb21
  refine BB (Ay (t_ (w_ (a_ (h:=e_ (A6 (?_)))))))
  refine AB ?_
  first|(exfalso;first|contradiction|omega)|(exact vi (by simp[Ce, *]))
 have hc20:=bp hb20
 refine w_ (AQ (h:=a_ (h:=e_ (?_))))
 refine A8 rfl (fun hb22=>?_) (fun hb22=>?_)
 ·have hc22:=bp hb22
  refine w_ (?_)
  refine A4 rfl (CE (len:=4) (sz:=1) (n:=0) (by kernel_rfl) rfl rfl rfl rfl ?_)
  refine l_ (h:=BJ (h:=e_ (?_)))
  refine A8 rfl (fun hb23=>?_) (fun hb23=>?_)
  ·have hc23:=bp hb23
   refine w_ (a_ (h:=e_ (A6 (AR (A7 (?_))))))
   refine AB ?_
   first|(exfalso;first|contradiction|omega)|(exact vi (by simp[Ce, *]))
  have hc23:=bp hb23
  refine BB (Ay (t_ (w_ (a_ (h:=e_ (A6 (?_)))))))
  refine AB ?_
  first|(exfalso;first|contradiction|omega)|(exact vi (by simp[Ce, *]))
 have hc22:=bp hb22
 refine BB (Ay (t_ (w_ (a_ (h:=e_ (A6 (?_)))))))
 refine AB ?_
 first|(exfalso;first|contradiction|omega)|(exact vi (by simp[Ce, *]))
end
def Eu(n:Int):Int:=IntKind.i64.wrap (0 - n)
def C3(s:Syst)(pid:Int)(c:Cal):Syst×Res:=
 if Bz s.tab pid=false then(s,{DW with exit:= -4})else if BY c≠0 then(s,{DW with exit:= -22})
 else if(E0 s (AU s.tab pid) c).2.2≠0 then(s,{DW with exit:=Eu (E0 s (AU s.tab pid) c).2.2,items:=(E0 s (AU s.tab pid) c).1})
 else if(B9 (EZ s pid c)).2≠0 then(s,{DW with exit:=Eu (B9 (EZ s pid c)).2,items:=(E0 s (AU s.tab pid) c).1})
 else((B9 (EZ s pid c)).1.s,(B9 (EZ s pid c)).1.r)
def JK(R:Syst×Res):AV:= .tup [.agg (Bg R.1), .agg (E9 R.2)]
theorem Vv{α:Type}{sz:Nat}{F:α→List AV}(hF:RowF sz F)(l:List α)(cap0 cap:Nat):((LB sz F l cap0).drop 0).take (l.length * sz)++List.replicate ((cap - l.length) * sz) .any=LB sz F l cap:=by
 unfold LB
 have h:=T5 (cap:=cap0) (KS hF l)
 rw[List.length_map]at h
 rw[h]
 unfold CG
 rw[List.length_map]
def Ew:List AV:=[.v (.slice none 0 0), .v (.slice none 0 0), .v (.int .i64 0), .v (.int .i64 0), .v (.slice none 0 0)]
def FP:List AV:=[.v (.int .i64 0), .v (.int .i64 0), .v (.int .i64 0), .v (.slice none 0 0), .v (.slice none 0 0)]
def Fl(r:Res)(I:AV):List AV:=[.v (.int .i64 r.exit), .v (.int .i64 r.child), .v (.int .i64 r.gone),I, .sl 7 (r.changes.map CK) none]
def CJ(s:Syst)(pid:Int)(c:Cal):Wrk:=⟨s,AU s.tab pid,c,[],DW⟩
theorem RR(s:Syst)(pid:Int)(c:Cal):LeA (.agg (Bg s++(Av (AU s.tab pid)++(D0 c++[.v (.slice none 0 0), .v (.int .i64 0), .v (.int .i64 0), .v (.int .i64 0), .v (.slice none 0 0), .v (.slice none 0 0)])))) (.agg (Cs (CJ s pid c) (.v (.slice none 0 0)) (.v (.slice none 0 0)))):=by
 refine LeA.agg ?_
 repeat (first|exact LeL.nil|refine LeL.cons (LeA.refl _) ?_|refine LeL.cons (LeA.nil _) ?_)
theorem LU(w:Wrk)(R:DP):(BN w R).1.r.items.length=w.r.items.length:=by
 unfold BN
 split<;>rfl
theorem Oe(w:Wrk)(R:Tab×Int):(C2 w R).1.r.items.length=w.r.items.length:=by
 unfold C2
 split<;>rfl
theorem RS(w:Wrk)(i:Nat)(a:A9):(GZ w i a).r.items.length=w.r.items.length:=List.length_modify ..
theorem Vw(w:Wrk)(i:Nat)(r:Int):(Fg w i r).r.items.length=w.r.items.length:=List.length_modify ..
theorem RT(w:Wrk)(i:Nat)(n:Nod):(CO w i n).1.r.items.length=w.r.items.length:=by
 unfold CO
 split
 ·rw[RS,LU]
 rfl
theorem Vx(w:Wrk)(a:A9):(G7 w a).1.r.items.length=w.r.items.length:=by
 unfold G7
 rw[Oe]
 rfl
theorem Vy(w:Wrk):(C8 w).1.r.items.length=w.r.items.length:=by
 unfold C8
 repeat' split
 all_goals first|rfl|exact RT _ _ _|exact Vx _ _|exact(Vx _ _).trans (RT _ _ _)
theorem gD(w:Wrk)(R:DP)(x:A9):(Gb w R x).1.r.items.length=w.r.items.length:=by
 unfold Gb
 repeat' split
 all_goals first|rfl|exact LU _ _|exact(RS _ _ _).trans ((Vw _ _ _).trans (LU _ _))
theorem Vz(w:Wrk):(Df w).1.r.items.length=w.r.items.length:=by
 unfold Df
 repeat' split
 all_goals first|rfl|exact gD _ _ _
theorem gE{w:Wrk}(h:w.c.num=6∨w.c.num=13):(B9 w).1.r.items.length=w.r.items.length:=by
 rcases h with h|h
 ·rw[B9,if_pos h];exact Vy w
 rw[B9,if_neg (show¬w.c.num=6 by omega),if_neg (show¬w.c.num=8 by omega),if_neg (show¬(w.c.num=10∨w.c.num=12) by omega),if_pos h];exact Vz w
section
variable {P:Program}{ev:Operand→Option AV}{h:AH}{R:AV→AH→Prop}{d:Option Tmp}{ty:TypeId}{pos:String}{af:Array Edge}{gd:Option (Nat×Bool)}
theorem RU{T:TypeId}{x:Operand}{a:Int}(hx:ev x=some (.v (.int .i64 a)))(hR:R (.v (.int .i64 (Eu a))) h):AStep P ⟨d, .unOp .neg T x,ty,pos,af,gd⟩ ev h R:=
 D3 (fun _ G w ec _ he=>⟨.int .i64 (Eu a),by
  have h1:=he x (by simp[Op.operands]) _ hx
  simp only[rep]at h1
  simp[execOp,h1,Op.unary,Op.intArith,Eu],by simp only[rep]⟩) hR
end
section
theorem gF(w:Wrk)(cap:Nat)(hv:SpcV w.s.spc)(hm:w.s.spc.mounts.length≤1000)(htb:TabB w.s.tab)(hnm:∀f∈w.found,f.name.size≤12)(h6:(w.c.num=6∧1≤w.found.length∧1≤w.r.items.length)∨(w.c.num=13∧2≤w.found.length∧2≤w.r.items.length)):ACall Tryz.prog 68 [.bp 0 0] [WA w cap,IB w cap] (fun r b t=>t=[]∧r= .v (.int .i64 (B9 w).2)∧b=[WA (B9 w).1 cap,IB (B9 w).1 cap]):=by
 have hps:w.s.tab.ps.length≤1000:=by have:=htb.few;omega
 refine enter Tryz.func68 rfl rfl rfl rfl rfl 2 rfl ?_
 refine w_ (a_ (h:=e_ (q_ (w_ (m_ (h:=k_ (h:=f_ (h:=f_ (h:=l_ (h:=e_ (Ao (w_ (AQ (h:=a_ (h:=e_ (?_))))))))))))))))
 refine A8 rfl (fun hb1=>?_) (fun hb1=>?_)
 ·have hc1:=bp hb1
  obtain⟨f,hf⟩:∃f,w.found[0]?=some f:=⟨_,B3 (by omega)⟩
  obtain⟨x,hx⟩:∃x,w.r.items[0]?=some x:=⟨_,B3 (by omega)⟩
  have hact:B9 w=C8 w:=by rw[B9,if_pos hc1]
  refine w_ (m_ (h:=?_))
  refine A4 rfl (BV [0,1] rfl (.cons _ _ _ _ _ rfl (LeA.refl _) .nil) (by decide) (.cons _ _ _ _ _ rfl rfl (.cons _ _ _ _ _ rfl (Cg B1 _ _ _) .nil)) (Vm w cap f x hv hm htb hf hx (by have:=hnm f (Au hf);omega)) ?_)
  rintro r bc tc ⟨rfl,rfl,rfl⟩
  refine⟨rfl,_,D1 rfl (C8 w).1 cap,?_⟩
  refine a_ (h:=e_ (A6 (AR (A7 (?_)))))
  refine BM (r:= .v (.int .i64 (B9 w).2)) none (h5:=(by rw[hact];exact LeA.refl _)) (h6:=⟨rfl,rfl,?_⟩)
  rw[hact]
  rfl
 have hc1:=bp hb1
 refine w_ (AQ (h:=a_ (h:=e_ (?_))))
 refine A8 rfl (fun hb2=>?_) (fun hb2=>?_)
 ·have hc2:=bp hb2
  exfalso;first|contradiction|omega
 have hc2:=bp hb2
 refine q_ (w_ (AQ (h:=a_ (h:=e_ (?_)))))
 refine A8 rfl (fun hb3=>?_) (fun hb3=>?_)
 ·have hc3:=bp hb3
  exfalso;first|contradiction|omega
 have hc3:=bp hb3
 refine AP (AQ (h:=a_ (h:=e_ (?_))))
 refine A8 rfl (fun hb4=>?_) (fun hb4=>?_)
 ·have hc4:=bp hb4
  exfalso;first|contradiction|omega
 have hc4:=bp hb4
 refine w_ (AQ (h:=a_ (h:=e_ (?_))))
 refine A8 rfl (fun hb5=>?_) (fun hb5=>?_)
 ·have hc5:=bp hb5
  obtain⟨f,hf⟩:∃f,w.found[0]?=some f:=⟨_,B3 (by omega)⟩
  obtain⟨g,hg⟩:∃f,w.found[1]?=some f:=⟨_,B3 (by omega)⟩
  obtain⟨x,hx⟩:∃x,w.r.items[0]?=some x:=⟨_,B3 (by omega)⟩
  obtain⟨x1,hx1⟩:∃x,w.r.items[1]?=some x:=⟨_,B3 (by omega)⟩
  have hact:B9 w=Df w:=by rw[B9,if_neg (show¬w.c.num=6 by omega),if_neg (show¬w.c.num=8 by omega),if_neg (show¬(w.c.num=10∨w.c.num=12) by omega),if_pos hc5]
  refine w_ (m_ (h:=?_))
  refine A4 rfl (BV [0,1] rfl (.cons _ _ _ _ _ rfl (LeA.refl _) .nil) (by decide) (.cons _ _ _ _ _ rfl rfl (.cons _ _ _ _ _ rfl (Cg B1 _ _ _) .nil)) (Vs w cap f g x x1 hv hm hps hf hg hx hx1 (by have:=hnm f (Au hf);omega) (by have:=hnm g (Au hg);omega)) ?_)
  rintro r bc tc ⟨rfl,rfl,rfl⟩
  refine⟨rfl,_,D1 rfl (Df w).1 cap,?_⟩
  refine a_ (h:=e_ (A6 (AR (A7 (?_)))))
  refine BM (r:= .v (.int .i64 (B9 w).2)) none (h5:=(by rw[hact];exact LeA.refl _)) (h6:=⟨rfl,rfl,?_⟩)
  rw[hact]
  rfl
 have hc5:=bp hb5
 exfalso;first|contradiction|omega
theorem RV(s:Syst)(pid:Int)(c:Cal)(hv:SpcV s.spc)(hm:s.spc.mounts.length≤1000)(ht:TabB s.tab)(hcp:c.paths.length≤1000)(hca:c.args.length≤1000)(h6:c.num=6∨c.num=13):AFn Tryz.prog 35 [.agg (Bg s), .v (.int .i64 pid), .agg (D0 c)] (fun r=>r=JK (C3 s pid c)):=by
 have hsb:=hv.b hm
 obtain⟨W1,hW1⟩:∃W,W=EZ s pid c:=⟨_,rfl⟩
 have hwf:=Vu s pid c
 rw[←hW1]at hwf
 have hWs:W1.s=s:=by rw[hW1];rfl
 have hWc:W1.c=c:=by rw[hW1];rfl
 refine enter Tryz.func35 rfl rfl rfl rfl rfl 0 rfl ?_
 refine w_ (b_ (h:=b_ (h:=AW (h:=AW (h:=e_ (w_ (f_ (h:=l_ (h:=m_ (h:=?_))))))))))
 refine A4 rfl (AK (Fj s.tab pid ht) ?_)
 rintro r rfl
 refine m_ (h:=x_ (h:=x_ (h:=AW (h:=s_ (h:=a_ (h:=e_ (q_ (w_ (m_ (h:=BA (h:=e_ (?_))))))))))))
 refine A8 rfl (fun hb1=>?_) (fun hb1=>?_)
 ·have hc1:=bp hb1
  have hno:Bz s.tab pid=false:=by simpa using hc1
  refine w_ (l_ (h:=?_))
  refine A4 rfl (AK (Gg s hsb ht) ?_)
  rintro r rfl
  refine A4 rfl (EQ (y:= .agg (E9 {DW with exit:= -4})) (Ca ⟨rfl,rfl⟩) ?_)
  refine s_ (h:=s_ (h:=e_ (A6 (A7 (?_)))))
  refine AB ?_
  rw[C3,if_pos hno];rfl
 have hc1:=bp hb1
 have hno:¬Bz s.tab pid=false:=by simpa using hc1
 refine AG (q_ (w_ (l_ (h:=?_))))
 refine A4 rfl (AK (RA c hcp hca) ?_)
 rintro r rfl
 refine BF (h:=e_ (?_))
 refine A8 rfl (fun hb2=>?_) (fun hb2=>?_)
 ·have hc2:=bp hb2
  have hck:BY c≠0:=by simpa using hc2
  refine w_ (l_ (h:=?_))
  refine A4 rfl (AK (Gg s hsb ht) ?_)
  rintro r rfl
  refine A4 rfl (EQ (y:= .agg (E9 {DW with exit:= -22})) (Ca ⟨rfl,rfl⟩) ?_)
  refine s_ (h:=s_ (h:=e_ (A6 (A7 (?_)))))
  refine AB ?_
  rw[C3,if_neg hno,if_pos hck];rfl
 have hc2:=bp hb2
 have hck:BY c=0:=by simpa using hc2
 obtain⟨hk1,hk2,hk3,hk4,hk5⟩:=RP hck
 have hargs:∀p∈(CJ s pid c).c.args,p.size≤1000:=fun p hp=>by have:=hk5 p hp;omega
 have hpaths:∀p∈(CJ s pid c).c.paths,p.size≤100000:=fun p hp=>by have:=hk4 p hp;omega
 have hpn:(c.num=6∧c.paths.length=1∧(CB c).length=1)∨(c.num=13∧c.paths.length=2∧(CB c).length=2):=by
  rcases h6 with h|h
  ·refine .inl ⟨h,?_,?_⟩
   ·rw[h]at hk1;have:(Bi 6).2.2.1=1:=rfl;omega
   simp[CB,h]
  refine .inr ⟨h,?_,?_⟩
  ·rw[h]at hk1;have:(Bi 13).2.2.1=2:=rfl;omega
  simp[CB,h]
 have hpp:(CJ s pid c).c.paths.length=(CB (CJ s pid c).c).length:=by show c.paths.length=(CB c).length;omega
 have hp0:0<(CJ s pid c).c.paths.length:=by show 0<c.paths.length;omega
 have hzl:(c.paths.zip (CB c)).length=c.paths.length:=by rw[List.length_zip];omega
 have hil0:0<W1.r.items.length:=by rw[hwf.2.2,hzl];omega
 refine AG (q_ (BH ([(0,Bg s),(1,D0 c),(4,Av (AU s.tab pid))]) 7 (h:=?_)))
 refine AJ 0 (h:=?_)
 refine AJ 2 (h:=?_)
 refine AJ 3 (h:=?_)
 refine c_ 1 rfl (AK (Gg s hsb ht) ?_)
 rintro r rfl
 refine o_ (h:=?_)
 refine Bj 4 rfl (fun _ hS=>EC (y:= .agg (Cs (CJ s pid c) (.v (.slice none 0 0)) (.v (.slice none 0 0)))) (Ca ⟨rfl,rfl⟩) (RR s pid c) ⟨rfl,rfl⟩) ?_
 refine c_ 5 rfl (Lw rfl rfl (by repeat constructor) ?_)
 refine o_ (h:=BC 6 (h:=z_ (h:=t_ (?_))))
 refine B5 (fun S=>∃cap,W1.r.items.length≤cap∧S=⟨look [(3, .bp 2 0),(6, .bp 3 0),(7, .bp 4 0),(10, .bp 0 0),(11, .v (.int .i64 (E0 s (AU s.tab pid) c).2.2))],⟨[WA W1 cap,IB W1 cap,Bg s,Ew,FP],[]⟩⟩) ?_ ?_
 ·skip
  refine AP (m_ (h:=m_ (h:=?_)))
  refine A4 rfl (Cf 1 rfl (.cons _ _ _ _ _ rfl (LeA.of_eq rfl) .nil) (RQ (CJ s pid c) (.v (.slice none 0 0)) (.v (.slice none 0 0)) (fun h=>by have:c.num=9:=h;omega) hargs) ?_)
  rintro r rfl
  refine⟨rfl,?_⟩
  refine A4 rfl (BV [5] rfl (.cons _ _ _ _ _ rfl (LeA.refl _) (.cons _ _ _ _ _ rfl (LeA.refl _) .nil)) (by decide) (.cons _ _ _ _ _ rfl rfl .nil) (Vj (CJ s pid c) (Ce (AU s.tab pid) c) hv hm hpp (by show c.paths.length≤1000;omega) hp0 hpaths) ?_)
  rintro r bc tc ⟨rfl,cap,hcap,rfl,rfl⟩
  refine⟨rfl,_,Vt (CJ s pid c) _ _ cap _,?_⟩
  refine a_ (h:=AO (?_))
  refine AD ?_
  rw[hW1]
  exact⟨_,⟨cap,hcap,rfl⟩,E4 [5,6,0,2,3] (fun i hi=>absurd hi (Nat.not_lt_zero i)) (by decide) (.cons _ _ _ _ _ rfl rfl (.cons _ _ _ _ _ rfl (Ge B1 _ _ _) (.cons _ _ _ _ _ rfl rfl (.cons _ _ _ _ _ rfl rfl (.cons _ _ _ _ _ rfl rfl .nil))))) (by repeat (first|exact SubK.nil|refine SubK.cons _ _ _ _ rfl (LeA.refl _) ?_))⟩
 rintro S ⟨cap,hcap,rfl⟩
 refine w_ (m_ (h:=k_ (h:=f_ (h:=f_ (h:=l_ (h:=?_))))))
 refine A4 rfl (M4 rfl rfl (SrcA.bs 1 0 _ cap _ rfl (by rw[show IB W1 cap=LB 13 Bt W1.r.items cap from rfl,Mx B1 hcap];omega)) hil0 (by rw[hwf.2.2,hzl];omega) ?_)
 rintro cap2 k bx2 hcp2 hs
 rw[show((IB W1 cap).drop 0).take (W1.r.items.length * 13)++List.replicate ((cap2 - W1.r.items.length) * 13) AV.any=LB 13 Bt W1.r.items cap2 from Vv B1 _ cap cap2]at hs
 obtain⟨rfl,rfl⟩:k=5∧bx2=[_,_,_,_,_,_]:=hs.eq
 refine a_ (h:=e_ (?_))
 refine B5 (fun S=>∃(W2:Wrk) (E2:Int),((¬(E0 s (AU s.tab pid) c).2.2=0∧E2=(E0 s (AU s.tab pid) c).2.2)∨((E0 s (AU s.tab pid) c).2.2=0∧W2=(B9 W1).1∧E2=(B9 W1).2))∧S=⟨look [(3, .bp 2 0),(6, .bp 3 0),(7, .bp 4 0),(10, .bp 0 0),(11, .v (.int .i64 E2)),(12, .bs 5 0 13 W1.r.items.length cap2)],⟨[WA W2 cap,IB W2 cap,Bg s,Ew,FP,LB 13 Bt W1.r.items cap2],[]⟩⟩) ?_ ?_
 ·skip
  refine w_ (m_ (h:=AQ (h:=e_ (?_))))
  refine A8 rfl (fun hb3=>?_) (fun hb3=>?_)
  ·have hc3:=bp hb3
   have he1:(E0 s (AU s.tab pid) c).2.2=0:=by simpa using hc3
   refine AP (m_ (h:=?_))
   refine A4 rfl (BV [0,1] rfl (.cons _ _ _ _ _ rfl (LeA.refl _) .nil) (by decide) (.cons _ _ _ _ _ rfl rfl (.cons _ _ _ _ _ rfl (Cg B1 _ _ _) .nil)) (gF W1 cap (by rw[hWs];exact hv) (by rw[hWs];exact hm) (by rw[hWs];exact ht) hwf.1 (by rw[hWc,hwf.2.1,hwf.2.2,hzl];omega)) ?_)
   rintro r bc tc ⟨rfl,rfl,rfl⟩
   refine⟨rfl,_,D1 rfl (B9 W1).1 cap,?_⟩
   refine a_ (h:=AO (?_))
   refine AD ?_
   exact⟨_,⟨(B9 W1).1,(B9 W1).2, .inr ⟨he1,rfl,rfl⟩,rfl⟩,Az 6 0 rfl rfl rfl (by simp[Ag,Ab,Ac,BZ B1,BD,WA,IB,CC,Bg,Ew,FP]) ((by repeat (first|exact Sub.nil|refine Sub.cons _ _ _ rfl rfl ?_|refine Sub.any _ _ ?_|refine Sub.sl _ _ _ _ _ rfl ?_|refine Sub.slnil _ _ _ rfl ?_)))⟩
  have hc3:=bp hb3
  have he1:¬(E0 s (AU s.tab pid) c).2.2=0:=by simpa using hc3
  refine BB (?_)
  refine AD ?_
  first|exact⟨_,⟨(B9 W1).1,(B9 W1).2, .inr ⟨he1,rfl,rfl⟩,rfl⟩,Az 6 0 rfl rfl rfl (by simp[Ag,Ab,Ac,BZ B1,BD,WA,IB,CC,Bg,Ew,FP]) ((by repeat (first|exact Sub.nil|refine Sub.cons _ _ _ rfl rfl ?_|refine Sub.any _ _ ?_|refine Sub.sl _ _ _ _ _ rfl ?_|refine Sub.slnil _ _ _ rfl ?_)))⟩|exact⟨_,⟨W1,_, .inl ⟨he1,rfl⟩,rfl⟩,Az 6 0 rfl rfl rfl (by simp[Ag,Ab,Ac,BZ B1,BD,WA,IB,CC,Bg,Ew,FP]) ((by repeat (first|exact Sub.nil|refine Sub.cons _ _ _ rfl rfl ?_|refine Sub.any _ _ ?_|refine Sub.sl _ _ _ _ _ rfl ?_|refine Sub.slnil _ _ _ rfl ?_)))⟩
 rintro S ⟨W2,E2,hQ,rfl⟩
 refine q_ (w_ (m_ (h:=BF (h:=e_ (?_)))))
 refine A8 rfl (fun hb4=>?_) (fun hb4=>?_)
 ·have hc4:=bp hb4
  have he2:E2≠0:=by simpa using hc4
  have hrun:C3 s pid c=(s,{DW with exit:=Eu E2,items:=W1.r.items}):=by
   rw[C3,if_neg hno,if_neg (by simp[hck])]
   rcases hQ with⟨q1,q2⟩|⟨q1,q2,q3⟩
   ·rw[if_pos q1,←q2,hW1];rfl
   rw[if_neg (by simp[q1]),←hW1,←q3,if_pos he2,hW1];rfl
  refine B5 (fun S=>S=⟨look [(6, .bp 0 0),(7, .bp 1 0)],⟨[Bg s,Fl {DW with exit:=Eu E2} (.sl 13 (W1.r.items.map Bt) none)],[]⟩⟩) ?_ ?_
  ·skip
   refine AP (l_ (h:=?_))
   refine A4 rfl (AK (Gg s hsb ht) ?_)
   rintro r rfl
   refine m_ (h:=?_)
   refine A4 rfl (RU rfl ?_)
   refine m_ (h:=?_)
   refine A4 rfl (EQ (y:= .agg (Fl {DW with exit:=Eu E2} (.bs 5 0 13 W1.r.items.length cap2))) (Ca ⟨rfl,rfl⟩) ?_)
   refine s_ (h:=s_ (h:=AO (?_)))
   refine AD ?_
   refine⟨_,rfl,(E4 [3,4,5] (rows:=[Bg s,Fl {DW with exit:=Eu E2} (.bs 2 0 13 W1.r.items.length cap2),LB 13 Bt W1.r.items cap2]) (l:=[(6, .bp 0 0),(7, .bp 1 0)]) (fun i hi=>absurd hi (Nat.not_lt_zero i)) (by decide) (.cons _ _ _ _ _ rfl rfl (.cons _ _ _ _ _ rfl rfl (.cons _ _ _ _ _ rfl (Ge B1 _ _ _) .nil))) (by repeat (first|exact SubK.nil|refine SubK.cons _ _ _ _ rfl (LeA.refl _) ?_))).trans (Em 2 1 rfl (congrArg (fun x=>[Bg s,Fl {DW with exit:=Eu E2} x]) (KT B1 rfl rfl hcp2)) (.cons _ _ _ _ rfl (LeA.refl _) (.cons _ _ _ _ rfl (LeA.refl _) .nil)))⟩
  rintro S rfl
  refine A6 (A7 (?_))
  refine Aj (r:=JK (C3 s pid c)) none (h5:=(by rw[hrun];exact(by repeat (first|exact LeA.refl _|exact LeA.nil _|exact LeL.refl _|refine LeA.agg ?_|refine LeA.tup ?_|exact LeL.nil|refine LeL.cons ?_ ?_|exact LeA.any _)))) (h6:=⟨rfl,rfl,rfl⟩)
 have hc4:=bp hb4
 have he2:E2=0:=by simpa using hc4
 have hlen2:W2.r.items.length≤cap:=by
  rcases hQ with⟨q1,q2⟩|⟨q1,q2,q3⟩
  ·exact absurd (q2.symm.trans he2) q1
  rw[q2,gE (by rw[hWc];exact h6)];exact hcap
 have hrun:C3 s pid c=(W2.s,W2.r):=by
  rcases hQ with⟨q1,q2⟩|⟨q1,q2,q3⟩
  ·exact absurd (q2.symm.trans he2) q1
  rw[C3,if_neg hno,if_neg (by simp[hck]),if_neg (by simp[q1]),←hW1,←q3,if_neg (by simp[he2]),q2]
 refine AG (?_)
 refine B5 (fun S=>S=⟨look [(6, .bp 0 0),(7, .bp 1 0)],⟨[Bg W2.s,Fl W2.r (.sl 13 (W2.r.items.map Bt) none)],[]⟩⟩) ?_ ?_
 ·skip
  refine BH ([(0,WA W2 cap)]) 10 (h:=AN 0 (h:=B7 1 (h:=AF 2 (h:=AJ 3 (h:=AN 4 (h:=B7 5 (h:=AF 6 (h:=AJ 7 (h:=?_)))))))))
  refine B0 8 rfl (Aw rfl rfl rfl rfl rfl rfl (by repeat constructor) (by repeat constructor) ?_)
  refine o_ (h:=?_)
  refine B0 9 rfl (Aw rfl rfl rfl rfl rfl rfl (by repeat constructor) (by repeat constructor) ?_)
  refine o_ (h:=z_ (h:=?_))
  refine AD ?_
  refine⟨_,rfl,(E4 [3,4,1] (rows:=[Bg W2.s,Fl W2.r (.bs 2 0 13 W2.r.items.length cap),LB 13 Bt W2.r.items cap]) (l:=[(6, .bp 0 0),(7, .bp 1 0)]) (fun i hi=>absurd hi (Nat.not_lt_zero i)) (by decide) (.cons _ _ _ _ _ rfl rfl (.cons _ _ _ _ _ rfl rfl (.cons _ _ _ _ _ rfl (Ge B1 _ _ _) .nil))) (by repeat (first|exact SubK.nil|refine SubK.cons _ _ _ _ rfl (LeA.refl _) ?_))).trans (Em 2 1 rfl (congrArg (fun x=>[Bg W2.s,Fl W2.r x]) (KT B1 rfl rfl hlen2)) (.cons _ _ _ _ rfl (LeA.refl _) (.cons _ _ _ _ rfl (LeA.refl _) .nil)))⟩
 rintro S rfl
 refine A6 (?_)
 refine AB ?_
 rw[hrun];rfl
end
theorem W8(w:Wrk)(R:DP):(BN w R).1.r.items=w.r.items:=by
 unfold BN
 split<;>rfl
section
theorem gG(w:Wrk)(cap:Nat)(f g:Fnd)(x1:Itm)(hv:SpcV w.s.spc)(hm:w.s.spc.mounts.length≤1000)(hf:w.found[0]?=some f)(hg:w.found[1]?=some g)(hx1:w.r.items[1]?=some x1)(hn2:g.name.size≤100000):ACall Tryz.prog 115 [.bp 0 0] [WA w cap,IB w cap] (fun r b t=>t=[]∧r= .v (.int .i64 (EM w).2)∧b=[WA (EM w).1 cap,IB (EM w).1 cap]):=by
 have hsb:=hv.b hm
 have hrow0:(w.found.map Ak)[0]?=some (Ak f):=by rw[List.getElem?_map,hf];rfl
 have hrow1:(w.found.map Ak)[1]?=some (Ak g):=by rw[List.getElem?_map,hg];rfl
 have hfn:B2 w 0=f:=by unfold B2;rw[hf];rfl
 have hgn:B2 w 1=g:=by unfold B2;rw[hg];rfl
 obtain⟨R,hR⟩:∃R,R=Dc w.s.spc.files g.dir g.name f.file:=⟨_,rfl⟩
 have hok:=U9 hv.files g.dir g.name f.file
 rw[←hR]at hok
 have hcall:AFn Tryz.prog 46 [.agg (As w.s.spc.files), .agg (AA g.dir), .v (.string g.name), .agg (AA f.file)] (fun r=>r=CH R):=by rw[hR];exact ZC _ _ _ _ hv.files hn2
 have hlk:EM w=if f.ex=false then(w,2)else if AX w.s.spc.files f.file=true then(w,1)else if g.ex=true then(w,17)else if g.slash=true then(w,2)else if f.file.1≠g.dir.1 then(w,18)else if C1 w g.dir 2=false then(w,13)else if R.2.2≠0 then(w,R.2.2)else(GZ (BN w R).1 1 f.file,0):=by
  unfold EM GY
  rw[hfn,hgn,←hR]
 clear hR
 refine enter Tryz.func115 rfl rfl rfl rfl rfl 2 rfl ?_
 refine w_ (a_ (h:=e_ (?_)))
 refine B5 (fun S=>S=⟨look [(0, .bp 0 0),(3, .bp 2 0),(4, .bp 3 0)],⟨[WA w cap,IB w cap,Ak f,Ak g],[]⟩⟩) ?_ ?_
 ·skip
  refine BH ([(0,WA w cap)]) 16 (h:=AN 0 (h:=B7 1 (h:=AF 2 (h:=AJ 3 (h:=?_)))))
  refine Bj 4 rfl (fun _ hS=>CS (n:=0) rfl rfl rfl hrow0 ⟨rfl,rfl⟩) ?_
  refine AJ 5 (h:=AN 6 (h:=B7 7 (h:=AF 8 (h:=AJ 9 (h:=?_)))))
  refine Bj 10 rfl (fun _ hS=>CS (n:=1) rfl rfl rfl hrow1 ⟨rfl,rfl⟩) ?_
  refine AJ 11 (h:=?_)
  refine Da 12 13 rfl rfl ?_ ?_
  ·refine Bx (by repeat constructor) ?_
   refine o_ (h:=?_)
   refine c_ 13 rfl (Bx (by repeat constructor) ?_)
   refine o_ (h:=?_)
   refine B0 14 rfl (Aw rfl rfl rfl rfl rfl rfl (by repeat constructor) (by repeat constructor) ?_)
   refine o_ (h:=?_)
   refine B0 15 rfl (Aw rfl rfl rfl rfl rfl rfl (by repeat constructor) (by repeat constructor) ?_)
   refine o_ (h:=z_ (h:=?_))
   refine AD ?_
   exact⟨_,rfl,CP 4 0⟩
  refine Bx (by repeat constructor) ?_
  refine o_ (h:=?_)
  refine c_ 12 rfl (Bx (by repeat constructor) ?_)
  refine o_ (h:=?_)
  refine B0 14 rfl (Aw rfl rfl rfl rfl rfl rfl (by repeat constructor) (by repeat constructor) ?_)
  refine o_ (h:=?_)
  refine B0 15 rfl (Aw rfl rfl rfl rfl rfl rfl (by repeat constructor) (by repeat constructor) ?_)
  refine o_ (h:=z_ (h:=?_))
  refine AD ?_
  first|exact⟨_,rfl,CP 4 0⟩|exact⟨_,rfl,E4 [0,1,3,2] OB (by decide) (.cons _ _ _ _ _ rfl rfl (.cons _ _ _ _ _ rfl (Ge B1 _ _ _) (.cons _ _ _ _ _ rfl rfl (.cons _ _ _ _ _ rfl rfl .nil)))) (by repeat (first|exact SubK.nil|refine SubK.cons _ _ _ _ rfl (LeA.refl _) ?_))⟩
 rintro S rfl
 refine q_ (Ao (w_ (f_ (h:=l_ (h:=BA (h:=a_ (h:=e_ (?_))))))))
 refine A8 rfl (fun hb1=>?_) (fun hb1=>?_)
 ·have hc1:=bp hb1
  have k1:f.ex=false:=by simpa using hc1
  refine w_ (a_ (h:=e_ (A6 (AR (A7 (?_))))))
  refine BM (r:= .v (.int .i64 (EM w).2)) none (h5:=(by rw[hlk,if_pos k1];exact LeA.refl _)) (h6:=⟨rfl,rfl,?_⟩)
  rw[hlk,if_pos k1]
  rfl
 have hc1:=bp hb1
 have k1:¬f.ex=false:=by simpa using hc1
 refine w_ (m_ (h:=?_))
 refine A4 rfl (Cf 1 rfl (.cons _ _ _ _ _ rfl (LeA.of_eq rfl) (.cons _ _ _ _ _ rfl (LeA.refl _) .nil)) (Jp w .any 0 f hsb hf) ?_)
 rintro r rfl
 refine⟨rfl,?_⟩
 refine a_ (h:=e_ (?_))
 refine A8 rfl (fun hb2=>?_) (fun hb2=>?_)
 ·have hc2:=bp hb2
  have k2:AX w.s.spc.files f.file=true:=hc2
  refine w_ (a_ (h:=e_ (A6 (AR (A7 (?_))))))
  refine BM (r:= .v (.int .i64 (EM w).2)) none (h5:=(by rw[hlk,if_neg k1,if_pos k2];exact LeA.refl _)) (h6:=⟨rfl,rfl,?_⟩)
  rw[hlk,if_neg k1,if_pos k2]
  rfl
 have hc2:=bp hb2
 have k2:¬AX w.s.spc.files f.file=true:=by simpa using hc2
 refine w_ (f_ (h:=l_ (h:=a_ (h:=e_ (?_)))))
 refine A8 rfl (fun hb3=>?_) (fun hb3=>?_)
 ·have hc3:=bp hb3
  have k3:g.ex=true:=hc3
  refine w_ (a_ (h:=e_ (A6 (AR (A7 (?_))))))
  refine BM (r:= .v (.int .i64 (EM w).2)) none (h5:=(by rw[hlk,if_neg k1,if_neg k2,if_pos k3];exact LeA.refl _)) (h6:=⟨rfl,rfl,?_⟩)
  rw[hlk,if_neg k1,if_neg k2,if_pos k3]
  rfl
 have hc3:=bp hb3
 have k3:¬g.ex=true:=by simpa using hc3
 refine w_ (f_ (h:=l_ (h:=a_ (h:=e_ (?_)))))
 refine A8 rfl (fun hb4=>?_) (fun hb4=>?_)
 ·have hc4:=bp hb4
  have k4:g.slash=true:=hc4
  refine w_ (a_ (h:=e_ (A6 (AR (A7 (?_))))))
  refine BM (r:= .v (.int .i64 (EM w).2)) none (h5:=(by rw[hlk,if_neg k1,if_neg k2,if_neg k3,if_pos k4];exact LeA.refl _)) (h6:=⟨rfl,rfl,?_⟩)
  rw[hlk,if_neg k1,if_neg k2,if_neg k3,if_pos k4]
  rfl
 have hc4:=bp hb4
 have k4:¬g.slash=true:=by simpa using hc4
 refine w_ (f_ (h:=f_ (h:=l_ (h:=f_ (h:=f_ (h:=l_ (h:=BF (h:=a_ (h:=e_ (?_))))))))))
 refine A8 rfl (fun hb5=>?_) (fun hb5=>?_)
 ·have hc5:=bp hb5
  have k5:f.file.1≠g.dir.1:=by simpa using hc5
  refine w_ (a_ (h:=e_ (A6 (AR (A7 (?_))))))
  refine BM (r:= .v (.int .i64 (EM w).2)) none (h5:=(by rw[hlk,if_neg k1,if_neg k2,if_neg k3,if_neg k4,if_pos k5];exact LeA.refl _)) (h6:=⟨rfl,rfl,?_⟩)
  rw[hlk,if_neg k1,if_neg k2,if_neg k3,if_neg k4,if_pos k5]
  rfl
 have hc5:=bp hb5
 have k5:¬f.file.1≠g.dir.1:=by simpa using hc5
 refine w_ (m_ (h:=f_ (h:=l_ (h:=?_))))
 refine A4 rfl (Cf 1 rfl (.cons _ _ _ _ _ rfl (LeA.of_eq rfl) (.cons _ _ _ _ _ rfl (LeA.refl _) (.cons _ _ _ _ _ rfl (LeA.refl _) .nil))) (H3 w .any g.dir 2 hsb) ?_)
 rintro r rfl
 refine⟨rfl,?_⟩
 refine BA (h:=a_ (h:=e_ (?_)))
 refine A8 rfl (fun hb6=>?_) (fun hb6=>?_)
 ·have hc6:=bp hb6
  have k6:C1 w g.dir 2=false:=by simpa using hc6
  refine w_ (a_ (h:=e_ (A6 (AR (A7 (?_))))))
  refine BM (r:= .v (.int .i64 (EM w).2)) none (h5:=(by rw[hlk,if_neg k1,if_neg k2,if_neg k3,if_neg k4,if_neg k5,if_pos k6];exact LeA.refl _)) (h6:=⟨rfl,rfl,?_⟩)
  rw[hlk,if_neg k1,if_neg k2,if_neg k3,if_neg k4,if_neg k5,if_pos k6]
  rfl
 have hc6:=bp hb6
 have k6:¬C1 w g.dir 2=false:=by simpa using hc6
 refine BB (Ay (t_ (?_)))
 refine B5 (fun S=>S=⟨look [(0, .bp 0 0),(3, .bp 2 0),(5, .v (.int .i64 R.2.2))],⟨[WA (BN w R).1 cap,IB (BN w R).1 cap,Ak f],[]⟩⟩) ?_ ?_
 ·skip
  refine BH ([(0,WA w cap),(1,IB w cap),(2,Ak f),(3,Ak g)]) 17 (h:=AN 0 (h:=AN 1 (h:=B7 2 (h:=AF 3 (h:=AF 4 (h:=AF 5 (h:=AJ 6 (h:=AF 7 (h:=AJ 8 (h:=AF 9 (h:=AJ 10 (h:=AF 11 (h:=AJ 12 (h:=?_))))))))))))))
  refine c_ 13 rfl (AK (hcall) ?_)
  rintro r rfl
  refine o_ (h:=B4 14 (h:=B4 15 (h:=B4 16 (h:=?_))))
  refine c_ 17 rfl (BV [0,1] rfl (.cons _ _ _ _ _ rfl (LeA.refl _) (.cons _ _ _ _ _ rfl (LeA.refl _) (.cons _ _ _ _ _ rfl (LeA.refl _) (.cons _ _ _ _ _ rfl (LeA.refl _) .nil)))) (by decide) (.cons _ _ _ _ _ rfl rfl (.cons _ _ _ _ _ rfl (Cg B1 _ _ _) .nil)) (LT w cap R.1 R.2.1 R.2.2) ?_)
  rintro r bc tc ⟨rfl,rfl,rfl⟩
  refine⟨rfl,_,D1 rfl ((BN w R).1) cap,?_⟩
  refine o_ (h:=?_)
  refine c_ 18 rfl (FJ rfl ?_)
  refine o_ (h:=z_ (h:=?_))
  refine AD ?_
  exact⟨_,rfl,CP 3 0⟩
 rintro S rfl
 refine q_ (w_ (m_ (h:=AQ (h:=e_ (?_)))))
 refine A8 rfl (fun hb7=>?_) (fun hb7=>?_)
 ·have hc7:=bp hb7
  have h0:R.2.2=0:=hc7
  have hfb:FlsB (BN w R).1.s.spc.files:=by rw[JJ h0];exact(hok h0).1.b
  have hxr:(BN w R).1.r.items[1]?=some x1:=by rw[W8];exact hx1
  refine AP (m_ (h:=f_ (h:=l_ (h:=?_))))
  refine A4 rfl (BV [0,1] rfl (.cons _ _ _ _ _ rfl (LeA.refl _) (.cons _ _ _ _ _ rfl (LeA.refl _) (.cons _ _ _ _ _ rfl (LeA.refl _) .nil))) (by decide) (.cons _ _ _ _ _ rfl rfl (.cons _ _ _ _ _ rfl (Cg B1 _ _ _) .nil)) (RM (BN w R).1 cap 1 f.file x1 hfb hxr) ?_)
  rintro r bc tc ⟨rfl,rfl,rfl⟩
  refine⟨rfl,_,D1 rfl (GZ (BN w R).1 1 f.file) cap,?_⟩
  refine e_ (w_ (m_ (h:=a_ (h:=e_ (A6 (?_))))))
  refine BM (r:= .v (.int .i64 (EM w).2)) none (h5:=(by rw[hlk,if_neg k1,if_neg k2,if_neg k3,if_neg k4,if_neg k5,if_neg k6,if_neg (by simp[h0])];exact LeA.of_eq (vi h0))) (h6:=⟨rfl,rfl,?_⟩)
  rw[hlk,if_neg k1,if_neg k2,if_neg k3,if_neg k4,if_neg k5,if_neg k6,if_neg (by simp[h0])]
  rfl
 have hc7:=bp hb7
 have h0:¬R.2.2=0:=hc7
 refine AG (w_ (m_ (h:=a_ (h:=e_ (A6 (?_))))))
 refine BM (r:= .v (.int .i64 (EM w).2)) none (h5:=(by rw[hlk,if_neg k1,if_neg k2,if_neg k3,if_neg k4,if_neg k5,if_neg k6,if_pos h0];exact LeA.refl _)) (h6:=⟨rfl,rfl,?_⟩)
 rw[hlk,if_neg k1,if_neg k2,if_neg k3,if_neg k4,if_neg k5,if_neg k6,if_pos h0]
 rw[Od h0]
 rfl
theorem WB(w:Wrk)(cap:Nat)(f:Fnd)(x0:Itm)(hv:SpcV w.s.spc)(hm:w.s.spc.mounts.length≤1000)(hps:w.s.tab.ps.length≤1000)(hf:w.found[0]?=some f)(hx0:w.r.items[0]?=some x0)(hn:f.name.size≤100000):ACall Tryz.prog 116 [.bp 0 0] [WA w cap,IB w cap] (fun r b t=>t=[]∧r= .v (.int .i64 (De w).2)∧b=[WA (De w).1 cap,IB (De w).1 cap]):=by
 have hsb:=hv.b hm
 have hrow0:(w.found.map Ak)[0]?=some (Ak f):=by rw[List.getElem?_map,hf];rfl
 have hfn:B2 w 0=f:=by unfold B2;rw[hf];rfl
 have hil:0<w.r.items.length:=(Ar.1 hx0).1
 obtain⟨R1,hR1⟩:∃R,R=FB w.s.spc.files f.dir f.name:=⟨_,rfl⟩
 obtain⟨R2,hR2⟩:∃R,R=Eb w.s.spc.files f.dir f.name:=⟨_,rfl⟩
 have hcall1:AFn Tryz.prog 47 [.agg (As w.s.spc.files), .agg (AA f.dir), .v (.string f.name)] (fun r=>r=CH R1):=by rw[hR1];exact ZE _ _ _ hv.files hn
 have hcall2:AFn Tryz.prog 126 [.agg (As w.s.spc.files), .agg (AA f.dir), .v (.string f.name)] (fun r=>r=CH R2):=by rw[hR2];exact ZF _ _ _ hv.files hn
 obtain⟨y,hyd⟩:∃y,y=(AM w.s.spc.files f.dir f.name).1:=⟨_,rfl⟩
 have hl1:AFn Tryz.prog 38 [.agg (As w.s.spc.files), .agg (AA f.dir), .v (.string f.name)] (fun r=>r= .tup [.agg (AA y), .v (.int .i64 (AM w.s.spc.files f.dir f.name).2)]):=by rw[hyd];exact Gp _ _ _ hsb.files
 have hrm:De w=if f.ex=false then(w,2)else if w.c.num=10 then(if f.name=⟨#[]⟩∨AX w.s.spc.files f.file=true then(w,21)else if C1 w f.dir 2=false then(w,13)else G8 w R1)else(if f.name=⟨#[]⟩then(w,16)else if AX w.s.spc.files f.file=false then(w,20)else if Ff w y=true then(w,16)else if C1 w f.dir 2=false then(w,13)else G8 w R2):=by
  unfold De GY
  rw[hfn,←hR1,←hR2,←hyd]
 clear hR1 hR2 hyd
 refine enter Tryz.func116 rfl rfl rfl rfl rfl 2 rfl ?_
 refine w_ (a_ (h:=e_ (w_ (m_ (h:=k_ (h:=f_ (h:=l_ (h:=?_))))))))
 refine A4 rfl (CS (n:=0) rfl rfl rfl hrow0 ?_)
 refine l_ (h:=AW (h:=s_ (h:=e_ (q_ (w_ (f_ (h:=l_ (h:=BA (h:=e_ (?_))))))))))
 refine A8 rfl (fun hb1=>?_) (fun hb1=>?_)
 ·have hc1:=bp hb1
  have k1:f.ex=false:=by simpa using hc1
  refine w_ (a_ (h:=e_ (A6 (A7 (?_)))))
  refine BM (r:= .v (.int .i64 (De w).2)) none (h5:=(by rw[hrm,if_pos k1];exact LeA.refl _)) (h6:=⟨rfl,rfl,?_⟩)
  rw[hrm,if_pos k1]
  rfl
 have hc1:=bp hb1
 have k1:¬f.ex=false:=by simpa using hc1
 refine AG (w_ (a_ (h:=e_ (?_))))
 refine B5 (fun S=>∃R,De w=G8 w R∧S=⟨look [(0, .bp 0 0),(4, .v (.int .i64 R.2.2))],⟨[WA (BN w R).1 cap,IB (BN w R).1 cap],[]⟩⟩) ?_ ?_
 ·skip
  refine w_ (m_ (h:=k_ (h:=f_ (h:=f_ (h:=l_ (h:=AQ (h:=e_ (?_))))))))
  refine A8 rfl (fun hb2=>?_) (fun hb2=>?_)
  ·have hc2:=bp hb2
   have k2:w.c.num=10:=hc2
   refine q_ (?_)
   refine B5 (fun S=>S=⟨look [(0, .bp 0 0),(3, .bp 2 0),(28, .v (.bool (decide (f.name=⟨#[]⟩)||AX w.s.spc.files f.file)))],⟨[WA w cap,IB w cap,Ak f],[]⟩⟩) ?_ ?_
   ·skip
    refine AP (f_ (h:=l_ (h:=AQ (h:=m_ (h:=?_)))))
    refine Ax false rfl rfl (fun hb3=>?_) (fun hb3=>?_)
    ·have hc3:=bp hb3
     refine A3 (h:=A3 (h:=Af (h:=AO (?_))))
     refine AD ?_
     exact⟨_,rfl,C4 3 0 (by simp[Ag,Ab,Ac,BZ B1,BD,WA,IB,CC,Ak,Ah,AA,At,Ai,As])⟩
    have hc3:=bp hb3
    refine m_ (h:=?_)
    refine B6 (Cf 1 rfl (.cons _ _ _ _ _ rfl (LeA.of_eq rfl) (.cons _ _ _ _ _ rfl (LeA.refl _) .nil)) (Jp w .any 0 f hsb hf) ?_)
    rintro r rfl
    refine⟨rfl,?_⟩
    refine Am (h:=AO (?_))
    refine AD ?_
    exact⟨_,rfl,C4 3 0 (by simp[Ag,Ab,Ac,BZ B1,BD,WA,IB,CC,Ak,Ah,AA,At,Ai,As])⟩
   rintro S rfl
   refine A8 rfl (fun hb4=>?_) (fun hb4=>?_)
   ·have hc4:=bp hb4
    have k3:f.name=⟨#[]⟩∨AX w.s.spc.files f.file=true:=by simpa using hc4
    refine w_ (a_ (h:=e_ (A6 (A7 (A7 (?_))))))
    refine BM (r:= .v (.int .i64 (De w).2)) none (h5:=(by rw[hrm,if_neg k1,if_pos k2,if_pos k3];exact LeA.refl _)) (h6:=⟨rfl,rfl,?_⟩)
    rw[hrm,if_neg k1,if_pos k2,if_pos k3]
    rfl
   have hc4:=bp hb4
   have k3:¬(f.name=⟨#[]⟩∨AX w.s.spc.files f.file=true):=by simpa using hc4
   refine AG (q_ (w_ (m_ (h:=f_ (h:=l_ (h:=?_))))))
   refine A4 rfl (Cf 1 rfl (.cons _ _ _ _ _ rfl (LeA.of_eq rfl) (.cons _ _ _ _ _ rfl (LeA.refl _) (.cons _ _ _ _ _ rfl (LeA.refl _) .nil))) (H3 w .any f.dir 2 hsb) ?_)
   rintro r rfl
   refine⟨rfl,?_⟩
   refine BA (h:=e_ (?_))
   refine A8 rfl (fun hb5=>?_) (fun hb5=>?_)
   ·have hc5:=bp hb5
    have k4:C1 w f.dir 2=false:=by simpa using hc5
    refine w_ (a_ (h:=e_ (A6 (A7 (A7 (?_))))))
    refine BM (r:= .v (.int .i64 (De w).2)) none (h5:=(by rw[hrm,if_neg k1,if_pos k2,if_neg k3,if_pos k4];exact LeA.refl _)) (h6:=⟨rfl,rfl,?_⟩)
    rw[hrm,if_neg k1,if_pos k2,if_neg k3,if_pos k4]
    rfl
   have hc5:=bp hb5
   have k4:¬C1 w f.dir 2=false:=by simpa using hc5
   refine AG (BH ([(0,WA w cap),(1,IB w cap),(2,Ak f)]) 15 (h:=AN 0 (h:=AN 1 (h:=B7 2 (h:=AF 3 (h:=AF 4 (h:=AF 5 (h:=AJ 6 (h:=AF 7 (h:=AJ 8 (h:=AF 9 (h:=AJ 10 (h:=?_)))))))))))))
   refine c_ 11 rfl (AK (hcall1) ?_)
   rintro r rfl
   refine o_ (h:=B4 12 (h:=B4 13 (h:=B4 14 (h:=?_))))
   refine c_ 15 rfl (BV [0,1] rfl (.cons _ _ _ _ _ rfl (LeA.refl _) (.cons _ _ _ _ _ rfl (LeA.refl _) (.cons _ _ _ _ _ rfl (LeA.refl _) (.cons _ _ _ _ _ rfl (LeA.refl _) .nil)))) (by decide) (.cons _ _ _ _ _ rfl rfl (.cons _ _ _ _ _ rfl (Cg B1 _ _ _) .nil)) (LT w cap R1.1 R1.2.1 R1.2.2) ?_)
   rintro r bc tc ⟨rfl,rfl,rfl⟩
   refine⟨rfl,_,D1 rfl ((BN w R1).1) cap,?_⟩
   refine o_ (h:=?_)
   refine c_ 16 rfl (FJ rfl ?_)
   refine o_ (h:=z_ (h:=?_))
   refine AD ?_
   exact⟨_,⟨R1,(by rw[hrm,if_neg k1,if_pos k2,if_neg k3,if_neg k4]),rfl⟩,CP 2 0⟩
  have hc2:=bp hb2
  have k2:¬w.c.num=10:=hc2
  refine q_ (w_ (f_ (h:=l_ (h:=AQ (h:=e_ (?_))))))
  refine A8 rfl (fun hb6=>?_) (fun hb6=>?_)
  ·have hc6:=bp hb6
   have k3:f.name=⟨#[]⟩:=hc6
   refine w_ (a_ (h:=e_ (A6 (A7 (A7 (?_))))))
   refine BM (r:= .v (.int .i64 (De w).2)) none (h5:=(by rw[hrm,if_neg k1,if_neg k2,if_pos k3];exact LeA.refl _)) (h6:=⟨rfl,rfl,?_⟩)
   rw[hrm,if_neg k1,if_neg k2,if_pos k3]
   rfl
  have hc6:=bp hb6
  have k3:¬f.name=⟨#[]⟩:=hc6
  refine AG (q_ (w_ (m_ (h:=?_))))
  refine A4 rfl (Cf 1 rfl (.cons _ _ _ _ _ rfl (LeA.of_eq rfl) (.cons _ _ _ _ _ rfl (LeA.refl _) .nil)) (Jp w .any 0 f hsb hf) ?_)
  rintro r rfl
  refine⟨rfl,?_⟩
  refine BA (h:=e_ (?_))
  refine A8 rfl (fun hb7=>?_) (fun hb7=>?_)
  ·have hc7:=bp hb7
   have k4:AX w.s.spc.files f.file=false:=by simpa using hc7
   refine w_ (a_ (h:=e_ (A6 (A7 (A7 (?_))))))
   refine BM (r:= .v (.int .i64 (De w).2)) none (h5:=(by rw[hrm,if_neg k1,if_neg k2,if_neg k3,if_pos k4];exact LeA.refl _)) (h6:=⟨rfl,rfl,?_⟩)
   rw[hrm,if_neg k1,if_neg k2,if_neg k3,if_pos k4]
   rfl
  have hc7:=bp hb7
  have k4:¬AX w.s.spc.files f.file=false:=by simpa using hc7
  refine AG (?_)
  refine B5 (fun S=>S=⟨look [(0, .bp 0 0),(3, .bp 2 0),(5, .bp 3 0)],⟨[WA w cap,IB w cap,Ak f,AA y],[]⟩⟩) ?_ ?_
  ·skip
   refine BH ([(0,WA w cap),(1,IB w cap),(2,Ak f)]) 17 (h:=AN 0 (h:=B7 1 (h:=AF 2 (h:=AF 3 (h:=AF 4 (h:=AJ 5 (h:=AF 6 (h:=AJ 7 (h:=AF 8 (h:=AJ 9 (h:=?_)))))))))))
   refine Da 10 14 rfl rfl ?_ ?_
   ·refine AK (hl1) ?_
    rintro r rfl
    refine o_ (h:=?_)
    refine AN 11 (h:=B4 12 (h:=B4 13 (h:=?_)))
    refine c_ 14 rfl (Bx (by repeat constructor) ?_)
    refine o_ (h:=?_)
    refine B0 15 rfl (Aw rfl rfl rfl rfl rfl rfl (by repeat constructor) (by repeat constructor) ?_)
    refine o_ (h:=BC 16 (h:=z_ (h:=?_)))
    refine AD ?_
    exact⟨_,rfl,CP 4 0⟩
   refine Bx (by repeat constructor) ?_
   refine o_ (h:=?_)
   refine c_ 10 rfl (AK (hl1) ?_)
   rintro r rfl
   refine o_ (h:=AN 11 (h:=B4 12 (h:=B4 13 (h:=?_))))
   refine B0 15 rfl (Aw rfl rfl rfl rfl rfl rfl (by repeat constructor) (by repeat constructor) ?_)
   refine o_ (h:=BC 16 (h:=z_ (h:=?_)))
   refine AD ?_
   exact⟨_,rfl,CP 4 0⟩
  rintro S rfl
  refine q_ (w_ (m_ (h:=l_ (h:=?_))))
  refine A4 rfl (Cf 1 rfl (.cons _ _ _ _ _ rfl (LeA.of_eq rfl) (.cons _ _ _ _ _ rfl (LeA.refl _) .nil)) (Vh w .any y hsb hps) ?_)
  rintro r rfl
  refine⟨rfl,?_⟩
  refine e_ (?_)
  refine A8 rfl (fun hb8=>?_) (fun hb8=>?_)
  ·have hc8:=bp hb8
   have k5:Ff w y=true:=hc8
   refine w_ (a_ (h:=e_ (A6 (A7 (A7 (?_))))))
   refine BM (r:= .v (.int .i64 (De w).2)) none (h5:=(by rw[hrm,if_neg k1,if_neg k2,if_neg k3,if_neg k4,if_pos k5];exact LeA.refl _)) (h6:=⟨rfl,rfl,?_⟩)
   rw[hrm,if_neg k1,if_neg k2,if_neg k3,if_neg k4,if_pos k5]
   rfl
  have hc8:=bp hb8
  have k5:¬Ff w y=true:=by simpa using hc8
  refine AG (q_ (w_ (m_ (h:=f_ (h:=l_ (h:=?_))))))
  refine A4 rfl (Cf 1 rfl (.cons _ _ _ _ _ rfl (LeA.of_eq rfl) (.cons _ _ _ _ _ rfl (LeA.refl _) (.cons _ _ _ _ _ rfl (LeA.refl _) .nil))) (H3 w .any f.dir 2 hsb) ?_)
  rintro r rfl
  refine⟨rfl,?_⟩
  refine BA (h:=e_ (?_))
  refine A8 rfl (fun hb9=>?_) (fun hb9=>?_)
  ·have hc9:=bp hb9
   have k6:C1 w f.dir 2=false:=by simpa using hc9
   refine w_ (a_ (h:=e_ (A6 (A7 (A7 (?_))))))
   refine BM (r:= .v (.int .i64 (De w).2)) none (h5:=(by rw[hrm,if_neg k1,if_neg k2,if_neg k3,if_neg k4,if_neg k5,if_pos k6];exact LeA.refl _)) (h6:=⟨rfl,rfl,?_⟩)
   rw[hrm,if_neg k1,if_neg k2,if_neg k3,if_neg k4,if_neg k5,if_pos k6]
   rfl
  have hc9:=bp hb9
  have k6:¬C1 w f.dir 2=false:=by simpa using hc9
  refine AG (BH ([(0,WA w cap),(1,IB w cap),(2,Ak f)]) 15 (h:=AN 0 (h:=AN 1 (h:=B7 2 (h:=AF 3 (h:=AF 4 (h:=AF 5 (h:=AJ 6 (h:=AF 7 (h:=AJ 8 (h:=AF 9 (h:=AJ 10 (h:=?_)))))))))))))
  refine c_ 11 rfl (AK (hcall2) ?_)
  rintro r rfl
  refine o_ (h:=B4 12 (h:=B4 13 (h:=B4 14 (h:=?_))))
  refine c_ 15 rfl (BV [0,1] rfl (.cons _ _ _ _ _ rfl (LeA.refl _) (.cons _ _ _ _ _ rfl (LeA.refl _) (.cons _ _ _ _ _ rfl (LeA.refl _) (.cons _ _ _ _ _ rfl (LeA.refl _) .nil)))) (by decide) (.cons _ _ _ _ _ rfl rfl (.cons _ _ _ _ _ rfl (Cg B1 _ _ _) .nil)) (LT w cap R2.1 R2.2.1 R2.2.2) ?_)
  rintro r bc tc ⟨rfl,rfl,rfl⟩
  refine⟨rfl,_,D1 rfl ((BN w R2).1) cap,?_⟩
  refine o_ (h:=?_)
  refine c_ 16 rfl (FJ rfl ?_)
  refine o_ (h:=z_ (h:=?_))
  refine AD ?_
  first|exact⟨_,⟨R1,(by rw[hrm,if_neg k1,if_pos k2,if_neg k3,if_neg k4]),rfl⟩,CP 2 0⟩|exact⟨_,⟨R2,(by rw[hrm,if_neg k1,if_neg k2,if_neg k3,if_neg k4,if_neg k5,if_neg k6]),rfl⟩,CP 2 0⟩
 rintro S ⟨R,hrm2,rfl⟩
 have hit:(BN w R).1.r.items=w.r.items:=W8 w R
 have hxa:(BN w R).1.r.items[0]?=some x0:=by rw[hit];exact hx0
 have hil1:0<(BN w R).1.r.items.length:=by rw[hit];exact hil
 refine q_ (w_ (m_ (h:=AQ (h:=e_ (?_)))))
 refine A8 rfl (fun hb10=>?_) (fun hb10=>?_)
 ·have hc10:=bp hb10
  have h0:R.2.2=0:=hc10
  refine AP (m_ (h:=k_ (h:=f_ (h:=f_ (h:=l_ (h:=?_))))))
  refine A4 rfl (DF (m:=0) rfl rfl rfl hil1 ?_)
  refine f_ (h:=?_)
  refine K0 (Aw rfl rfl rfl rfl rfl rfl (JG B1 (x':={x0 with role:=3}) hxa (by repeat constructor) (List.cons_ne_nil _ _)) (by repeat constructor) ?_)
  refine e_ (w_ (m_ (h:=a_ (h:=e_ (A6 (?_))))))
  refine BM (r:= .v (.int .i64 (De w).2)) none (h5:=(by rw[hrm2,G8,if_neg (by simp[h0])];exact LeA.of_eq (vi h0))) (h6:=⟨rfl,rfl,?_⟩)
  rw[hrm2,G8,if_neg (by simp[h0])]
  rw[Vq,Vr hxa]
  rfl
 have hc10:=bp hb10
 have h0:¬R.2.2=0:=hc10
 refine AG (w_ (m_ (h:=a_ (h:=e_ (A6 (?_))))))
 refine BM (r:= .v (.int .i64 (De w).2)) none (h5:=(by rw[hrm2,G8,if_pos h0];exact LeA.refl _)) (h6:=⟨rfl,rfl,?_⟩)
 rw[hrm2,G8,if_pos h0]
 rw[Od h0]
 rfl
theorem WC(w:Wrk)(cap:Nat)(f:Fnd)(hv:SpcV w.s.spc)(hm:w.s.spc.mounts.length≤1000)(hf:w.found[0]?=some f):ACall Tryz.prog 118 [.bp 0 0] [WA w cap,IB w cap] (fun r b t=>t=[]∧r= .v (.int .i64 (EX w).2)∧b=[WA (EX w).1 cap,IB (EX w).1 cap]):=by
 have hsb:=hv.b hm
 have hrow0:(w.found.map Ak)[0]?=some (Ak f):=by rw[List.getElem?_map,hf];rfl
 have hfn:B2 w 0=f:=by unfold B2;rw[hf];rfl
 obtain⟨n,hnd⟩:∃n,n=Aa w.s.spc.files f.file:=⟨_,rfl⟩
 have hnode:AFn Tryz.prog 70 [.agg (As w.s.spc.files), .agg (AA f.file)] (fun r=>r= .tup [.agg (Ah n), .v (.bool (Cy w.s.spc.files f.file))]):=by rw[hnd];exact Dk _ _ hsb.files
 have hat:EX w=if f.ex=false then(w,2)else if w.c.num=14 then(if w.p.euid≠0∧w.p.euid≠n.uid then(w,1)else Hk w (EJ w.s.spc.files f.file w.c.a0 n.uid n.gid))else if w.p.euid≠0 then(w,1)else Hk w (EJ w.s.spc.files f.file n.mode w.c.a0 w.c.a1):=by
  unfold EX
  rw[hfn,←hnd]
 clear hnd
 refine enter Tryz.func118 rfl rfl rfl rfl rfl 2 rfl ?_
 refine w_ (a_ (h:=e_ (w_ (m_ (h:=k_ (h:=f_ (h:=l_ (h:=?_))))))))
 refine A4 rfl (CS (n:=0) rfl rfl rfl hrow0 ?_)
 refine l_ (h:=AW (h:=s_ (h:=e_ (q_ (w_ (f_ (h:=l_ (h:=BA (h:=e_ (?_))))))))))
 refine A8 rfl (fun hb1=>?_) (fun hb1=>?_)
 ·have hc1:=bp hb1
  have k1:f.ex=false:=by simpa using hc1
  refine w_ (a_ (h:=e_ (A6 (A7 (?_)))))
  refine BM (r:= .v (.int .i64 (EX w).2)) none (h5:=(by rw[hat,if_pos k1];exact LeA.refl _)) (h6:=⟨rfl,rfl,?_⟩)
  rw[hat,if_pos k1]
  rfl
 have hc1:=bp hb1
 have k1:¬f.ex=false:=by simpa using hc1
 refine AG (?_)
 refine B5 (fun S=>S=⟨look [(0, .bp 0 0),(3, .bp 2 0),(4, .bp 3 0)],⟨[WA w cap,IB w cap,Ak f,Ah n],[]⟩⟩) ?_ ?_
 ·skip
  refine BH ([(0,WA w cap),(1,IB w cap),(2,Ak f)]) 15 (h:=AN 0 (h:=B7 1 (h:=AF 2 (h:=AF 3 (h:=AF 4 (h:=AJ 5 (h:=AF 6 (h:=AJ 7 (h:=?_)))))))))
  refine Da 8 12 rfl rfl ?_ ?_
  ·refine AK (hnode) ?_
   rintro r rfl
   refine o_ (h:=?_)
   refine AN 9 (h:=B4 10 (h:=B4 11 (h:=?_)))
   refine c_ 12 rfl (Bx (by repeat constructor) ?_)
   refine o_ (h:=?_)
   refine B0 13 rfl (Aw rfl rfl rfl rfl rfl rfl (by repeat constructor) (by repeat constructor) ?_)
   refine o_ (h:=BC 14 (h:=z_ (h:=?_)))
   refine AD ?_
   exact⟨_,rfl,CP 4 0⟩
  refine Bx (by repeat constructor) ?_
  refine o_ (h:=?_)
  refine c_ 8 rfl (AK (hnode) ?_)
  rintro r rfl
  refine o_ (h:=AN 9 (h:=B4 10 (h:=B4 11 (h:=?_))))
  refine B0 13 rfl (Aw rfl rfl rfl rfl rfl rfl (by repeat constructor) (by repeat constructor) ?_)
  refine o_ (h:=BC 14 (h:=z_ (h:=?_)))
  refine AD ?_
  exact⟨_,rfl,CP 4 0⟩
 rintro S rfl
 refine B5 (fun S=>∃m u g,EX w=Hk w (EJ w.s.spc.files f.file m u g)∧S=⟨look [(0, .bp 0 0),(3, .bp 2 0),(4, .bp 3 0)],⟨[WA w cap,IB w cap,Ak f,Ah {n with mode:=m,uid:=u,gid:=g}],[]⟩⟩) ?_ ?_
 ·skip
  refine w_ (m_ (h:=k_ (h:=f_ (h:=f_ (h:=l_ (h:=AQ (h:=e_ (?_))))))))
  refine A8 rfl (fun hb2=>?_) (fun hb2=>?_)
  ·have hc2:=bp hb2
   have k2:w.c.num=14:=hc2
   refine q_ (?_)
   refine B5 (fun S=>S=⟨look [(0, .bp 0 0),(3, .bp 2 0),(4, .bp 3 0),(50, .v (.bool (!decide (w.p.euid=0)&& !decide (w.p.euid=n.uid))))],⟨[WA w cap,IB w cap,Ak f,Ah n],[]⟩⟩) ?_ ?_
   ·skip
    refine DT 16 (h:=AN 0 (h:=B7 1 (h:=AF 2 (h:=AF 3 (h:=AJ 4 (h:=Kt 5 (h:=AN 6 (h:=?_))))))))
    refine Hu (j:=6) rfl (fun hb3=>?_) (fun hb3=>?_)
    ·have hc3:=bp hb3
     refine AN 7 (h:=B7 8 (h:=AF 9 (h:=AF 10 (h:=AJ 11 (h:=AF 12 (h:=AJ 13 (h:=Kt 14 (h:=Hy 15 (h:=z_ (h:=?_))))))))))
     refine AD ?_
     exact⟨_,rfl,C4 4 0 (by simp[Ag,Ab,Ac,BZ B1,BD,WA,IB,CC,Ak,Ah,AA,At,Ai,As])⟩
    have hc3:=bp hb3
    refine BX 7 (h:=BX 8 (h:=BX 9 (h:=BX 10 (h:=BX 11 (h:=BX 12 (h:=BX 13 (h:=BX 14 (h:=Ft 15 (h:=z_ (h:=?_))))))))))
    refine AD ?_
    exact⟨_,rfl,C4 4 0 (by simp[Ag,Ab,Ac,BZ B1,BD,WA,IB,CC,Ak,Ah,AA,At,Ai,As])⟩
   rintro S rfl
   refine A8 rfl (fun hb4=>?_) (fun hb4=>?_)
   ·have hc4:=bp hb4
    have k3:w.p.euid≠0∧w.p.euid≠n.uid:=by simpa using hc4
    refine w_ (a_ (h:=e_ (A6 (A7 (A7 (?_))))))
    refine BM (r:= .v (.int .i64 (EX w).2)) none (h5:=(by rw[hat,if_neg k1,if_pos k2,if_pos k3];exact LeA.refl _)) (h6:=⟨rfl,rfl,?_⟩)
    rw[hat,if_neg k1,if_pos k2,if_pos k3]
    rfl
   have hc4:=bp hb4
   have k3:¬(w.p.euid≠0∧w.p.euid≠n.uid):=by simpa using hc4
   refine AG (AP (m_ (h:=k_ (h:=f_ (h:=f_ (h:=?_))))))
   refine A4 rfl (CE (len:=4) (sz:=1) (n:=0) (by kernel_rfl) rfl rfl rfl rfl ?_)
   refine l_ (h:=f_ (h:=s_ (h:=AO (?_))))
   refine AD ?_
   exact⟨_,⟨w.c.a0,n.uid,n.gid,(by rw[hat,if_neg k1,if_pos k2,if_neg k3]),rfl⟩,CP 4 0⟩
  have hc2:=bp hb2
  have k2:¬w.c.num=14:=hc2
  refine q_ (w_ (m_ (h:=k_ (h:=f_ (h:=f_ (h:=l_ (h:=BF (h:=e_ (?_)))))))))
  refine A8 rfl (fun hb5=>?_) (fun hb5=>?_)
  ·have hc5:=bp hb5
   have k3:w.p.euid≠0:=by simpa using hc5
   refine w_ (a_ (h:=e_ (A6 (A7 (A7 (?_))))))
   refine BM (r:= .v (.int .i64 (EX w).2)) none (h5:=(by rw[hat,if_neg k1,if_neg k2,if_pos k3];exact LeA.refl _)) (h6:=⟨rfl,rfl,?_⟩)
   rw[hat,if_neg k1,if_neg k2,if_pos k3]
   rfl
  have hc5:=bp hb5
  have k3:¬w.p.euid≠0:=by simpa using hc5
  refine AG (BH ([(0,WA w cap),(1,IB w cap),(2,Ak f)]) 16 (h:=AN 0 (h:=B7 1 (h:=AF 2 (h:=AF 3 (h:=?_))))))
  refine Bj 4 rfl (fun _ hS=>CE (len:=4) (sz:=1) (n:=0) (by kernel_rfl) rfl rfl rfl rfl ⟨rfl,rfl⟩) ?_
  refine AJ 5 (h:=AN 6 (h:=B7 7 (h:=AF 8 (h:=AF 9 (h:=?_)))))
  refine Bj 10 rfl (fun _ hS=>CE (len:=4) (sz:=1) (n:=1) (by kernel_rfl) rfl rfl rfl rfl ⟨rfl,rfl⟩) ?_
  refine AJ 11 (h:=AF 12 (h:=?_))
  refine B0 13 rfl (Aw rfl rfl rfl rfl rfl rfl (by repeat constructor) (by repeat constructor) ?_)
  refine o_ (h:=AF 14 (h:=?_))
  refine B0 15 rfl (Aw rfl rfl rfl rfl rfl rfl (by repeat constructor) (by repeat constructor) ?_)
  refine o_ (h:=z_ (h:=?_))
  refine AD ?_
  first|exact⟨_,⟨w.c.a0,n.uid,n.gid,(by rw[hat,if_neg k1,if_pos k2,if_neg k3]),rfl⟩,CP 4 0⟩|exact⟨_,⟨n.mode,w.c.a0,w.c.a1,(by rw[hat,if_neg k1,if_neg k2,if_neg k3]),rfl⟩,CP 4 0⟩
 rintro S ⟨m,u,g,hat2,rfl⟩
 obtain⟨R,hR⟩:∃R,R=EJ w.s.spc.files f.file m u g:=⟨_,rfl⟩
 have hset:AFn Tryz.prog 127 [.agg (As w.s.spc.files), .agg (AA f.file), .v (.int .i64 m), .v (.int .i64 u), .v (.int .i64 g)] (fun r=>r=Mi R):=by rw[hR];exact ZJ _ _ _ _ _ hv.files
 rw[←hR]at hat2
 clear hR
 refine B5 (fun S=>S=⟨look [(0, .bp 0 0),(6, .bp 4 0),(7, .v (.int .i64 R.2))],⟨[WA w cap,IB w cap,Ak f,Ah {n with mode:=m,uid:=u,gid:=g},As R.1],[]⟩⟩) ?_ ?_
 ·skip
  refine BH ([(0,WA w cap),(1,IB w cap),(2,Ak f),(3,Ah {n with mode:=m,uid:=u,gid:=g})]) 21 (h:=AN 0 (h:=B7 1 (h:=AF 2 (h:=AF 3 (h:=AF 4 (h:=AJ 5 (h:=AF 6 (h:=AJ 7 (h:=AF 8 (h:=AJ 9 (h:=AF 10 (h:=AJ 11 (h:=AF 12 (h:=AJ 13 (h:=?_)))))))))))))))
  refine Da 14 18 rfl rfl ?_ ?_
  ·refine AK (hset) ?_
   rintro r rfl
   refine o_ (h:=?_)
   refine AN 15 (h:=B4 16 (h:=B4 17 (h:=?_)))
   refine c_ 18 rfl (Bx (by repeat constructor) ?_)
   refine o_ (h:=?_)
   refine B0 19 rfl (Aw rfl rfl rfl rfl rfl rfl (by repeat constructor) (by repeat constructor) ?_)
   refine o_ (h:=BC 20 (h:=z_ (h:=?_)))
   refine AD ?_
   exact⟨_,rfl,CP 5 0⟩
  refine Bx (by repeat constructor) ?_
  refine o_ (h:=?_)
  refine c_ 14 rfl (AK (hset) ?_)
  rintro r rfl
  refine o_ (h:=AN 15 (h:=B4 16 (h:=B4 17 (h:=?_))))
  refine B0 19 rfl (Aw rfl rfl rfl rfl rfl rfl (by repeat constructor) (by repeat constructor) ?_)
  refine o_ (h:=BC 20 (h:=z_ (h:=?_)))
  refine AD ?_
  exact⟨_,rfl,CP 5 0⟩
 rintro S rfl
 refine w_ (m_ (h:=l_ (h:=m_ (h:=?_))))
 refine A4 rfl (BV [0,1] rfl (.cons _ _ _ _ _ rfl (LeA.refl _) (.cons _ _ _ _ _ rfl (LeA.refl _) (.cons _ _ _ _ _ rfl (LeA.nil _) (.cons _ _ _ _ _ rfl (LeA.refl _) .nil)))) (by decide) (.cons _ _ _ _ _ rfl rfl (.cons _ _ _ _ _ rfl (Cg B1 _ _ _) .nil)) (LT w cap R.1 [] R.2) ?_)
 rintro r bc tc ⟨rfl,rfl,rfl⟩
 refine⟨rfl,_,D1 rfl (BN w (R.1,[],R.2)).1 cap,?_⟩
 refine a_ (h:=e_ (A6 (?_)))
 refine BM (r:= .v (.int .i64 (EX w).2)) none (h5:=(by rw[hat2,Hk,fZ];exact LeA.refl _)) (h6:=⟨rfl,rfl,?_⟩)
 rw[hat2,Hk]
 rfl
end
end Go.Proofs.YtbglbmnhgbgelaaGreatDoor
