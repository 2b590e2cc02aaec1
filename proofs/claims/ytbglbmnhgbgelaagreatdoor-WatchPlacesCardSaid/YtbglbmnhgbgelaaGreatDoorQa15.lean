/-
  Part 15 of the proof of WatchPlacesP: what the statement's proof uses of the texts in wip/tpl.
-/
import Derived.Test.YtbglbmnhgbgelaaGreatDoorQa14
set_option maxRecDepth 10000
set_option maxHeartbeats 4000000
set_option linter.unusedVariables false
set_option linter.unusedSimpArgs false
namespace Go.Proofs.YtbglbmnhgbgelaaGreatDoor
open Go.RowKit
theorem dB{s:Spc}{fl:Bool}{p:AB}{ps:List AB}{a:A7}{lk:Nat}{τ:Lk}(h:BY s fl p ps a lk= .inr τ):τ.name.size≤12:=by
 unfold BY at h
 split at h
 ·cases h
 split at h
 ·cases h
 rename_i h2
 repeat' split at h
 all_goals first|(cases h;done)|(injection h with h;subst h;first|exact Nat.zero_le 12|exact Nat.le_of_not_lt h2)
theorem dC{s:Spc}{fl:Bool}:∀(k:Nat) (σ:Lk),σ.name.size≤12→(D7 s fl k σ).2.name.size≤12:=by
 intro k
 induction k with
 |zero=>intro σ h;exact h
 |succ k ih=>
   intro σ h
   unfold D7
   cases σ.ps with
   |nil=>exact h
   |cons p ps=>
     simp only
     cases hs:BY s fl p ps σ.file σ.links with
     |inl e=>exact Nat.zero_le 12
     |inr τ=>exact ih _ (dB hs)
theorem UN(s:Spc)(st:A7)(p:AB)(fl:Bool):(BE s st p fl).1.name.size≤12:=by
 unfold BE
 generalize (if CN p=true then Ck s else st)=d
 repeat' split
 all_goals first|exact Nat.zero_le 12|exact dC _ _ (Nat.zero_le 12)
theorem dD{s:Spc}{cwd:A7}{fl:Bool}{X:List Itm×List Fnd×Int}{g:AB×Int}(h:∀f∈X.2.1,f.name.size≤12):(∀f∈(ER s cwd fl X g).2.1,f.name.size≤12)∧(ER s cwd fl X g).1.length=X.1.length+1∧(ER s cwd fl X g).2.1.length=X.2.1.length+1:=by
 unfold ER
 split
 ·split
  ·refine⟨fun f hf=>?_,by simp,by simp⟩
   rcases List.mem_append.1 hf with hf|hf
   ·exact h f hf
   rw[List.mem_singleton.1 hf];exact UN _ _ _ _
  refine⟨fun f hf=>?_,by simp,by simp⟩
  rcases List.mem_append.1 hf with hf|hf
  ·exact h f hf
  rw[List.mem_singleton.1 hf];exact UN _ _ _ _
 refine⟨fun f hf=>?_,by simp,by simp⟩
 rcases List.mem_append.1 hf with hf|hf
 ·exact h f hf
 rw[List.mem_singleton.1 hf];exact Nat.zero_le 12
theorem dF(s:Spc)(cwd:A7)(fl:Bool)(e:Int):∀(l:List (AB×Int)),(∀f∈(Gd s cwd fl l e).2.1,f.name.size≤12)∧(Gd s cwd fl l e).1.length=l.length∧(Gd s cwd fl l e).2.1.length=l.length:=by
 have key:∀(l:List (AB×Int)) (X:List Itm×List Fnd×Int),(∀f∈X.2.1,f.name.size≤12)→(∀f∈(l.foldl (ER s cwd fl) X).2.1,f.name.size≤12)∧(l.foldl (ER s cwd fl) X).1.length=X.1.length+l.length∧(l.foldl (ER s cwd fl) X).2.1.length=X.2.1.length+l.length:=by
  intro l
  induction l with
  |nil=>intro X h;exact⟨h,rfl,rfl⟩
  |cons g l ih=>
    intro X h
    obtain⟨h1,h2,h3⟩:=dD (s:=s) (cwd:=cwd) (fl:=fl) (g:=g) h
    obtain⟨k1,k2,k3⟩:=ih _ h1
    rw[List.foldl_cons]
    refine⟨k1,?_,?_⟩
    ·rw[k2,h2,List.length_cons];omega
    rw[k3,h3,List.length_cons];omega
 intro l
 have:=key l ([],[],e) (fun f hf=>by cases hf)
 refine⟨this.1,by rw[Gd,this.2.1];simp,by rw[Gd,this.2.2];simp⟩
theorem dG{c:Cal}(h:BU c=0):(c.paths.length:Int)=(DQ c.num).2.2.1∧(DQ c.num).2.2.2.1≤(c.args.length:Int)∧(c.args.length:Int)≤(DQ c.num).2.2.2.2∧(∀p∈c.paths,p.size≤128)∧∀p∈c.args,p.size≤64:=by
 unfold BU at h
 split at h
 ·exact absurd h (by decide)
 split at h
 ·exact absurd h (by decide)
 split at h
 ·exact absurd h (by decide)
 rename_i h3
 split at h
 ·exact absurd h (by decide)
 rename_i h4
 split at h
 ·exact absurd h (by decide)
 rename_i h5
 refine⟨by omega,by omega,by omega,fun p hp=>?_,fun p hp=>?_⟩
 ·refine Nat.le_of_not_lt fun hl=>h4 (List.any_eq_true.2 ⟨p,hp,decide_eq_true hl⟩)
 refine Nat.le_of_not_lt fun hl=>h5 (List.any_eq_true.2 ⟨p,hp,decide_eq_true hl⟩)
theorem dH{c0 c1 c2 c3 c4 c5:List AV}(w:Wrk)(rows:List (List AV))(n cap:Nat)(L:List Itm):Back [c0,c1,c2,c3,c4,c5] [5] [Ce w (.sl 8 rows none) (.bs 1 0 13 n cap),LB 13 CH L cap] [c0,c1,c2,c3,c4,Ce w (.sl 8 rows none) (.bs 6 0 13 n cap),LB 13 CH L cap]:=by
 have:=Pv (bx:=[c0,c1,c2,c3,c4,c5]) (is:=[5]) (bc:=[Ce w (.sl 8 rows none) (.bs 1 0 13 n cap),LB 13 CH L cap]) (by simp) (by simp) (by simp)
 have e2:Cr (DU [5] [c0,c1,c2,c3,c4,c5].length) (LB 13 CH L cap)=LB 13 CH L cap:=Fa B9 _ _ _
 have hb:DA [c0,c1,c2,c3,c4,c5] (DU [5] [c0,c1,c2,c3,c4,c5].length) [5] [Ce w (.sl 8 rows none) (.bs 1 0 13 n cap),LB 13 CH L cap]=[c0,c1,c2,c3,c4,Ce w (.sl 8 rows none) (.bs 6 0 13 n cap),LB 13 CH L cap]:=by
  unfold DA
  unfold DA
  rw[List.map_cons,e2]
  rfl
 rw[hb]at this
 exact this
theorem dJ(s:Syst)(pid:Int)(c:Cal):(∀f∈(EX s pid c).found,f.name.size≤12)∧(EX s pid c).found.length=(c.paths.zip (CG c)).length∧(EX s pid c).r.items.length=(c.paths.zip (CG c)).length:=by
 obtain⟨h1,h2,h3⟩:=dF s.spc (Au s.tab pid).cwd (CR c) (Cx (Au s.tab pid) c) (c.paths.zip (CG c))
 exact⟨h1,h3,h2⟩
section
theorem dL(w:Wrk)(F I:AV)(h9:w.c.num=9→0<w.c.args.length)(hsz:∀p∈w.c.args,p.size≤1000):AFn Tryz.prog 67 [.fp (Ce w F I)] (fun r=>r= .v (.int .i64 (Cx w.p w.c))):=by
 have hol:(w.p.opens.map Hk).length=w.p.opens.length:=List.length_map _
 refine enter Tryz.func67 rfl rfl rfl rfl rfl 0 rfl ?_
 refine w_ (a_ (h:=e_ (w_ (m_ (h:=k_ (h:=f_ (h:=f_ (h:=l_ (h:=Aa (h:=s_ (h:=e_ (q_ (w_ (m_ (h:=k_ (h:=f_ (h:=f_ (h:=l_ (h:=e_ (Ao (w_ (AW (h:=a_ (h:=?_))))))))))))))))))))))))
 refine e_ (?_)
 refine A9 rfl (fun hb1=>?_) (fun hb1=>?_)
 ·have hc1:=bp hb1
  refine q_ (w_ (?_))
  refine A6 rfl (Dw (len:=4) (sz:=1) (n:=0) (by kernel_rfl) rfl rfl rfl rfl ?_)
  refine l_ (h:=BJ (h:=m_ (h:=?_)))
  refine At false rfl rfl (fun hb2=>?_) (fun hb2=>?_)
  ·have hc2:=bp hb2
   refine A3 (h:=A3 (h:=A3 (h:=AZ (h:=m_ (h:=A3 (h:=A3 (h:=A3 (h:=A3 (h:=AZ (h:=m_ (h:=A3 (h:=A3 (h:=A3 (h:=A3 (h:=AZ (h:=e_ (Bx (h:=w_ (a_ (h:=e_ (A4 (A8 (Af (?_))))))))))))))))))))))))
   refine A8 (?_)
   refine AD ?_
   first|(exfalso;first|contradiction|omega)|(exact vi (by simp[Cx, *]))
  have hc2:=bp hb2
  refine Ay (Dw (len:=4) (sz:=1) (n:=0) (by kernel_rfl) rfl rfl rfl rfl ?_)
  refine l_ (h:=CD (h:=Ai (h:=m_ (h:=?_))))
  refine At false rfl rfl (fun hb3=>?_) (fun hb3=>?_)
  ·have hc3:=bp hb3
   refine A3 (h:=A3 (h:=A3 (h:=A3 (h:=AZ (h:=m_ (h:=A3 (h:=A3 (h:=A3 (h:=A3 (h:=AZ (h:=e_ (Bx (h:=w_ (a_ (h:=e_ (A4 (A8 (Af (A8 (?_))))))))))))))))))))
   refine AD ?_
   first|(exfalso;first|contradiction|omega)|(exact vi (by simp[Cx, *]))
  have hc3:=bp hb3
  refine Ay (Dw (len:=4) (sz:=1) (n:=0) (by kernel_rfl) rfl rfl rfl rfl ?_)
  refine l_ (h:=Dq (h:=AW (h:=Ai (h:=m_ (h:=?_)))))
  refine At false rfl rfl (fun hb4=>?_) (fun hb4=>?_)
  ·have hc4:=bp hb4
   refine A3 (h:=A3 (h:=A3 (h:=A3 (h:=AZ (h:=e_ (Bx (h:=w_ (a_ (h:=e_ (A4 (A8 (Af (A8 (?_))))))))))))))
   refine AD ?_
   first|(exfalso;first|contradiction|omega)|(exact vi (by simp[Cx, *]))
  have hc4:=bp hb4
  refine Ay (Dw (len:=4) (sz:=1) (n:=1) (by kernel_rfl) rfl rfl rfl rfl ?_)
  refine l_ (h:=?_)
  refine Ay (AJ (Px w.c.a1) ?_)
  rintro r rfl
  refine BR (h:=Ai (h:=e_ (?_)))
  refine A9 rfl (fun hb5=>?_) (fun hb5=>?_)
  ·have hc5:=bp hb5
   refine w_ (a_ (h:=e_ (A4 (A8 (Af (A8 (?_)))))))
   refine AD ?_
   first|(exfalso;first|contradiction|omega)|(exact vi (by simp[Cx, *]))
  have hc5:=bp hb5
  refine AM (w_ (m_ (h:=k_ (h:=f_ (h:=f_ (h:=l_ (h:=n_ (h:=Fg (h:=e_ (?_))))))))))
  refine A9 rfl (fun hb6=>?_) (fun hb6=>?_)
  ·have hc6:=bp hb6
   have h8:8≤(w.p.opens.length:Int):=by rw[List.length_map]at hc6;exact hc6
   refine w_ (a_ (h:=e_ (A4 (Af (A8 (?_))))))
   refine AD ?_
   first|(exfalso;first|contradiction|omega)|(exact vi (by simp[Cx, *]))
  have hc6:=bp hb6
  have h8:¬8≤(w.p.opens.length:Int):=by rw[List.length_map]at hc6;exact hc6
  refine B4 (Aw (t_ (w_ (a_ (h:=e_ (A4 (?_)))))))
  refine AD ?_
  first|(exfalso;first|contradiction|omega)|(exact vi (by simp[Cx, *]))
 have hc1:=bp hb1
 refine w_ (AW (h:=a_ (h:=e_ (?_))))
 refine A9 rfl (fun hb7=>?_) (fun hb7=>?_)
 ·have hc7:=bp hb7
  obtain⟨a0,ha0⟩:∃a,w.c.args[0]?=some a:=⟨_,B8 (h9 hc7)⟩
  have harg:(w.c.args.map Er)[0]?=some (Er a0):=by rw[List.getElem?_map,ha0];rfl
  have hag:K7 w.c=a0:=by unfold K7;rw[List.headD_eq_head?_getD,List.head?_eq_getElem?,ha0];rfl
  have hsa:=hsz a0 (Aj ha0)
  refine q_ (w_ (m_ (h:=k_ (h:=f_ (h:=f_ (h:=l_ (h:=?_)))))))
  refine A6 rfl (Cg (n:=0) rfl rfl rfl harg ?_)
  refine l_ (h:=AW (h:=e_ (?_)))
  refine A9 rfl (fun hb8=>?_) (fun hb8=>?_)
  ·have hc8:=bp hb8
   refine w_ (a_ (h:=e_ (A4 (A8 (Af (A8 (?_)))))))
   refine AD ?_
   first|(exfalso;first|contradiction|omega)|(exact vi (by simp[Cx, *]))
  have hc8:=bp hb8
  refine AM (w_ (a_ (h:=e_ (Ao (?_)))))
  refine Bh (fun m s=>∃j:Nat,j≤a0.size∧m=a0.size - j∧(∀(i:Nat) (h:i<a0.data.toList.length),i<j→a0.data.toList[i]≠0)∧s=⟨look [(0, .fp (Ce w F I)),(4, .v (.int .i64 (j:Int)))],⟨[],[]⟩⟩) (a0.size) ((wk 0 0)) (⟨0,Nat.zero_le _,rfl,fun i h1 h2=>by omega,rfl⟩) ?_
  rintro m s ⟨j,hj,rfl,hz,rfl⟩
  refine q_ (w_ (m_ (h:=m_ (h:=k_ (h:=f_ (h:=f_ (h:=l_ (h:=?_))))))))
  refine A6 rfl (Cg (n:=0) rfl rfl rfl harg ?_)
  refine l_ (h:=n_ (h:=BJ (h:=e_ (?_))))
  refine A9 rfl (fun hb9=>?_) (fun hb9=>?_)
  ·have hc9:=bp hb9
   have hlt:j<a0.size:=by omega
   refine AM (q_ (Ao (w_ (m_ (h:=k_ (h:=f_ (h:=f_ (h:=l_ (h:=?_)))))))))
   refine A6 rfl (Cg (n:=0) rfl rfl rfl harg ?_)
   refine l_ (h:=m_ (h:=?_))
   refine A6 rfl (GV (n:=j) Tryz.underlying9 rfl rfl rfl hlt ?_)
   refine AW (h:=e_ (?_))
   refine A9 rfl (fun hb10=>?_) (fun hb10=>?_)
   ·have hc10:=bp hb10
    have hany:(a0.data.toList.any fun b=>decide (b=0))=true:=by
     rw[List.any_eq_true]
     refine⟨a0.data.toList[j]'(by simpa using hlt),List.getElem_mem _,?_⟩
     have h00:a0[j].toNat=0:=by have:=hc10;omega
     simp
     exact UInt8.toNat_inj.1 h00
    refine w_ (a_ (h:=e_ (A4 (Af (A8 (A8 (Af (Af (A8 (?_))))))))))
    refine AD ?_
    first|(exfalso;first|contradiction|omega)|(exact vi (by simp[Cx, *]))
   have hc10:=bp hb10
   have hne:a0.data.toList[j]'(by simpa using hlt)≠0:=by
    intro e
    have h00:¬a0[j].toNat=0:=by have:=hc10;omega
    simp at e
    exact h00 (congrArg UInt8.toNat e)
   refine B4 (Aw (t_ (AQ (m_ (h:=B3 (h:=a_ (h:=AP (?_))))))))
   refine AF ?_
   refine⟨_,_,?_,⟨j+1,by omega,rfl,(fun i h1 h2=>by
    by_cases e:i=j
    ·subst e;exact hne
    exact hz i h1 (by omega)),rfl⟩,(wk 0 0)⟩
   omega
  have hc9:=bp hb9
  have hany:(a0.data.toList.any fun b=>decide (b=0))=false:=by
   rw[List.any_eq_false]
   intro b hb
   obtain⟨i,hi,rfl⟩:=List.mem_iff_getElem.1 hb
   have:=hz i hi (by have hl:=Lib.size_eq a0;omega)
   simpa using this
  refine BM (Al (Al (BN (Aw (t_ (w_ (a_ (h:=e_ (A4 (?_))))))))))
  refine AD ?_
  first|(exfalso;first|contradiction|omega)|(exact vi (by simp[Cx, *]))
 have hc7:=bp hb7
 refine q_ (w_ (AW (h:=a_ (h:=e_ (?_)))))
 refine A9 rfl (fun hb11=>?_) (fun hb11=>?_)
 ·have hc11:=bp hb11
  refine AM (Bx (h:=w_ (?_)))
  refine A6 rfl (Dw (len:=4) (sz:=1) (n:=0) (by kernel_rfl) rfl rfl rfl rfl ?_)
  refine l_ (h:=?_)
  refine A6 rfl (AJ (Px w.c.a0) ?_)
  rintro r rfl
  refine BR (h:=e_ (?_))
  refine A9 rfl (fun hb12=>?_) (fun hb12=>?_)
  ·have hc12:=bp hb12
   refine w_ (a_ (h:=e_ (A4 (Af (A8 (?_))))))
   refine AD ?_
   first|(exfalso;first|contradiction|omega)|(exact vi (by simp[Cx, *]))
  have hc12:=bp hb12
  refine B4 (Aw (t_ (w_ (a_ (h:=e_ (A4 (?_)))))))
  refine AD ?_
  first|(exfalso;first|contradiction|omega)|(exact vi (by simp[Cx, *]))
 have hc11:=bp hb11
 refine AQ (AW (h:=a_ (h:=e_ (?_))))
 refine A9 rfl (fun hb13=>?_) (fun hb13=>?_)
 ·have hc13:=bp hb13
  refine w_ (?_)
  refine A6 rfl (Dw (len:=4) (sz:=1) (n:=0) (by kernel_rfl) rfl rfl rfl rfl ?_)
  refine l_ (h:=?_)
  refine A6 rfl (AJ (Px w.c.a0) ?_)
  rintro r rfl
  refine BR (h:=e_ (?_))
  refine A9 rfl (fun hb14=>?_) (fun hb14=>?_)
  ·have hc14:=bp hb14
   refine w_ (a_ (h:=e_ (A4 (Af (A8 (?_))))))
   refine AD ?_
   first|(exfalso;first|contradiction|omega)|(exact vi (by simp[Cx, *]))
  have hc14:=bp hb14
  refine B4 (Aw (t_ (w_ (a_ (h:=e_ (A4 (?_)))))))
  refine AD ?_
  first|(exfalso;first|contradiction|omega)|(exact vi (by simp[Cx, *]))
 have hc13:=bp hb13
 refine w_ (AW (h:=a_ (h:=e_ (?_))))
 refine A9 rfl (fun hb15=>?_) (fun hb15=>?_)
 ·have hc15:=bp hb15
  refine w_ (?_)
  refine A6 rfl (Dw (len:=4) (sz:=1) (n:=0) (by kernel_rfl) rfl rfl rfl rfl ?_)
  refine l_ (h:=BJ (h:=m_ (h:=?_)))
  refine At false rfl rfl (fun hb16=>?_) (fun hb16=>?_)
  ·have hc16:=bp hb16
   refine A3 (h:=A3 (h:=A3 (h:=AZ (h:=m_ (h:=A3 (h:=A3 (h:=A3 (h:=AZ (h:=m_ (h:=A3 (h:=A3 (h:=A3 (h:=AZ (h:=e_ (Bx (h:=w_ (a_ (h:=e_ (A4 (Af (A8 (?_))))))))))))))))))))))
   refine AD ?_
   first|(exfalso;first|contradiction|omega)|(exact vi (by simp[Cx, *]))
  have hc16:=bp hb16
  refine Ay (Dw (len:=4) (sz:=1) (n:=0) (by kernel_rfl) rfl rfl rfl rfl ?_)
  refine l_ (h:=CD (h:=Ai (h:=m_ (h:=?_))))
  refine At false rfl rfl (fun hb17=>?_) (fun hb17=>?_)
  ·have hc17:=bp hb17
   refine A3 (h:=A3 (h:=A3 (h:=AZ (h:=m_ (h:=A3 (h:=A3 (h:=A3 (h:=AZ (h:=e_ (Bx (h:=w_ (a_ (h:=e_ (A4 (Af (A8 (?_)))))))))))))))))
   refine AD ?_
   first|(exfalso;first|contradiction|omega)|(exact vi (by simp[Cx, *]))
  have hc17:=bp hb17
  refine Ay (Dw (len:=4) (sz:=1) (n:=1) (by kernel_rfl) rfl rfl rfl rfl ?_)
  refine l_ (h:=BJ (h:=Ai (h:=m_ (h:=?_))))
  refine At false rfl rfl (fun hb18=>?_) (fun hb18=>?_)
  ·have hc18:=bp hb18
   refine A3 (h:=A3 (h:=A3 (h:=AZ (h:=e_ (Bx (h:=w_ (a_ (h:=e_ (A4 (Af (A8 (?_))))))))))))
   refine AD ?_
   first|(exfalso;first|contradiction|omega)|(exact vi (by simp[Cx, *]))
  have hc18:=bp hb18
  refine Ay (Dw (len:=4) (sz:=1) (n:=1) (by kernel_rfl) rfl rfl rfl rfl ?_)
  refine l_ (h:=CD (h:=Ai (h:=e_ (?_))))
  refine A9 rfl (fun hb19=>?_) (fun hb19=>?_)
  ·have hc19:=bp hb19
   refine w_ (a_ (h:=e_ (A4 (Af (A8 (?_))))))
   refine AD ?_
   first|(exfalso;first|contradiction|omega)|(exact vi (by simp[Cx, *]))
  have hc19:=bp hb19
  refine B4 (Aw (t_ (w_ (a_ (h:=e_ (A4 (?_)))))))
  refine AD ?_
  first|(exfalso;first|contradiction|omega)|(exact vi (by simp[Cx, *]))
 have hc15:=bp hb15
 refine w_ (AW (h:=a_ (h:=e_ (?_))))
 refine A9 rfl (fun hb20=>?_) (fun hb20=>?_)
 ·have hc20:=bp hb20
  refine w_ (m_ (h:=k_ (h:=f_ (h:=f_ (h:=l_ (h:=BS (h:=e_ (?_))))))))
  refine A9 rfl (fun hb21=>?_) (fun hb21=>?_)
  ·have hc21:=bp hb21
   refine w_ (a_ (h:=e_ (A4 (Af (A8 (?_))))))
   refine AD ?_
   first|(exfalso;first|contradiction|omega)|(exact vi (by simp[Cx, *]))
  have hc21:=bp hb21
  refine B4 (Aw (t_ (w_ (a_ (h:=e_ (A4 (?_)))))))
  refine AD ?_
  first|(exfalso;first|contradiction|omega)|(exact vi (by simp[Cx, *]))
 have hc20:=bp hb20
 refine w_ (AW (h:=a_ (h:=e_ (?_))))
 refine A9 rfl (fun hb22=>?_) (fun hb22=>?_)
 ·have hc22:=bp hb22
  refine w_ (?_)
  refine A6 rfl (Dw (len:=4) (sz:=1) (n:=0) (by kernel_rfl) rfl rfl rfl rfl ?_)
  refine l_ (h:=BJ (h:=e_ (?_)))
  refine A9 rfl (fun hb23=>?_) (fun hb23=>?_)
  ·have hc23:=bp hb23
   refine w_ (a_ (h:=e_ (A4 (Af (A8 (?_))))))
   refine AD ?_
   first|(exfalso;first|contradiction|omega)|(exact vi (by simp[Cx, *]))
  have hc23:=bp hb23
  refine B4 (Aw (t_ (w_ (a_ (h:=e_ (A4 (?_)))))))
  refine AD ?_
  first|(exfalso;first|contradiction|omega)|(exact vi (by simp[Cx, *]))
 have hc22:=bp hb22
 refine B4 (Aw (t_ (w_ (a_ (h:=e_ (A4 (?_)))))))
 refine AD ?_
 first|(exfalso;first|contradiction|omega)|(exact vi (by simp[Cx, *]))
end
def GJ(n:Int):Int:=IntKind.i64.wrap (0 - n)
def E5(s:Syst)(pid:Int)(c:Cal):Syst×Res:=
 if DZ s.tab pid=false then(s,{F9 with exit:= -4})else if BU c≠0 then(s,{F9 with exit:= -22})
 else if(FZ s (Au s.tab pid) c).2.2≠0 then(s,{F9 with exit:=GJ (FZ s (Au s.tab pid) c).2.2,items:=(FZ s (Au s.tab pid) c).1})
 else if(D0 (EX s pid c)).2≠0 then(s,{F9 with exit:=GJ (D0 (EX s pid c)).2,items:=(FZ s (Au s.tab pid) c).1})
 else((D0 (EX s pid c)).1.s,(D0 (EX s pid c)).1.r)
def UO(R:Syst×Res):AV:= .tup [.agg (D1 R.1), .agg (EY R.2)]
theorem dM{α:Type}{sz:Nat}{F:α→List AV}(hF:RowF sz F)(l:List α)(cap0 cap:Nat):((LB sz F l cap0).drop 0).take (l.length * sz)++List.replicate ((cap - l.length) * sz) .any=LB sz F l cap:=by
 unfold LB
 have h:=Ra (cap:=cap0) (JL hF l)
 rw[List.length_map]at h
 rw[h]
 unfold Bz
 rw[List.length_map]
def Li:List AV:=[.v (.slice none 0 0), .v (.slice none 0 0), .v (.int .i64 0), .v (.int .i64 0), .v (.slice none 0 0)]
def Lj:List AV:=[.v (.int .i64 0), .v (.int .i64 0), .v (.int .i64 0), .v (.slice none 0 0), .v (.slice none 0 0)]
def JO(r:Res)(I:AV):List AV:=[.v (.int .i64 r.exit), .v (.int .i64 r.child), .v (.int .i64 r.gone),I, .sl 7 (r.changes.map C0) none]
def GK(s:Syst)(pid:Int)(c:Cal):Wrk:=⟨s,Au s.tab pid,c,[],F9⟩
theorem dO(s:Syst)(pid:Int)(c:Cal):LeA (.agg (D1 s++(BV (Au s.tab pid)++(ES c++[.v (.slice none 0 0), .v (.int .i64 0), .v (.int .i64 0), .v (.int .i64 0), .v (.slice none 0 0), .v (.slice none 0 0)])))) (.agg (Ce (GK s pid c) (.v (.slice none 0 0)) (.v (.slice none 0 0)))):=by
 refine LeA.agg ?_
 repeat (first|exact LeL.nil|refine LeL.cons (LeA.refl _) ?_|refine LeL.cons (LeA.nil _) ?_)
theorem Q8(w:Wrk)(R:De):(Bk w R).1.r.items.length=w.r.items.length:=by
 unfold Bk
 split<;>rfl
theorem dQ(w:Wrk)(R:Tab×Int):(DR w R).1.r.items.length=w.r.items.length:=by
 unfold DR
 split<;>rfl
theorem UP(w:Wrk)(i:Nat)(a:A7):(GF w i a).r.items.length=w.r.items.length:=List.length_modify ..
theorem dR(w:Wrk)(i:Nat)(r:Int):(Ep w i r).r.items.length=w.r.items.length:=List.length_modify ..
theorem UQ(w:Wrk)(i:Nat)(n:Nod):(Ca w i n).1.r.items.length=w.r.items.length:=by
 unfold Ca
 split
 ·rw[UP,Q8]
 rfl
theorem UR(w:Wrk)(a:A7):(Gg w a).1.r.items.length=w.r.items.length:=by
 unfold Gg
 rw[dQ]
 rfl
theorem dS(w:Wrk):(C4 w).1.r.items.length=w.r.items.length:=by
 unfold C4
 repeat' split
 all_goals first|rfl|exact UQ _ _ _|exact UR _ _|exact(UR _ _).trans (UQ _ _ _)
theorem dT(w:Wrk)(R:De)(x:A7):(GG w R x).1.r.items.length=w.r.items.length:=by
 unfold GG
 repeat' split
 all_goals first|rfl|exact Q8 _ _|exact(UP _ _ _).trans ((dR _ _ _).trans (Q8 _ _))
theorem dU(w:Wrk):(Dn w).1.r.items.length=w.r.items.length:=by
 unfold Dn
 repeat' split
 all_goals first|rfl|exact dT _ _ _
theorem dV{w:Wrk}(h:w.c.num=6∨w.c.num=13):(D0 w).1.r.items.length=w.r.items.length:=by
 rcases h with h|h
 ·rw[D0,if_pos h];exact dS w
 rw[D0,if_neg (show¬w.c.num=6 by omega),if_neg (show¬w.c.num=8 by omega),if_neg (show¬(w.c.num=10∨w.c.num=12) by omega),if_pos h];exact dU w
section
variable {P:Program}{ev:Operand→Option AV}{h:AH}{R:AV→AH→Prop}{d:Option Tmp}{ty:TypeId}{pos:String}{af:Array Edge}{gd:Option (Nat×Bool)}
theorem dW{T:TypeId}{x:Operand}{a:Int}(hx:ev x=some (.v (.int .i64 a)))(hR:R (.v (.int .i64 (GJ a))) h):AStep P ⟨d, .unOp .neg T x,ty,pos,af,gd⟩ ev h R:=
 Cc (fun _ G w ec _ he=>⟨.int .i64 (GJ a),by
  have h1:=he x (by simp[Op.operands]) _ hx
  simp only[rep]at h1
  simp[execOp,h1,Op.unary,Op.intArith,GJ],by simp only[rep]⟩) hR
end
section
theorem dY(w:Wrk)(cap:Nat)(hv:SpcV w.s.spc)(hm:w.s.spc.mounts.length≤1000)(htb:TabB w.s.tab)(hnm:∀f∈w.found,f.name.size≤12)(h6:(w.c.num=6∧1≤w.found.length∧1≤w.r.items.length)∨(w.c.num=13∧2≤w.found.length∧2≤w.r.items.length)):ACall Tryz.prog 68 [.bp 0 0] [WA w cap,IB w cap] (fun r b t=>t=[]∧r= .v (.int .i64 (D0 w).2)∧b=[WA (D0 w).1 cap,IB (D0 w).1 cap]):=by
 have hps:w.s.tab.ps.length≤1000:=by have:=htb.few;omega
 refine enter Tryz.func68 rfl rfl rfl rfl rfl 2 rfl ?_
 refine w_ (a_ (h:=e_ (q_ (w_ (m_ (h:=k_ (h:=f_ (h:=f_ (h:=l_ (h:=e_ (Ao (w_ (AW (h:=a_ (h:=e_ (?_))))))))))))))))
 refine A9 rfl (fun hb1=>?_) (fun hb1=>?_)
 ·have hc1:=bp hb1
  obtain⟨f,hf⟩:∃f,w.found[0]?=some f:=⟨_,B8 (by omega)⟩
  obtain⟨x,hx⟩:∃x,w.r.items[0]?=some x:=⟨_,B8 (by omega)⟩
  have hact:D0 w=C4 w:=by rw[D0,if_pos hc1]
  refine w_ (m_ (h:=?_))
  refine A6 rfl (Cs [0,1] rfl (.cons _ _ _ _ _ rfl (LeA.refl _) .nil) (by decide) (.cons _ _ _ _ _ rfl rfl (.cons _ _ _ _ _ rfl (Fa B9 _ _ _) .nil)) (d7 w cap f x hv hm htb hf hx (by have:=hnm f (Aj hf);omega)) ?_)
  rintro r bc tc ⟨rfl,rfl,rfl⟩
  refine⟨rfl,_,Gj rfl (C4 w).1 cap,?_⟩
  refine a_ (h:=e_ (A4 (Af (A8 (?_)))))
  refine Dd (r:= .v (.int .i64 (D0 w).2)) none (h5:=(by rw[hact];exact LeA.refl _)) (h6:=⟨rfl,rfl,?_⟩)
  rw[hact]
  rfl
 have hc1:=bp hb1
 refine w_ (AW (h:=a_ (h:=e_ (?_))))
 refine A9 rfl (fun hb2=>?_) (fun hb2=>?_)
 ·have hc2:=bp hb2
  exfalso;first|contradiction|omega
 have hc2:=bp hb2
 refine q_ (w_ (AW (h:=a_ (h:=e_ (?_)))))
 refine A9 rfl (fun hb3=>?_) (fun hb3=>?_)
 ·have hc3:=bp hb3
  exfalso;first|contradiction|omega
 have hc3:=bp hb3
 refine AQ (AW (h:=a_ (h:=e_ (?_))))
 refine A9 rfl (fun hb4=>?_) (fun hb4=>?_)
 ·have hc4:=bp hb4
  exfalso;first|contradiction|omega
 have hc4:=bp hb4
 refine w_ (AW (h:=a_ (h:=e_ (?_))))
 refine A9 rfl (fun hb5=>?_) (fun hb5=>?_)
 ·have hc5:=bp hb5
  obtain⟨f,hf⟩:∃f,w.found[0]?=some f:=⟨_,B8 (by omega)⟩
  obtain⟨g,hg⟩:∃f,w.found[1]?=some f:=⟨_,B8 (by omega)⟩
  obtain⟨x,hx⟩:∃x,w.r.items[0]?=some x:=⟨_,B8 (by omega)⟩
  obtain⟨x1,hx1⟩:∃x,w.r.items[1]?=some x:=⟨_,B8 (by omega)⟩
  have hact:D0 w=Dn w:=by rw[D0,if_neg (show¬w.c.num=6 by omega),if_neg (show¬w.c.num=8 by omega),if_neg (show¬(w.c.num=10∨w.c.num=12) by omega),if_pos hc5]
  refine w_ (m_ (h:=?_))
  refine A6 rfl (Cs [0,1] rfl (.cons _ _ _ _ _ rfl (LeA.refl _) .nil) (by decide) (.cons _ _ _ _ _ rfl rfl (.cons _ _ _ _ _ rfl (Fa B9 _ _ _) .nil)) (dA w cap f g x x1 hv hm hps hf hg hx hx1 (by have:=hnm f (Aj hf);omega) (by have:=hnm g (Aj hg);omega)) ?_)
  rintro r bc tc ⟨rfl,rfl,rfl⟩
  refine⟨rfl,_,Gj rfl (Dn w).1 cap,?_⟩
  refine a_ (h:=e_ (A4 (Af (A8 (?_)))))
  refine Dd (r:= .v (.int .i64 (D0 w).2)) none (h5:=(by rw[hact];exact LeA.refl _)) (h6:=⟨rfl,rfl,?_⟩)
  rw[hact]
  rfl
 have hc5:=bp hb5
 exfalso;first|contradiction|omega
theorem Q9(s:Syst)(pid:Int)(c:Cal)(hv:SpcV s.spc)(hm:s.spc.mounts.length≤1000)(ht:TabB s.tab)(hcp:c.paths.length≤1000)(hca:c.args.length≤1000)(h6:c.num=6∨c.num=13):AFn Tryz.prog 35 [.agg (D1 s), .v (.int .i64 pid), .agg (ES c)] (fun r=>r=UO (E5 s pid c)):=by
 have hsb:=hv.b hm
 obtain⟨W1,hW1⟩:∃W,W=EX s pid c:=⟨_,rfl⟩
 have hwf:=dJ s pid c
 rw[←hW1]at hwf
 have hWs:W1.s=s:=by rw[hW1];rfl
 have hWc:W1.c=c:=by rw[hW1];rfl
 refine enter Tryz.func35 rfl rfl rfl rfl rfl 0 rfl ?_
 refine w_ (b_ (h:=b_ (h:=Aa (h:=Aa (h:=e_ (w_ (f_ (h:=l_ (h:=m_ (h:=?_))))))))))
 refine A6 rfl (AJ (Td s.tab pid ht) ?_)
 rintro r rfl
 refine m_ (h:=x_ (h:=x_ (h:=Aa (h:=s_ (h:=a_ (h:=e_ (q_ (w_ (m_ (h:=BR (h:=e_ (?_))))))))))))
 refine A9 rfl (fun hb1=>?_) (fun hb1=>?_)
 ·have hc1:=bp hb1
  have hno:DZ s.tab pid=false:=by simpa using hc1
  refine w_ (l_ (h:=?_))
  refine A6 rfl (AJ (NP s hsb ht) ?_)
  rintro r rfl
  refine A6 rfl (Fh (y:= .agg (EY {F9 with exit:= -4})) (DF ⟨rfl,rfl⟩) ?_)
  refine s_ (h:=s_ (h:=e_ (A4 (A8 (?_)))))
  refine AD ?_
  rw[E5,if_pos hno];rfl
 have hc1:=bp hb1
 have hno:¬DZ s.tab pid=false:=by simpa using hc1
 refine AM (q_ (w_ (l_ (h:=?_))))
 refine A6 rfl (AJ (ZX c hcp hca) ?_)
 rintro r rfl
 refine BS (h:=e_ (?_))
 refine A9 rfl (fun hb2=>?_) (fun hb2=>?_)
 ·have hc2:=bp hb2
  have hck:BU c≠0:=by simpa using hc2
  refine w_ (l_ (h:=?_))
  refine A6 rfl (AJ (NP s hsb ht) ?_)
  rintro r rfl
  refine A6 rfl (Fh (y:= .agg (EY {F9 with exit:= -22})) (DF ⟨rfl,rfl⟩) ?_)
  refine s_ (h:=s_ (h:=e_ (A4 (A8 (?_)))))
  refine AD ?_
  rw[E5,if_neg hno,if_pos hck];rfl
 have hc2:=bp hb2
 have hck:BU c=0:=by simpa using hc2
 obtain⟨hk1,hk2,hk3,hk4,hk5⟩:=dG hck
 have hargs:∀p∈(GK s pid c).c.args,p.size≤1000:=fun p hp=>by have:=hk5 p hp;omega
 have hpaths:∀p∈(GK s pid c).c.paths,p.size≤100000:=fun p hp=>by have:=hk4 p hp;omega
 have hpn:(c.num=6∧c.paths.length=1∧(CG c).length=1)∨(c.num=13∧c.paths.length=2∧(CG c).length=2):=by
  rcases h6 with h|h
  ·refine .inl ⟨h,?_,?_⟩
   ·rw[h]at hk1;have:(DQ 6).2.2.1=1:=rfl;omega
   simp[CG,h]
  refine .inr ⟨h,?_,?_⟩
  ·rw[h]at hk1;have:(DQ 13).2.2.1=2:=rfl;omega
  simp[CG,h]
 have hpp:(GK s pid c).c.paths.length=(CG (GK s pid c).c).length:=by show c.paths.length=(CG c).length;omega
 have hp0:0<(GK s pid c).c.paths.length:=by show 0<c.paths.length;omega
 have hzl:(c.paths.zip (CG c)).length=c.paths.length:=by rw[List.length_zip];omega
 have hil0:0<W1.r.items.length:=by rw[hwf.2.2,hzl];omega
 refine AM (q_ (BQ ([(0,D1 s),(1,ES c),(4,BV (Au s.tab pid))]) 7 (h:=?_)))
 refine AE 0 (h:=?_)
 refine AE 2 (h:=?_)
 refine AE 3 (h:=?_)
 refine c_ 1 rfl (AJ (NP s hsb ht) ?_)
 rintro r rfl
 refine o_ (h:=?_)
 refine Bo 4 rfl (fun _ hS=>Ec (y:= .agg (Ce (GK s pid c) (.v (.slice none 0 0)) (.v (.slice none 0 0)))) (DF ⟨rfl,rfl⟩) (dO s pid c) ⟨rfl,rfl⟩) ?_
 refine c_ 5 rfl (O2 rfl rfl (by repeat constructor) ?_)
 refine o_ (h:=B2 6 (h:=z_ (h:=t_ (?_))))
 refine BG (fun S=>∃cap,W1.r.items.length≤cap∧S=⟨look [(3, .bp 2 0),(6, .bp 3 0),(7, .bp 4 0),(10, .bp 0 0),(11, .v (.int .i64 (FZ s (Au s.tab pid) c).2.2))],⟨[WA W1 cap,IB W1 cap,D1 s,Li,Lj],[]⟩⟩) ?_ ?_
 ·skip
  refine AQ (m_ (h:=m_ (h:=?_)))
  refine A6 rfl (Dy 1 rfl (.cons _ _ _ _ _ rfl (LeA.of_eq rfl) .nil) (dL (GK s pid c) (.v (.slice none 0 0)) (.v (.slice none 0 0)) (fun h=>by have:c.num=9:=h;omega) hargs) ?_)
  rintro r rfl
  refine⟨rfl,?_⟩
  refine A6 rfl (Cs [5] rfl (.cons _ _ _ _ _ rfl (LeA.refl _) (.cons _ _ _ _ _ rfl (LeA.refl _) .nil)) (by decide) (.cons _ _ _ _ _ rfl rfl .nil) (cU (GK s pid c) (Cx (Au s.tab pid) c) hv hm hpp (by show c.paths.length≤1000;omega) hp0 hpaths) ?_)
  rintro r bc tc ⟨rfl,cap,hcap,rfl,rfl⟩
  refine⟨rfl,_,dH (GK s pid c) _ _ cap _,?_⟩
  refine a_ (h:=AP (?_))
  refine AF ?_
  rw[hW1]
  exact⟨_,⟨cap,hcap,rfl⟩,Eg [5,6,0,2,3] (fun i hi=>absurd hi (Nat.not_lt_zero i)) (by decide) (.cons _ _ _ _ _ rfl rfl (.cons _ _ _ _ _ rfl (JM B9 _ _ _) (.cons _ _ _ _ _ rfl rfl (.cons _ _ _ _ _ rfl rfl (.cons _ _ _ _ _ rfl rfl .nil))))) (by repeat (first|exact SubK.nil|refine SubK.cons _ _ _ _ rfl (LeA.refl _) ?_))⟩
 rintro S ⟨cap,hcap,rfl⟩
 refine w_ (m_ (h:=k_ (h:=f_ (h:=f_ (h:=l_ (h:=?_))))))
 refine A6 rfl (MV rfl rfl (SrcA.bs 1 0 _ cap _ rfl (by rw[show IB W1 cap=LB 13 CH W1.r.items cap from rfl,Ps B9 hcap];omega)) hil0 (by rw[hwf.2.2,hzl];omega) ?_)
 rintro cap2 k bx2 hcp2 hs
 rw[show((IB W1 cap).drop 0).take (W1.r.items.length * 13)++List.replicate ((cap2 - W1.r.items.length) * 13) AV.any=LB 13 CH W1.r.items cap2 from dM B9 _ cap cap2]at hs
 obtain⟨rfl,rfl⟩:k=5∧bx2=[_,_,_,_,_,_]:=hs.eq
 refine a_ (h:=e_ (?_))
 refine BG (fun S=>∃(W2:Wrk) (E2:Int),((¬(FZ s (Au s.tab pid) c).2.2=0∧E2=(FZ s (Au s.tab pid) c).2.2)∨((FZ s (Au s.tab pid) c).2.2=0∧W2=(D0 W1).1∧E2=(D0 W1).2))∧S=⟨look [(3, .bp 2 0),(6, .bp 3 0),(7, .bp 4 0),(10, .bp 0 0),(11, .v (.int .i64 E2)),(12, .bs 5 0 13 W1.r.items.length cap2)],⟨[WA W2 cap,IB W2 cap,D1 s,Li,Lj,LB 13 CH W1.r.items cap2],[]⟩⟩) ?_ ?_
 ·skip
  refine w_ (m_ (h:=AW (h:=e_ (?_))))
  refine A9 rfl (fun hb3=>?_) (fun hb3=>?_)
  ·have hc3:=bp hb3
   have he1:(FZ s (Au s.tab pid) c).2.2=0:=by simpa using hc3
   refine AQ (m_ (h:=?_))
   refine A6 rfl (Cs [0,1] rfl (.cons _ _ _ _ _ rfl (LeA.refl _) .nil) (by decide) (.cons _ _ _ _ _ rfl rfl (.cons _ _ _ _ _ rfl (Fa B9 _ _ _) .nil)) (dY W1 cap (by rw[hWs];exact hv) (by rw[hWs];exact hm) (by rw[hWs];exact ht) hwf.1 (by rw[hWc,hwf.2.1,hwf.2.2,hzl];omega)) ?_)
   rintro r bc tc ⟨rfl,rfl,rfl⟩
   refine⟨rfl,_,Gj rfl (D0 W1).1 cap,?_⟩
   refine a_ (h:=AP (?_))
   refine AF ?_
   exact⟨_,⟨(D0 W1).1,(D0 W1).2, .inr ⟨he1,rfl,rfl⟩,rfl⟩,B1 6 0 rfl rfl rfl (by simp[Ap,Ak,Am,Bf B9,CB,WA,IB,Cb,D1,Li,Lj]) ((by repeat (first|exact Sub.nil|refine Sub.cons _ _ _ rfl rfl ?_|refine Sub.any _ _ ?_|refine Sub.sl _ _ _ _ _ rfl ?_|refine Sub.slnil _ _ _ rfl ?_)))⟩
  have hc3:=bp hb3
  have he1:¬(FZ s (Au s.tab pid) c).2.2=0:=by simpa using hc3
  refine B4 (?_)
  refine AF ?_
  first|exact⟨_,⟨(D0 W1).1,(D0 W1).2, .inr ⟨he1,rfl,rfl⟩,rfl⟩,B1 6 0 rfl rfl rfl (by simp[Ap,Ak,Am,Bf B9,CB,WA,IB,Cb,D1,Li,Lj]) ((by repeat (first|exact Sub.nil|refine Sub.cons _ _ _ rfl rfl ?_|refine Sub.any _ _ ?_|refine Sub.sl _ _ _ _ _ rfl ?_|refine Sub.slnil _ _ _ rfl ?_)))⟩|exact⟨_,⟨W1,_, .inl ⟨he1,rfl⟩,rfl⟩,B1 6 0 rfl rfl rfl (by simp[Ap,Ak,Am,Bf B9,CB,WA,IB,Cb,D1,Li,Lj]) ((by repeat (first|exact Sub.nil|refine Sub.cons _ _ _ rfl rfl ?_|refine Sub.any _ _ ?_|refine Sub.sl _ _ _ _ _ rfl ?_|refine Sub.slnil _ _ _ rfl ?_)))⟩
 rintro S ⟨W2,E2,hQ,rfl⟩
 refine q_ (w_ (m_ (h:=BS (h:=e_ (?_)))))
 refine A9 rfl (fun hb4=>?_) (fun hb4=>?_)
 ·have hc4:=bp hb4
  have he2:E2≠0:=by simpa using hc4
  have hrun:E5 s pid c=(s,{F9 with exit:=GJ E2,items:=W1.r.items}):=by
   rw[E5,if_neg hno,if_neg (by simp[hck])]
   rcases hQ with⟨q1,q2⟩|⟨q1,q2,q3⟩
   ·rw[if_pos q1,←q2,hW1];rfl
   rw[if_neg (by simp[q1]),←hW1,←q3,if_pos he2,hW1];rfl
  refine BG (fun S=>S=⟨look [(6, .bp 0 0),(7, .bp 1 0)],⟨[D1 s,JO {F9 with exit:=GJ E2} (.sl 13 (W1.r.items.map CH) none)],[]⟩⟩) ?_ ?_
  ·skip
   refine AQ (l_ (h:=?_))
   refine A6 rfl (AJ (NP s hsb ht) ?_)
   rintro r rfl
   refine m_ (h:=?_)
   refine A6 rfl (dW rfl ?_)
   refine m_ (h:=?_)
   refine A6 rfl (Fh (y:= .agg (JO {F9 with exit:=GJ E2} (.bs 5 0 13 W1.r.items.length cap2))) (DF ⟨rfl,rfl⟩) ?_)
   refine s_ (h:=s_ (h:=AP (?_)))
   refine AF ?_
   refine⟨_,rfl,(Eg [3,4,5] (rows:=[D1 s,JO {F9 with exit:=GJ E2} (.bs 2 0 13 W1.r.items.length cap2),LB 13 CH W1.r.items cap2]) (l:=[(6, .bp 0 0),(7, .bp 1 0)]) (fun i hi=>absurd hi (Nat.not_lt_zero i)) (by decide) (.cons _ _ _ _ _ rfl rfl (.cons _ _ _ _ _ rfl rfl (.cons _ _ _ _ _ rfl (JM B9 _ _ _) .nil))) (by repeat (first|exact SubK.nil|refine SubK.cons _ _ _ _ rfl (LeA.refl _) ?_))).trans (F0 2 1 rfl (congrArg (fun x=>[D1 s,JO {F9 with exit:=GJ E2} x]) (Pu B9 rfl rfl hcp2)) (.cons _ _ _ _ rfl (LeA.refl _) (.cons _ _ _ _ rfl (LeA.refl _) .nil)))⟩
  rintro S rfl
  refine A4 (A8 (?_))
  refine Av (r:=UO (E5 s pid c)) none (h5:=(by rw[hrun];exact(by repeat (first|exact LeA.refl _|exact LeA.nil _|exact LeL.refl _|refine LeA.agg ?_|refine LeA.tup ?_|exact LeL.nil|refine LeL.cons ?_ ?_|exact LeA.any _)))) (h6:=⟨rfl,rfl,rfl⟩)
 have hc4:=bp hb4
 have he2:E2=0:=by simpa using hc4
 have hlen2:W2.r.items.length≤cap:=by
  rcases hQ with⟨q1,q2⟩|⟨q1,q2,q3⟩
  ·exact absurd (q2.symm.trans he2) q1
  rw[q2,dV (by rw[hWc];exact h6)];exact hcap
 have hrun:E5 s pid c=(W2.s,W2.r):=by
  rcases hQ with⟨q1,q2⟩|⟨q1,q2,q3⟩
  ·exact absurd (q2.symm.trans he2) q1
  rw[E5,if_neg hno,if_neg (by simp[hck]),if_neg (by simp[q1]),←hW1,←q3,if_neg (by simp[he2]),q2]
 refine AM (?_)
 refine BG (fun S=>S=⟨look [(6, .bp 0 0),(7, .bp 1 0)],⟨[D1 W2.s,JO W2.r (.sl 13 (W2.r.items.map CH) none)],[]⟩⟩) ?_ ?_
 ·skip
  refine BQ ([(0,WA W2 cap)]) 10 (h:=AN 0 (h:=BA 1 (h:=AK 2 (h:=AE 3 (h:=AN 4 (h:=BA 5 (h:=AK 6 (h:=AE 7 (h:=?_)))))))))
  refine Az 8 rfl (Ax rfl rfl rfl rfl rfl rfl (by repeat constructor) (by repeat constructor) ?_)
  refine o_ (h:=?_)
  refine Az 9 rfl (Ax rfl rfl rfl rfl rfl rfl (by repeat constructor) (by repeat constructor) ?_)
  refine o_ (h:=z_ (h:=?_))
  refine AF ?_
  refine⟨_,rfl,(Eg [3,4,1] (rows:=[D1 W2.s,JO W2.r (.bs 2 0 13 W2.r.items.length cap),LB 13 CH W2.r.items cap]) (l:=[(6, .bp 0 0),(7, .bp 1 0)]) (fun i hi=>absurd hi (Nat.not_lt_zero i)) (by decide) (.cons _ _ _ _ _ rfl rfl (.cons _ _ _ _ _ rfl rfl (.cons _ _ _ _ _ rfl (JM B9 _ _ _) .nil))) (by repeat (first|exact SubK.nil|refine SubK.cons _ _ _ _ rfl (LeA.refl _) ?_))).trans (F0 2 1 rfl (congrArg (fun x=>[D1 W2.s,JO W2.r x]) (Pu B9 rfl rfl hlen2)) (.cons _ _ _ _ rfl (LeA.refl _) (.cons _ _ _ _ rfl (LeA.refl _) .nil)))⟩
 rintro S rfl
 refine A4 (?_)
 refine AD ?_
 rw[hrun];rfl
end
structure Wch where
 kind:Int
 dir:A7
 name:AB
 file:A7
deriving DecidableEq
def FD:Wch:=⟨0,(0,0),⟨#[]⟩,(0,0)⟩
def DD(w:Wch):List AV:=[.v (.int .i64 w.kind), .v (.int .i64 w.dir.1), .v (.int .i64 w.dir.2), .v (.string w.name), .v (.int .i64 w.file.1), .v (.int .i64 w.file.2)]
def Fr(s:Spc)(a:A7):Bool:=Ab s.files a&&Bu s a.1
def Fs(s:Spc)(k:Int)(p:AB):Wch×Int:=
 if(k≠1∧k≠2)∨DH p.data.toList=false then(FD,22)
 else if(BE s (0,0) p (decide (k=2))).2≠0 then(FD,(BE s (0,0) p (decide (k=2))).2)
 else if k=2 then
  (if(BE s (0,0) p true).1.ex=false then(FD,2)else if Ab s.files (BE s (0,0) p true).1.file=false then(FD,20)
  else(⟨k,(0,0),⟨#[]⟩,(BE s (0,0) p true).1.file⟩,0))
 else if(BE s (0,0) p false).1.name=⟨#[]⟩then(FD,22)
 else(⟨k,(BE s (0,0) p false).1.dir,(BE s (0,0) p false).1.name,(AG s.files (BE s (0,0) p false).1.dir (BE s (0,0) p false).1.name).1⟩,0)
def E6(s:Spc)(w:Wch):Bool:=
 if w.kind=1 then Fr s w.dir&&decide ((AG s.files w.dir w.name).1=w.file)&&Cm w.name
 else if w.kind=2 then Fr s w.file&&decide (w.dir=(0,0))&&decide (w.name=⟨#[]⟩)else false
def Cy(w:Wch):A7:=if w.kind=2 then w.file else w.dir
def KC(s:Spc)(w:Wch):Wch×Bool:=
 if(w.kind≠1∧w.kind≠2)∨Fr s (Cy w)=false then(FD,false)
 else if w.kind=1 then({w with file:=(AG s.files w.dir w.name).1},true)else(w,true)
def QA(w:Wch)(l:List DG):Wch:=if w.kind=1 then{w with file:=l.foldl (fun a c=>if c.1=w.dir∧c.2.1=w.name then c.2.2.2 else a) w.file}else w
def NR(w:Wch)(gone:Int)(l:List DG):Wch×Bool:=
 if(w.kind≠1∧w.kind≠2)∨(gone≠0∧gone=(Cy w).1)∨((l.any fun c=>decide (c.2.2.1=Cy w))=true∧(l.any fun c=>decide (c.2.2.2=Cy w))=false)then(FD,false)
 else(QA w l,true)
theorem dZ{s:Spc}{fl:Bool}{p:AB}{ps:List AB}{a:A7}{lk:Nat}{τ:Lk}(h:BY s fl p ps a lk= .inr τ)(hn:τ.name≠⟨#[]⟩):τ.dir=a∧Ab s.files a=true:=by
 unfold BY at h
 split at h
 ·cases h
 rename_i c
 repeat' split at h
 all_goals first|(cases h;done)|(injection h with h;subst h;first|exact absurd rfl hn|exact⟨rfl,by simpa using c⟩)
section
variable {s:Spc}(hv:SpcV s)
include hv
theorem QB:Ab s.files (0,1)=true:=Pl hv (Int.le_refl 0) (by have:=hv.pos;omega)
theorem US{a:A7}(h:Dj s a=true):Fr s a=true:=by
 have h2:=K0 ((Le hv a).1 h).1.1
 unfold Fr
 rw[h2.1,h2.2]
 rfl
theorem eB{fl:Bool}:∀(k:Nat) (σ:Lk),(Ab s.files σ.file=true→Dj s σ.file=true)→(σ.name≠⟨#[]⟩→Dj s σ.dir=true)→(D7 s fl k σ).1=0→(D7 s fl k σ).2.name≠⟨#[]⟩→Dj s (D7 s fl k σ).2.dir=true:=by
 intro k
 induction k with
 |zero=>intro σ _ h _ hn;exact h hn
 |succ k ih=>
   intro σ h1 h2
   unfold D7
   cases σ.ps with
   |nil=>exact fun _=>h2
   |cons p ps=>
     simp only
     cases hs:BY s fl p ps σ.file σ.links with
     |inl e=>exact fun c=>absurd c (Tw hs)
     |inr τ=>exact ih τ (Tv hv (QB hv) h1 hs) fun hn=>by obtain⟨e1,e2⟩:=dZ hs hn;rw[e1];exact h1 e2
theorem eC{k:Int}{p:AB}(h:(Fs s k p).2=0):E6 s (Fs s k p).1=true:=by
 unfold Fs at h ⊢
 split at h
 ·exact absurd h (by decide)
 rename_i c1
 rw[if_neg c1]
 have hr:Dj s (Ck s)=true:=Lf hv (Q1 hv (QB hv))
 split at h
 ·rename_i c2;exact absurd h c2
 rename_i c2
 rw[if_neg c2]
 have hfnd:∀fl,(BE s (0,0) p fl).2=0→∃σ,(D7 s (fl||B0 p) (Dk σ) σ).1=0∧(Ab s.files σ.file=true→Dj s σ.file=true)∧(σ.name≠⟨#[]⟩→Dj s σ.dir=true)∧(BE s (0,0) p fl).1=F8 s (B0 p) (D7 s (fl||B0 p) (Dk σ) σ).2:=by
  intro fl h0
  unfold BE at h0 ⊢
  have hst:Ab s.files (if CN p=true then Ck s else(0,0))=true→Dj s (if CN p=true then Ck s else(0,0))=true:=by
   split
   ·exact fun _=>hr
   intro h;rw[Q2 hv]at h;cases h
  generalize (if CN p=true then Ck s else(0,0))=d at h0 hst ⊢
  repeat' split at h0
  all_goals first|(exact absurd h0 (by decide);done)|(rename_i c;exact absurd h0 c;done)|skip
  rename_i d1 d2 d3 d4 d5
  refine⟨En (CF p) d,by have:=d4;unfold D8 at this;simpa using this,hst,fun hn=>absurd rfl hn,?_⟩
  rw[if_neg d1,if_neg d2,if_neg d3,if_neg d4,if_neg d5]
  rfl
 split at h
 ·rename_i c3
  rw[if_pos c3]
  split at h
  ·exact absurd h (by decide)
  rename_i c4
  rw[if_neg c4]
  split at h
  ·exact absurd h (by decide)
  rename_i c5
  rw[if_neg c5]
  have c5:Ab s.files (BE s (0,0) p true).1.file=true:=by simpa using c5
  have c2:(BE s (0,0) p true).2=0:=by
   have:=c2
   rw[decide_eq_true c3]at this
   simpa using this
  obtain⟨σ,h1,h2,h3,h4⟩:=hfnd true c2
  have hv2:Dj s (BE s (0,0) p true).1.file=true:=by
   rw[h4]at c5 ⊢
   exact Zx hv (QB hv) _ σ h2 h1 c5
  unfold E6
  simp only
  rw[if_neg (by omega),if_pos c3,US hv hv2]
  rfl
 rename_i c3
 rw[if_neg c3]
 split at h
 ·exact absurd h (by decide)
 rename_i c4
 rw[if_neg c4]
 have hk:k=1:=by
  simp only[not_or,not_and,Decidable.not_not]at c1
  exact Decidable.byContradiction fun hk=>c3 (c1.1 hk)
 have c2:(BE s (0,0) p false).2=0:=by
  have:=c2
  rw[decide_eq_false c3]at this
  simpa using this
 obtain⟨σ,h1,h2,h3,h4⟩:=hfnd false c2
 have hv2:Dj s (BE s (0,0) p false).1.dir=true:=by
  rw[h4]at c4 ⊢
  exact eB hv _ σ h2 h3 h1 c4
 have hnm:Cm (BE s (0,0) p false).1.name=true:=by
  obtain⟨τ,ht,he⟩:=aF hv (st:=(0,0)) (p:=p) (fl:=false) (x:=(BE s (0,0) p false).1) (Prod.ext rfl c2)
  rw[he]at c4 ⊢
  rcases ht with ht|ht
  ·exact absurd ht.1 c4
  exact ht.1
 unfold E6
 simp only
 rw[if_pos hk,US hv hv2,hnm]
 simp
end
theorem Ll(a b:A7)(w:World):(binOp .eql 36 (.agg #[.int .i64 a.1, .int .i64 a.2]) (.agg #[.int .i64 b.1, .int .i64 b.2])).run Tryz.prog w= .ok (.bool (decide (a=b))) w:=Jg a.1 a.2 b.1 b.2 w
def QC(R:Wch×Int):AV:= .tup [.agg (DD R.1), .v (.int .i64 R.2)]
def QD(R:Wch×Bool):AV:= .tup [.agg (DD R.1), .v (.bool R.2)]
theorem UT(s:Spc)(k:Int)(p:AB)(F:Fnd×Int)(hF:BE s (0,0) p (decide (k=2))=F):Fs s k p=if(k≠1∧k≠2)∨DH p.data.toList=false then(FD,22)else if F.2≠0 then(FD,F.2)
    else if k=2 then(if F.1.ex=false then(FD,2)else if Ab s.files F.1.file=false then(FD,20)else(⟨k,(0,0),⟨#[]⟩,F.1.file⟩,0))
    else if F.1.name=⟨#[]⟩then(FD,22)else(⟨k,F.1.dir,F.1.name,(AG s.files F.1.dir F.1.name).1⟩,0):=by
 unfold Fs
 rw[hF]
 by_cases h:k=2
 ·rw[decide_eq_true h]at hF
  simp only[if_pos h,hF]
 rw[decide_eq_false h]at hF
 simp only[if_neg h,hF]
theorem eD{f:AR}{dir:A7}{name:AB}(h:(AG f dir name).2≠0):(AG f dir name).1=(0,0):=by
 unfold AG at h ⊢
 split
 ·rfl
 rename_i n e
 rw[e]at h
 simp only at h
 split at h
 ·rename_i c
  rw[if_pos c]
  split
  ·rfl
  rename_i e2;rw[e2]at h;exact absurd rfl h
 rename_i c;rw[if_neg c]
section
theorem UU(s:AB)(hs:s.size≤60000):AFn Tryz.prog 51 [.v (.string s)] (fun r=>r= .v (.bool (DH s.data.toList))):=ML (us:=[.string s]) fun w=>aV s w (by omega)
theorem UV(s:Spc)(a:A7)(hs:SpcB s):AFn Tryz.prog 54 [.agg (Ar s), .agg (AA a)] (fun r=>r= .v (.bool (Ab s.files a))):=by
 refine enter Tryz.func54 rfl rfl rfl rfl rfl 0 rfl ?_
 refine w_ (b_ (h:=b_ (h:=a_ (h:=e_ (w_ (f_ (h:=l_ (h:=l_ (h:=?_)))))))))
 refine A6 rfl (AJ (G8 s.files a hs.files) ?_)
 rintro r rfl
 refine m_ (h:=x_ (h:=x_ (h:=Aa (h:=s_ (h:=a_ (h:=e_ (w_ (m_ (h:=m_ (h:=?_))))))))))
 refine At true rfl rfl (fun hb1=>?_) (fun hb1=>?_)
 ·have hc1:=bp hb1
  refine f_ (h:=l_ (h:=AW (h:=AZ (h:=a_ (h:=e_ (A4 (?_)))))))
  refine AD ?_
  first|(exfalso;first|contradiction|omega)|(exact vb (by simp[FP, *]))
 have hc1:=bp hb1
 refine A3 (h:=A3 (h:=A3 (h:=Ai (h:=a_ (h:=e_ (A4 (?_)))))))
 refine AD ?_
 first|(exfalso;first|contradiction|omega)|(exact vb (by simp[FP, *]))
theorem NT(s:Spc)(a:A7)(hs:SpcB s):AFn Tryz.prog 58 [.agg (Ar s), .agg (AA a)] (fun r=>r= .v (.bool (Fr s a))):=by
 refine enter Tryz.func58 rfl rfl rfl rfl rfl 0 rfl ?_
 refine w_ (b_ (h:=b_ (h:=a_ (h:=e_ (w_ (l_ (h:=l_ (h:=?_))))))))
 refine A6 rfl (AJ (UV s a hs) ?_)
 rintro r rfl
 refine m_ (h:=?_)
 refine At true rfl rfl (fun hb1=>?_) (fun hb1=>?_)
 ·have hc1:=bp hb1
  refine l_ (h:=f_ (h:=l_ (h:=?_)))
  refine Ay (AJ (RV s a.1 hs) ?_)
  rintro r rfl
  refine AZ (h:=a_ (h:=e_ (A4 (?_))))
  refine AD ?_
  first|(exfalso;first|contradiction|omega)|(exact vb (by simp[Fr, *]))
 have hc1:=bp hb1
 refine A3 (h:=A3 (h:=A3 (h:=A3 (h:=Ai (h:=a_ (h:=e_ (A4 (?_))))))))
 refine AD ?_
 first|(exfalso;first|contradiction|omega)|(exact vb (by simp[Fr, *]))
theorem QE(s:Spc)(a:A7)(name:AB)(hs:SpcB s):AFn Tryz.prog 53 [.agg (Ar s), .agg (AA a), .v (.string name)] (fun r=>r= .agg (AA (AG s.files a name).1)):=by
 refine enter Tryz.func53 rfl rfl rfl rfl rfl 0 rfl ?_
 refine w_ (b_ (h:=b_ (h:=Aa (h:=e_ (w_ (f_ (h:=l_ (h:=l_ (h:=m_ (h:=?_))))))))))
 refine A6 rfl (AJ (Q4 s.files a name hs.files) ?_)
 rintro r rfl
 refine m_ (h:=x_ (h:=x_ (h:=Aa (h:=s_ (h:=a_ (h:=e_ (q_ (w_ (m_ (h:=BS (h:=e_ (?_))))))))))))
 refine A9 rfl (fun hb1=>?_) (fun hb1=>?_)
 ·have hc1:=bp hb1
  refine w_ (AU (h:=s_ (h:=e_ (A4 (A8 (?_))))))
  refine AD ?_
  rw[eD (by simpa using hc1)]
  rfl
 have hc1:=bp hb1
 refine AM (w_ (l_ (h:=s_ (h:=e_ (A4 (?_))))))
 refine AD ?_
 rfl
theorem QF(w:Wch)(hk:w.kind=1∨w.kind=2):AFn Tryz.prog 59 [.agg (DD w)] (fun r=>r= .agg (AA (Cy w))):=by
 refine enter Tryz.func59 rfl rfl rfl rfl rfl 0 rfl ?_
 refine w_ (b_ (h:=Aa (h:=e_ (q_ (w_ (f_ (h:=l_ (h:=AW (h:=e_ (?_))))))))))
 refine A9 rfl (fun hb1=>?_) (fun hb1=>?_)
 ·have hc1:=bp hb1
  refine w_ (f_ (h:=l_ (h:=s_ (h:=e_ (A4 (A8 (?_)))))))
  refine AD ?_
  rw[Cy,if_neg (by omega)]
  rfl
 have hc1:=bp hb1
 refine AM (w_ (f_ (h:=l_ (h:=s_ (h:=e_ (A4 (?_)))))))
 refine AD ?_
 rw[Cy,if_pos (by omega)]
 rfl
theorem eG(s:Spc)(k:Int)(p:AB)(hv:SpcV s)(hm:s.mounts.length≤1000)(hp:p.size≤50000):AFn Tryz.prog 18 [.agg (Ar s), .v (.int .i64 k), .v (.string p)] (fun r=>r=QC (Fs s k p)):=by
 have hsb:=hv.b hm
 obtain⟨F,hF⟩:∃F,BE s (0,0) p (decide (k=2))=F:=⟨_,rfl⟩
 have hw:=UT s k p F hF
 have hfind:AFn Tryz.prog 56 [.agg (Ar s), .agg (AA (0,0)), .v (.string p), .v (.bool (decide (k=2)))] (fun r=>r= .tup [.agg (As F.1), .v (.int .i64 F.2)]):=by rw[←hF];exact U9 s (0,0) p _ (hv.n hm) hv (by omega)
 refine enter Tryz.func18 rfl rfl rfl rfl rfl 0 rfl ?_
 refine w_ (b_ (h:=Aa (h:=a_ (h:=e_ (q_ (?_))))))
 refine BG (fun S=>S=⟨look [(1, .v (.int .i64 k)),(2, .v (.string p)),(3, .bp 0 0),(6, .bp 1 0),(22, .v (.bool ((!decide (k=1)&& !decide (k=2))|| !DH p.data.toList)))],⟨[Ar s,[.v (.int .i64 0), .v (.int .i64 0), .v (.int .i64 0), .v (.string ⟨#[]⟩), .v (.int .i64 0), .v (.int .i64 0)]],[]⟩⟩) ?_ ?_
 ·skip
  refine AQ (m_ (h:=BS (h:=m_ (h:=?_))))
  refine At true rfl rfl (fun hb1=>?_) (fun hb1=>?_)
  ·have hc1:=bp hb1
   refine m_ (h:=BS (h:=AZ (h:=m_ (h:=?_))))
   refine At false rfl rfl (fun hb2=>?_) (fun hb2=>?_)
   ·have hc2:=bp hb2
    refine A3 (h:=A3 (h:=A3 (h:=AZ (h:=AP (?_)))))
    refine AF ?_
    exact⟨_,rfl,Cl 2 0 rfl⟩
   have hc2:=bp hb2
   refine m_ (h:=?_)
   refine Ay (AJ (TG p hp) ?_)
   rintro r rfl
   refine BR (h:=Ai (h:=AP (?_)))
   refine AF ?_
   exact⟨_,rfl,Cl 2 0 rfl⟩
  have hc1:=bp hb1
  refine A3 (h:=A3 (h:=Ai (h:=m_ (h:=m_ (h:=?_)))))
  refine Ay (AJ (TG p hp) ?_)
  rintro r rfl
  refine BR (h:=Ai (h:=AP (?_)))
  refine AF ?_
  exact⟨_,rfl,Cl 2 0 rfl⟩
 rintro S rfl
 refine A9 rfl (fun hb3=>?_) (fun hb3=>?_)
 ·have hc3:=bp hb3
  have k1:(k≠1∧k≠2)∨DH p.data.toList=false:=by simpa using hc3
  refine w_ (AU (h:=s_ (h:=a_ (h:=e_ (A4 (A8 (?_)))))))
  refine AD ?_
  rw[hw,if_pos k1]
  rfl
 have hc3:=bp hb3
 have k1:¬((k≠1∧k≠2)∨DH p.data.toList=false):=by simpa using hc3
 refine AM (w_ (l_ (h:=AU (h:=m_ (h:=m_ (h:=AW (h:=?_)))))))
 refine A6 rfl (AJ (hfind) ?_)
 rintro r rfl
 refine m_ (h:=x_ (h:=x_ (h:=Aa (h:=s_ (h:=a_ (h:=e_ (q_ (w_ (m_ (h:=BS (h:=e_ (?_))))))))))))
 refine A9 rfl (fun hb4=>?_) (fun hb4=>?_)
 ·have hc4:=bp hb4
  have k2:F.2≠0:=by simpa using hc4
  refine w_ (AU (h:=m_ (h:=s_ (h:=a_ (h:=e_ (A4 (A8 (?_))))))))
  refine AD ?_
  rw[hw,if_neg k1,if_pos k2]
  rfl
 have hc4:=bp hb4
 have k2:¬F.2≠0:=by simpa using hc4
 refine AM (q_ (w_ (m_ (h:=AW (h:=e_ (?_))))))
 refine A9 rfl (fun hb5=>?_) (fun hb5=>?_)
 ·have hc5:=bp hb5
  have k3:k=2:=hc5
  refine q_ (w_ (f_ (h:=l_ (h:=BR (h:=e_ (?_))))))
  refine A9 rfl (fun hb6=>?_) (fun hb6=>?_)
  ·have hc6:=bp hb6
   have k4:F.1.ex=false:=by simpa using hc6
   refine w_ (AU (h:=s_ (h:=a_ (h:=e_ (A4 (A8 (A8 (?_))))))))
   refine AD ?_
   rw[hw,if_neg k1,if_neg k2,if_pos k3,if_pos k4]
   rfl
  have hc6:=bp hb6
  have k4:¬F.1.ex=false:=by simpa using hc6
  refine AM (q_ (w_ (f_ (h:=l_ (h:=f_ (h:=l_ (h:=?_)))))))
  refine A6 rfl (AJ (Fi s.files F.1.file hsb.files) ?_)
  rintro r rfl
  refine BR (h:=e_ (?_))
  refine A9 rfl (fun hb7=>?_) (fun hb7=>?_)
  ·have hc7:=bp hb7
   have k5:Ab s.files F.1.file=false:=by simpa using hc7
   refine w_ (AU (h:=s_ (h:=a_ (h:=e_ (A4 (A8 (A8 (?_))))))))
   refine AD ?_
   rw[hw,if_neg k1,if_neg k2,if_pos k3,if_neg k4,if_pos k5]
   rfl
  have hc7:=bp hb7
  have k5:¬Ab s.files F.1.file=false:=by simpa using hc7
  refine AM (w_ (m_ (h:=f_ (h:=l_ (h:=AU (h:=s_ (h:=a_ (h:=e_ (A4 (A8 (?_)))))))))))
  refine AD ?_
  rw[hw,if_neg k1,if_neg k2,if_pos k3,if_neg k4,if_neg k5]
  rfl
 have hc5:=bp hb5
 have k3:¬k=2:=hc5
 refine AM (q_ (w_ (f_ (h:=l_ (h:=AW (h:=e_ (?_)))))))
 refine A9 rfl (fun hb8=>?_) (fun hb8=>?_)
 ·have hc8:=bp hb8
  have k6:F.1.name=⟨#[]⟩:=hc8
  refine w_ (AU (h:=s_ (h:=a_ (h:=e_ (A4 (A8 (?_)))))))
  refine AD ?_
  rw[hw,if_neg k1,if_neg k2,if_neg k3,if_pos k6]
  rfl
 have hc8:=bp hb8
 have k6:¬F.1.name=⟨#[]⟩:=hc8
 refine AM (w_ (f_ (h:=l_ (h:=f_ (h:=l_ (h:=f_ (h:=l_ (h:=?_))))))))
 refine A6 rfl (AJ (G7 s.files F.1.dir F.1.name hsb.files) ?_)
 rintro r rfl
 refine m_ (h:=x_ (h:=x_ (h:=Aa (h:=s_ (h:=a_ (h:=e_ (w_ (m_ (h:=f_ (h:=l_ (h:=f_ (h:=l_ (h:=l_ (h:=AU (h:=s_ (h:=a_ (h:=e_ (A4 (?_)))))))))))))))))))
 refine AD ?_
 rw[hw,if_neg k1,if_neg k2,if_neg k3,if_neg k6]
 rfl
theorem UW(s:Spc)(k:Int)(p:AB)(hv:SpcV s)(hm:s.mounts.length≤1000)(hp:p.size≤50000):AFn Tryz.prog 17 [.agg (Ar s), .v (.int .i64 k), .v (.string p)] (fun r=>r=QC (Fs s k p)):=by
 have hsb:=hv.b hm
 obtain⟨F,hF⟩:∃F,BE s (0,0) p (decide (k=2))=F:=⟨_,rfl⟩
 have hw:=UT s k p F hF
 have hfind:AFn Tryz.prog 52 [.agg (Ar s), .agg (AA (0,0)), .v (.string p), .v (.bool (decide (k=2)))] (fun r=>r= .tup [.agg (As F.1), .v (.int .i64 F.2)]):=by rw[←hF];exact cA s (0,0) p _ (hv.n hm) hv (by omega)
 refine enter Tryz.func17 rfl rfl rfl rfl rfl 0 rfl ?_
 refine w_ (b_ (h:=Aa (h:=a_ (h:=e_ (q_ (?_))))))
 refine BG (fun S=>S=⟨look [(1, .v (.int .i64 k)),(2, .v (.string p)),(3, .bp 0 0),(6, .bp 1 0),(20, .v (.bool ((!decide (k=1)&& !decide (k=2))|| !DH p.data.toList)))],⟨[Ar s,[.v (.int .i64 0), .v (.int .i64 0), .v (.int .i64 0), .v (.string ⟨#[]⟩), .v (.int .i64 0), .v (.int .i64 0)]],[]⟩⟩) ?_ ?_
 ·skip
  refine AQ (m_ (h:=BS (h:=m_ (h:=?_))))
  refine At true rfl rfl (fun hb1=>?_) (fun hb1=>?_)
  ·have hc1:=bp hb1
   refine m_ (h:=BS (h:=AZ (h:=m_ (h:=?_))))
   refine At false rfl rfl (fun hb2=>?_) (fun hb2=>?_)
   ·have hc2:=bp hb2
    refine A3 (h:=A3 (h:=A3 (h:=AZ (h:=AP (?_)))))
    refine AF ?_
    exact⟨_,rfl,Cl 2 0 rfl⟩
   have hc2:=bp hb2
   refine m_ (h:=?_)
   refine Ay (AJ (UU p (by omega)) ?_)
   rintro r rfl
   refine BR (h:=Ai (h:=AP (?_)))
   refine AF ?_
   exact⟨_,rfl,Cl 2 0 rfl⟩
  have hc1:=bp hb1
  refine A3 (h:=A3 (h:=Ai (h:=m_ (h:=m_ (h:=?_)))))
  refine Ay (AJ (UU p (by omega)) ?_)
  rintro r rfl
  refine BR (h:=Ai (h:=AP (?_)))
  refine AF ?_
  exact⟨_,rfl,Cl 2 0 rfl⟩
 rintro S rfl
 refine A9 rfl (fun hb3=>?_) (fun hb3=>?_)
 ·have hc3:=bp hb3
  have k1:(k≠1∧k≠2)∨DH p.data.toList=false:=by simpa using hc3
  refine w_ (AU (h:=s_ (h:=a_ (h:=e_ (A4 (A8 (?_)))))))
  refine AD ?_
  rw[hw,if_pos k1]
  rfl
 have hc3:=bp hb3
 have k1:¬((k≠1∧k≠2)∨DH p.data.toList=false):=by simpa using hc3
 refine AM (w_ (l_ (h:=AU (h:=m_ (h:=m_ (h:=AW (h:=?_)))))))
 refine A6 rfl (AJ (hfind) ?_)
 rintro r rfl
 refine m_ (h:=x_ (h:=x_ (h:=Aa (h:=s_ (h:=a_ (h:=e_ (q_ (w_ (m_ (h:=BS (h:=e_ (?_))))))))))))
 refine A9 rfl (fun hb4=>?_) (fun hb4=>?_)
 ·have hc4:=bp hb4
  have k2:F.2≠0:=by simpa using hc4
  refine w_ (AU (h:=m_ (h:=s_ (h:=a_ (h:=e_ (A4 (A8 (?_))))))))
  refine AD ?_
  rw[hw,if_neg k1,if_pos k2]
  rfl
 have hc4:=bp hb4
 have k2:¬F.2≠0:=by simpa using hc4
 refine AM (q_ (w_ (m_ (h:=AW (h:=e_ (?_))))))
 refine A9 rfl (fun hb5=>?_) (fun hb5=>?_)
 ·have hc5:=bp hb5
  have k3:¬k=2:=by omega
  refine q_ (w_ (f_ (h:=l_ (h:=AW (h:=e_ (?_))))))
  refine A9 rfl (fun hb6=>?_) (fun hb6=>?_)
  ·have hc6:=bp hb6
   have k6:F.1.name=⟨#[]⟩:=hc6
   refine w_ (AU (h:=s_ (h:=a_ (h:=e_ (A4 (A8 (A8 (?_))))))))
   refine AD ?_
   rw[hw,if_neg k1,if_neg k2,if_neg k3,if_pos k6]
   rfl
  have hc6:=bp hb6
  have k6:¬F.1.name=⟨#[]⟩:=hc6
  refine AM (q_ (BQ ([(0,Ar s),(2,As F.1)]) 14 (h:=AN 0 (h:=AK 1 (h:=?_)))))
  refine AE 2 (h:=?_)
  refine AK 3 (h:=?_)
  refine AE 4 (h:=?_)
  refine AE 5 (h:=?_)
  refine AK 6 (h:=?_)
  refine AE 7 (h:=?_)
  refine AK 8 (h:=?_)
  refine AE 9 (h:=?_)
  refine c_ 10 rfl (AJ (QE s F.1.dir F.1.name hsb) ?_)
  rintro r rfl
  refine o_ (h:=Ff 11 (h:=?_))
  refine Az 12 rfl (Ax rfl rfl rfl rfl rfl rfl (by repeat constructor) (by repeat constructor) ?_)
  refine o_ (h:=B2 13 (h:=z_ (h:=t_ (A4 (A8 (?_))))))
  refine AD ?_
  rw[hw,if_neg k1,if_neg k2,if_neg k3,if_neg k6]
  rfl
 have hc5:=bp hb5
 have k3:k=2:=by simp at k1;omega
 refine AM (q_ (w_ (f_ (h:=l_ (h:=BR (h:=e_ (?_)))))))
 refine A9 rfl (fun hb7=>?_) (fun hb7=>?_)
 ·have hc7:=bp hb7
  have k4:F.1.ex=false:=by simpa using hc7
  refine w_ (AU (h:=s_ (h:=a_ (h:=e_ (A4 (A8 (?_)))))))
  refine AD ?_
  rw[hw,if_neg k1,if_neg k2,if_pos k3,if_pos k4]
  rfl
 have hc7:=bp hb7
 have k4:¬F.1.ex=false:=by simpa using hc7
 refine AM (q_ (w_ (l_ (h:=f_ (h:=l_ (h:=?_))))))
 refine A6 rfl (AJ (UV s F.1.file hsb) ?_)
 rintro r rfl
 refine BR (h:=e_ (?_))
 refine A9 rfl (fun hb8=>?_) (fun hb8=>?_)
 ·have hc8:=bp hb8
  have k5:Ab s.files F.1.file=false:=by simpa using hc8
  refine w_ (AU (h:=s_ (h:=a_ (h:=e_ (A4 (A8 (?_)))))))
  refine AD ?_
  rw[hw,if_neg k1,if_neg k2,if_pos k3,if_neg k4,if_pos k5]
  rfl
 have hc8:=bp hb8
 have k5:¬Ab s.files F.1.file=false:=by simpa using hc8
 refine AM (w_ (m_ (h:=f_ (h:=l_ (h:=AU (h:=s_ (h:=a_ (h:=e_ (A4 (?_))))))))))
 refine AD ?_
 rw[hw,if_neg k1,if_neg k2,if_pos k3,if_neg k4,if_neg k5]
 rfl
theorem eH(s:Spc)(w:Wch)(hs:SpcB s):AFn Tryz.prog 19 [.agg (Ar s), .agg (DD w)] (fun r=>r= .v (.bool (E6 s w))):=by
 refine enter Tryz.func19 rfl rfl rfl rfl rfl 0 rfl ?_
 refine w_ (b_ (h:=b_ (h:=a_ (h:=e_ (q_ (w_ (f_ (h:=l_ (h:=e_ (Ao (w_ (AW (h:=a_ (h:=e_ (?_)))))))))))))))
 refine A9 rfl (fun hb1=>?_) (fun hb1=>?_)
 ·have hc1:=bp hb1
  refine q_ (DM 21 (h:=AK 0 (h:=AE 1 (h:=?_))))
  refine c_ 2 rfl (AJ (Tp w.name) ?_)
  rintro r rfl
  refine o_ (h:=AN 3 (h:=?_))
  refine Fx (j:=3) rfl (fun hb2=>?_) (fun hb2=>?_)
  ·have hc2:=bp hb2
   refine AE 4 (h:=AK 5 (h:=AE 6 (h:=?_)))
   refine c_ 7 rfl (AJ (NT s w.dir hs) ?_)
   rintro r rfl
   refine o_ (h:=G4 8 (h:=AN 9 (h:=?_)))
   refine Fx (j:=9) rfl (fun hb3=>?_) (fun hb3=>?_)
   ·have hc3:=bp hb3
    refine AK 10 (h:=AE 11 (h:=AE 12 (h:=AK 13 (h:=AE 14 (h:=AK 15 (h:=AE 16 (h:=?_)))))))
    refine c_ 17 rfl (AJ (QE s w.dir w.name hs) ?_)
    rintro r rfl
    refine o_ (h:=?_)
    refine Ed (i:=18) rfl (Eb rfl rfl (by repeat constructor) (by repeat constructor) (fun W=>Ll w.file (AG s.files w.dir w.name).1 W) (by kernel_rfl) ⟨rfl,rfl⟩) ?_
    refine G4 19 (h:=B2 20 (h:=z_ (h:=t_ (A4 (Af (A8 (?_)))))))
    refine AD ?_
    first|(exfalso;first|contradiction|omega)|(exact vb (by first|(simp[E6, *];done)|(simp[E6, *,eq_comm];done)))
   have hc3:=bp hb3
   refine B6 10 (h:=B6 11 (h:=B6 12 (h:=B6 13 (h:=B6 14 (h:=B6 15 (h:=B6 16 (h:=B6 17 (h:=B6 18 (h:=EW 19 (h:=B2 20 (h:=z_ (h:=t_ (A4 (Af (A8 (?_))))))))))))))))
   refine AD ?_
   first|(exfalso;first|contradiction|omega)|(exact vb (by first|(simp[E6, *];done)|(simp[E6, *,eq_comm];done)))
  have hc2:=bp hb2
  refine B6 4 (h:=B6 5 (h:=B6 6 (h:=B6 7 (h:=EW 8 (h:=AN 9 (h:=B6 10 (h:=B6 11 (h:=B6 12 (h:=B6 13 (h:=B6 14 (h:=B6 15 (h:=B6 16 (h:=B6 17 (h:=B6 18 (h:=EW 19 (h:=B2 20 (h:=z_ (h:=t_ (A4 (Af (A8 (?_))))))))))))))))))))))
  refine AD ?_
  first|(exfalso;first|contradiction|omega)|(exact vb (by first|(simp[E6, *];done)|(simp[E6, *,eq_comm];done)))
 have hc1:=bp hb1
 refine w_ (AW (h:=a_ (h:=e_ (?_))))
 refine A9 rfl (fun hb4=>?_) (fun hb4=>?_)
 ·have hc4:=bp hb4
  refine w_ (f_ (h:=l_ (h:=AU (h:=?_))))
  refine A6 rfl (Eb rfl rfl (by repeat constructor) (by repeat constructor) (fun W=>Ll w.dir (0,0) W) (by kernel_rfl) ?_)
  refine m_ (h:=?_)
  refine At true rfl rfl (fun hb5=>?_) (fun hb5=>?_)
  ·have hc5:=bp hb5
   refine f_ (h:=l_ (h:=AW (h:=AZ (h:=m_ (h:=?_)))))
   refine At true rfl rfl (fun hb6=>?_) (fun hb6=>?_)
   ·have hc6:=bp hb6
    refine l_ (h:=f_ (h:=l_ (h:=?_)))
    refine Ay (AJ (NT s w.file hs) ?_)
    rintro r rfl
    refine AZ (h:=a_ (h:=e_ (A4 (Af (A8 (?_))))))
    refine AD ?_
    first|(exfalso;first|contradiction|omega)|(exact vb (by first|(simp[E6, *];done)|(simp[E6, *,eq_comm];done)))
   have hc6:=bp hb6
   refine A3 (h:=A3 (h:=A3 (h:=A3 (h:=Ai (h:=a_ (h:=e_ (A4 (Af (A8 (?_))))))))))
   refine AD ?_
   first|(exfalso;first|contradiction|omega)|(exact vb (by first|(simp[E6, *];done)|(simp[E6, *,eq_comm];done)))
  have hc5:=bp hb5
  refine A3 (h:=A3 (h:=A3 (h:=Ai (h:=m_ (h:=A3 (h:=A3 (h:=A3 (h:=A3 (h:=Ai (h:=a_ (h:=e_ (A4 (Af (A8 (?_)))))))))))))))
  refine AD ?_
  first|(exfalso;first|contradiction|omega)|(exact vb (by first|(simp[E6, *];done)|(simp[E6, *,eq_comm];done)))
 have hc4:=bp hb4
 refine B4 (Aw (t_ (w_ (a_ (h:=e_ (A4 (?_)))))))
 refine AD ?_
 first|(exfalso;first|contradiction|omega)|(exact vb (by first|(simp[E6, *];done)|(simp[E6, *,eq_comm];done)))
end
def Ho:List AV:=[.v (.int .i64 0), .v (.int .i64 0), .v (.int .i64 0), .v (.string ⟨#[]⟩), .v (.int .i64 0), .v (.int .i64 0)]
theorem UX{α:Type}{l:List α}{j:Nat}{x:α}(h:l[j]?=some x)(p:α→Bool):(l.take (j+1)).any p=((l.take j).any p||p x):=by
 rw[List.take_add_one,h,List.any_append]
 simp
def JP(w:Wch)(l:List DG):A7:=l.foldl (fun a c=>if c.1=w.dir∧c.2.1=w.name then c.2.2.2 else a) w.file
theorem UY{w:Wch}{l:List DG}{j:Nat}{c:DG}(h:l[j]?=some c):JP w (l.take (j+1))=if(decide (c.1=w.dir)&&decide (c.2.1=w.name))=true then c.2.2.2 else JP w (l.take j):=by
 unfold JP
 rw[List.take_add_one,h,List.foldl_append]
 simp
def Lm(w:Wch)(l:List DG):A7:=if w.kind=1 then JP w l else w.file
theorem eJ(w:Wch)(l:List DG):QA w l={w with file:=Lm w l}:=by
 unfold QA Lm JP
 split<;>rfl
def GL(w:Wch)(g:Int):Bool:=(!decide (w.kind=1)&& !decide (w.kind=2))||(!decide (g=0)&&decide (g=(Cy w).1))
def Ft(w:Wch)(l:List DG):Bool:=l.any fun c=>decide (c.2.2.1=Cy w)
def Fu(w:Wch)(l:List DG):Bool:=l.any fun c=>decide (c.2.2.2=Cy w)
theorem UZ{w:Wch}{l:List DG}{j:Nat}{c:DG}(h:l[j]?=some c):Ft w (l.take (j+1))=(Ft w (l.take j)||decide (c.2.2.1=Cy w)):=UX h _
theorem Ua{w:Wch}{l:List DG}{j:Nat}{c:DG}(h:l[j]?=some c):Fu w (l.take (j+1))=(Fu w (l.take j)||decide (c.2.2.2=Cy w)):=UX h _
theorem eK(w:Wch)(g:Int)(l:List DG):NR w g l=if(GL w g||(Ft w l&& !Fu w l))=true then(FD,false)else({w with file:=Lm w l},true):=by
 rw[←eJ]
 unfold NR
 have:((w.kind≠1∧w.kind≠2)∨(g≠0∧g=(Cy w).1)∨((l.any fun c=>decide (c.2.2.1=Cy w))=true∧(l.any fun c=>decide (c.2.2.2=Cy w))=false))↔(GL w g||(Ft w l&& !Fu w l))=true:=by
  unfold GL Ft Fu
  simp[or_assoc]
 by_cases h:(GL w g||(Ft w l&& !Fu w l))=true
 ·rw[if_pos h,if_pos (this.2 h)]
 rw[if_neg h,if_neg (fun k=>h (this.1 k))]
section
theorem eL(s:Spc)(w:Wch)(hs:SpcB s):AFn Tryz.prog 24 [.agg (Ar s), .agg (DD w)] (fun r=>r=QD (KC s w)):=by
 refine enter Tryz.func24 rfl rfl rfl rfl rfl 0 rfl ?_
 refine w_ (b_ (h:=b_ (h:=Aa (h:=a_ (h:=e_ (q_ (?_)))))))
 refine BG (fun S=>S=⟨look [(2, .bp 0 0),(3, .bp 1 0),(4, .bp 2 0),(20, .v (.bool ((!decide (w.kind=1)&& !decide (w.kind=2))|| !Fr s (Cy w))))],⟨[Ar s,DD w,Ho],[]⟩⟩) ?_ ?_
 ·skip
  refine DM 15 (h:=AK 0 (h:=AE 1 (h:=MX 2 (h:=AN 3 (h:=?_)))))
  refine Fx (j:=3) rfl (fun hb1=>?_) (fun hb1=>?_)
  ·have hc1:=bp hb1
   refine AK 4 (h:=AE 5 (h:=MX 6 (h:=G4 7 (h:=AN 8 (h:=?_)))))
   refine Fx (j:=8) rfl (fun hb2=>?_) (fun hb2=>?_)
   ·have hc2:=bp hb2
    refine B6 9 (h:=B6 10 (h:=B6 11 (h:=B6 12 (h:=B6 13 (h:=G4 14 (h:=z_ (h:=?_)))))))
    refine AF ?_
    exact⟨_,rfl,Cl 3 0 rfl⟩
   have hc2:=bp hb2
   refine AE 9 (h:=AE 10 (h:=?_))
   refine c_ 11 rfl (AJ (QF w (by omega)) ?_)
   rintro r rfl
   refine o_ (h:=?_)
   refine c_ 12 rfl (AJ (NT s (Cy w) hs) ?_)
   rintro r rfl
   refine o_ (h:=OE 13 (h:=EW 14 (h:=z_ (h:=?_))))
   refine AF ?_
   exact⟨_,rfl,Cl 3 0 rfl⟩
  have hc1:=bp hb1
  refine B6 4 (h:=B6 5 (h:=B6 6 (h:=EW 7 (h:=AN 8 (h:=AE 9 (h:=AE 10 (h:=?_)))))))
  refine c_ 11 rfl (AJ (QF w (by omega)) ?_)
  rintro r rfl
  refine o_ (h:=?_)
  refine c_ 12 rfl (AJ (NT s (Cy w) hs) ?_)
  rintro r rfl
  refine o_ (h:=OE 13 (h:=EW 14 (h:=z_ (h:=?_))))
  refine AF ?_
  exact⟨_,rfl,Cl 3 0 rfl⟩
 rintro S rfl
 refine A9 rfl (fun hb3=>?_) (fun hb3=>?_)
 ·have hc3:=bp hb3
  have k1:(w.kind≠1∧w.kind≠2)∨Fr s (Cy w)=false:=by simpa using hc3
  refine w_ (AU (h:=s_ (h:=a_ (h:=e_ (A4 (A8 (?_)))))))
  refine AD ?_
  rw[KC,if_pos k1]
  rfl
 have hc3:=bp hb3
 have k1:¬((w.kind≠1∧w.kind≠2)∨Fr s (Cy w)=false):=by simpa using hc3
 refine AM (q_ (w_ (f_ (h:=l_ (h:=AW (h:=e_ (?_)))))))
 refine A9 rfl (fun hb4=>?_) (fun hb4=>?_)
 ·have hc4:=bp hb4
  have k2:w.kind=1:=hc4
  refine AQ (l_ (h:=f_ (h:=l_ (h:=f_ (h:=l_ (h:=?_))))))
  refine A6 rfl (AJ (QE s w.dir w.name hs) ?_)
  rintro r rfl
  refine f_ (h:=s_ (h:=e_ (w_ (l_ (h:=s_ (h:=a_ (h:=e_ (A4 (?_)))))))))
  refine AD ?_
  rw[KC,if_neg k1,if_pos k2]
  rfl
 have hc4:=bp hb4
 have k2:¬w.kind=1:=hc4
 refine AM (w_ (l_ (h:=s_ (h:=a_ (h:=e_ (A4 (?_)))))))
 refine AD ?_
 rw[KC,if_neg k1,if_neg k2]
 rfl
theorem eM(w:Wch)(r:Res)(hl:r.changes.length≤1000):AFn Tryz.prog 33 [.agg (DD w), .agg (EY r)] (fun x=>x=QD (NR w r.gone r.changes)):=by
 rw[eK]
 refine enter Tryz.func33 rfl rfl rfl rfl rfl 0 rfl ?_
 refine w_ (b_ (h:=b_ (h:=Aa (h:=a_ (h:=e_ (q_ (?_)))))))
 refine BG (fun S=>S=⟨look [(2, .bp 0 0),(3, .bp 1 0),(4, .bp 2 0),(20, .v (.bool (!decide (w.kind=1)&& !decide (w.kind=2))))],⟨[DD w,EY r,Ho],[]⟩⟩) ?_ ?_
 ·skip
  refine AQ (f_ (h:=l_ (h:=BS (h:=m_ (h:=?_)))))
  refine At true rfl rfl (fun hb1=>?_) (fun hb1=>?_)
  ·have hc1:=bp hb1
   refine f_ (h:=l_ (h:=BS (h:=AZ (h:=AP (?_)))))
   refine AF ?_
   exact⟨_,rfl,Cl 3 0 rfl⟩
  have hc1:=bp hb1
  refine A3 (h:=A3 (h:=A3 (h:=Ai (h:=AP (?_)))))
  refine AF ?_
  exact⟨_,rfl,Cl 3 0 rfl⟩
 rintro S rfl
 refine A9 rfl (fun hb2=>?_) (fun hb2=>?_)
 ·have hc2:=bp hb2
  have k1:(GL w r.gone||(Ft w r.changes&& !Fu w r.changes))=true:=by simp[GL]at hc2 ⊢;simp[hc2]
  refine w_ (AU (h:=s_ (h:=a_ (h:=e_ (A4 (A8 (?_)))))))
  refine AD ?_
  rw[if_pos k1]
  rfl
 have hc2:=bp hb2
 have k0:w.kind=1∨w.kind=2:=by simp at hc2;omega
 refine AM (w_ (l_ (h:=?_)))
 refine A6 rfl (AJ (QF w k0) ?_)
 rintro r rfl
 refine Aa (h:=s_ (h:=e_ (q_ (?_))))
 refine BG (fun S=>S=⟨look [(2, .bp 0 0),(3, .bp 1 0),(4, .bp 2 0),(6, .bp 3 0),(33, .v (.bool (!decide (r.gone=0)&&decide (r.gone=(Cy w).1))))],⟨[DD w,EY r,Ho,AA (Cy w)],[]⟩⟩) ?_ ?_
 ·skip
  refine AQ (f_ (h:=l_ (h:=BS (h:=m_ (h:=?_)))))
  refine At true rfl rfl (fun hb3=>?_) (fun hb3=>?_)
  ·have hc3:=bp hb3
   refine f_ (h:=l_ (h:=f_ (h:=l_ (h:=AW (h:=AZ (h:=AP (?_)))))))
   refine AF ?_
   exact⟨_,rfl,Cl 4 0 rfl⟩
  have hc3:=bp hb3
  refine A3 (h:=A3 (h:=A3 (h:=A3 (h:=A3 (h:=Ai (h:=AP (?_)))))))
  refine AF ?_
  exact⟨_,rfl,Cl 4 0 rfl⟩
 rintro S rfl
 refine A9 rfl (fun hb4=>?_) (fun hb4=>?_)
 ·have hc4:=bp hb4
  have k1:(GL w r.gone||(Ft w r.changes&& !Fu w r.changes))=true:=by unfold GL;rw[hb4];simp
  refine w_ (AU (h:=s_ (h:=a_ (h:=e_ (A4 (A8 (?_)))))))
  refine AD ?_
  rw[if_pos k1]
  rfl
 have hc4:=bp hb4
 have k1:GL w r.gone=false:=by unfold GL;rw[hb4];rcases k0 with h|h<;>simp[h]
 refine AM (w_ (a_ (h:=a_ (h:=e_ (q_ (w_ (f_ (h:=l_ (h:=n_ (h:=m_ (h:=e_ (Ao (?_)))))))))))))
 refine Bh (fun m S=>∃j:Nat,j≤r.changes.length∧m=r.changes.length - j∧S=⟨look [(2, .bp 0 0),(3, .bp 1 0),(4, .bp 2 0),(6, .bp 3 0),(7, .v (.bool (Ft w (r.changes.take j)))),(8, .v (.bool (Fu w (r.changes.take j)))),(36, .sl 7 (r.changes.map C0) none),(37, .v (.int .i64 ((r.changes.map C0).length:Int))),(38, .v (.int .i64 (j:Int)))],⟨[DD w,EY r,Ho,AA (Cy w)],[]⟩⟩) (r.changes.length) ((wk 4 0)) (⟨0,Nat.zero_le _,rfl,rfl⟩) ?_
 rintro m S ⟨j,hj,rfl,rfl⟩
 refine w_ (BJ (h:=e_ (q_ (?_))))
 refine A9 rfl (fun hb5=>?_) (fun hb5=>?_)
 ·have hc5:=bp hb5
  obtain⟨hlt,c,hy,hrow, -⟩:=CY C0 hc5
  refine AM (q_ (Ao (w_ (i_ (h:=l_ (h:=Aa (h:=s_ (h:=e_ (?_)))))))))
  refine BG (fun S=>S=⟨look [(2, .bp 0 0),(3, .bp 1 0),(4, .bp 2 0),(6, .bp 3 0),(7, .v (.bool (Ft w (r.changes.take j)||decide (c.2.2.1=Cy w)))),(8, .v (.bool (Fu w (r.changes.take j)))),(10, .bp 4 0),(36, .sl 7 (r.changes.map C0) none),(37, .v (.int .i64 ((r.changes.map C0).length:Int))),(38, .v (.int .i64 (j:Int)))],⟨[DD w,EY r,Ho,AA (Cy w),C0 c],[]⟩⟩) ?_ ?_
  ·skip
   refine AQ (m_ (h:=m_ (h:=?_)))
   refine At false rfl rfl (fun hb6=>?_) (fun hb6=>?_)
   ·have hc6:=bp hb6
    refine A3 (h:=A3 (h:=A3 (h:=A3 (h:=AZ (h:=a_ (h:=AP (?_)))))))
    refine AF ?_
    exact⟨_,rfl,Cl 5 0 rfl⟩
   have hc6:=bp hb6
   refine f_ (h:=l_ (h:=l_ (h:=?_)))
   refine Ay (Eb rfl rfl (by repeat constructor) (by repeat constructor) (fun W=>Ll c.2.2.1 (Cy w) W) (by kernel_rfl) ?_)
   refine Ai (h:=a_ (h:=AP (?_)))
   refine AF ?_
   exact⟨_,rfl,Cl 5 0 rfl⟩
  rintro S rfl
  refine AQ (m_ (h:=m_ (h:=?_)))
  refine At false rfl rfl (fun hb7=>?_) (fun hb7=>?_)
  ·have hc7:=bp hb7
   refine A3 (h:=A3 (h:=A3 (h:=A3 (h:=AZ (h:=a_ (h:=AP (Aw (t_ (AQ (B3 (h:=m_ (h:=AP (?_)))))))))))))
   refine AF ?_
   refine⟨_,_,?_,⟨j+1,by omega,rfl,rfl⟩,?_⟩
   ·omega
   rw[UZ hy,Ua hy]
   exact Cl 4 0 rfl
  have hc7:=bp hb7
  refine f_ (h:=l_ (h:=l_ (h:=?_)))
  refine Ay (Eb rfl rfl (by repeat constructor) (by repeat constructor) (fun W=>Ll c.2.2.2 (Cy w) W) (by kernel_rfl) ?_)
  refine Ai (h:=a_ (h:=AP (Aw (t_ (AQ (B3 (h:=m_ (h:=AP (?_)))))))))
  refine AF ?_
  refine⟨_,_,?_,⟨j+1,by omega,rfl,rfl⟩,?_⟩
  ·omega
  rw[UZ hy,Ua hy]
  exact Cl 4 0 rfl
 have hc5:=bp hb5
 have e:=Cn C0 hj hc5
 subst e
 rw[List.take_length]
 refine BM (Al (Al (BN (t_ (q_ (?_))))))
 refine BG (fun S=>S=⟨look [(2, .bp 0 0),(3, .bp 1 0),(4, .bp 2 0),(61, .v (.bool (Ft w r.changes&& !Fu w r.changes)))],⟨[DD w,EY r,Ho],[]⟩⟩) ?_ ?_
 ·skip
  refine AQ (m_ (h:=m_ (h:=?_)))
  refine At true rfl rfl (fun hb8=>?_) (fun hb8=>?_)
  ·have hc8:=bp hb8
   refine m_ (h:=BR (h:=AZ (h:=AP (?_))))
   refine AF ?_
   exact⟨_,rfl,Cl 3 0 rfl⟩
  have hc8:=bp hb8
  refine A3 (h:=A3 (h:=Ai (h:=AP (?_))))
  refine AF ?_
  exact⟨_,rfl,Cl 3 0 rfl⟩
 rintro S rfl
 refine A9 rfl (fun hb9=>?_) (fun hb9=>?_)
 ·have hc9:=bp hb9
  refine w_ (AU (h:=s_ (h:=a_ (h:=e_ (A4 (A8 (?_)))))))
  refine AD ?_
  rw[if_pos (by simp[*])]
  rfl
 have hc9:=bp hb9
 refine AM (q_ (w_ (f_ (h:=l_ (h:=AW (h:=e_ (?_)))))))
 refine A9 rfl (fun hb10=>?_) (fun hb10=>?_)
 ·have hc10:=bp hb10
  have k3:w.kind=1:=hc10
  refine w_ (f_ (h:=l_ (h:=n_ (h:=m_ (h:=e_ (Ao (?_)))))))
  refine Bh (fun m S=>∃j:Nat,j≤r.changes.length∧m=r.changes.length - j∧S=⟨look [(2, .bp 0 0),(3, .bp 1 0),(4, .bp 2 0),(67, .sl 7 (r.changes.map C0) none),(68, .v (.int .i64 ((r.changes.map C0).length:Int))),(69, .v (.int .i64 (j:Int)))],⟨[DD {w with file:=JP w (r.changes.take j)},EY r,Ho],[]⟩⟩) (r.changes.length) ((wk 3 0)) (⟨0,Nat.zero_le _,rfl,rfl⟩) ?_
  rintro m S ⟨j,hj,rfl,rfl⟩
  refine w_ (BJ (h:=e_ (q_ (?_))))
  refine A9 rfl (fun hb11=>?_) (fun hb11=>?_)
  ·have hc11:=bp hb11
   obtain⟨hlt,c,hy,hrow, -⟩:=CY C0 hc11
   refine AM (q_ (Ao (w_ (i_ (h:=l_ (h:=Aa (h:=s_ (h:=e_ (?_)))))))))
   refine BG (fun S=>S=⟨look [(2, .bp 0 0),(3, .bp 1 0),(4, .bp 2 0),(12, .bp 3 0),(67, .sl 7 (r.changes.map C0) none),(68, .v (.int .i64 ((r.changes.map C0).length:Int))),(69, .v (.int .i64 (j:Int))),(84, .v (.bool (decide (c.1=w.dir)&&decide (c.2.1=w.name))))],⟨[DD {w with file:=JP w (r.changes.take j)},EY r,Ho,C0 c],[]⟩⟩) ?_ ?_
   ·skip
    refine AQ (f_ (h:=l_ (h:=f_ (h:=l_ (h:=?_)))))
    refine A6 rfl (Eb rfl rfl (by repeat constructor) (by repeat constructor) (fun W=>Ll c.1 w.dir W) (by kernel_rfl) ?_)
    refine m_ (h:=?_)
    refine At true rfl rfl (fun hb12=>?_) (fun hb12=>?_)
    ·have hc12:=bp hb12
     refine f_ (h:=l_ (h:=f_ (h:=l_ (h:=AW (h:=AZ (h:=AP (?_)))))))
     refine AF ?_
     exact⟨_,rfl,Cl 4 0 rfl⟩
    have hc12:=bp hb12
    refine A3 (h:=A3 (h:=A3 (h:=A3 (h:=A3 (h:=Ai (h:=AP (?_)))))))
    refine AF ?_
    exact⟨_,rfl,Cl 4 0 rfl⟩
   rintro S rfl
   refine A9 rfl (fun hb13=>?_) (fun hb13=>?_)
   ·have hc13:=bp hb13
    refine AQ (f_ (h:=l_ (h:=f_ (h:=s_ (h:=AP (Aw (t_ (AQ (B3 (h:=m_ (h:=AP (?_))))))))))))
    refine AF ?_
    refine⟨_,_,?_,⟨j+1,by omega,rfl,rfl⟩,?_⟩
    ·omega
    rw[UY hy]
    (rw[if_pos ‹(decide (c.1=w.dir)&&decide (c.2.1=w.name))=true›];exact B1 3 0 rfl rfl rfl rfl ((by repeat (first|exact Sub.nil|refine Sub.cons _ _ _ rfl rfl ?_|refine Sub.any _ _ ?_|refine Sub.sl _ _ _ _ _ rfl ?_|refine Sub.slnil _ _ _ rfl ?_))))
   have hc13:=bp hb13
   refine B4 (Aw (t_ (AQ (B3 (h:=m_ (h:=AP (?_)))))))
   refine AF ?_
   refine⟨_,_,?_,⟨j+1,by omega,rfl,rfl⟩,?_⟩
   ·omega
   rw[UY hy]
   first|(rw[if_pos ‹(decide (c.1=w.dir)&&decide (c.2.1=w.name))=true›];exact B1 3 0 rfl rfl rfl rfl ((by repeat (first|exact Sub.nil|refine Sub.cons _ _ _ rfl rfl ?_|refine Sub.any _ _ ?_|refine Sub.sl _ _ _ _ _ rfl ?_|refine Sub.slnil _ _ _ rfl ?_))))|(rw[if_neg (by simp[*])];exact B1 3 0 rfl rfl rfl rfl ((by repeat (first|exact Sub.nil|refine Sub.cons _ _ _ rfl rfl ?_|refine Sub.any _ _ ?_|refine Sub.sl _ _ _ _ _ rfl ?_|refine Sub.slnil _ _ _ rfl ?_))))
  have hc11:=bp hb11
  have e:=Cn C0 hj hc11
  subst e
  rw[List.take_length]
  refine BM (Al (Al (BN (t_ (w_ (l_ (h:=s_ (h:=a_ (h:=e_ (A4 (?_)))))))))))
  refine AD ?_
  rw[if_neg (by simp[*]),Lm,if_pos k3]
  rfl
 have hc10:=bp hb10
 have k3:¬w.kind=1:=hc10
 refine AM (w_ (l_ (h:=s_ (h:=a_ (h:=e_ (A4 (?_)))))))
 refine AD ?_
 rw[if_neg (by simp[*]),Lm,if_neg k3]
 rfl
end
section
theorem eN(l:List Int)(a:Nat)(ha:a≤100000000000):Ex Tryz.prog 15 l a [] 4 (fun r=>∃s:ByteArray,r= .v (.string s)∧s.size≤60):=by
 refine enter Tryz.func15 rfl rfl rfl rfl rfl 1 rfl ?_
 refine w_ (a_ (h:=e_ (w_ (a_ (h:=e_ (q_ (w_ (m_ (h:=Bi (h:=?_))))))))))
 refine A6 rfl (BO 0 (hc:=JH l _ _ (fun z=>decide (1≤z∧z≤3)) (by omega) (by rfl) (by rfl) (by rfl)) (hR:=?_))
 rintro r a1 ha1 ⟨k1,rfl,p1⟩
 refine⟨rfl,_,(by repeat constructor),?_⟩
 obtain⟨hz1,hz2⟩:=of_decide_eq_true p1
 obtain⟨m,rfl⟩:=Int.eq_ofNat_of_zero_le (show 0≤k1 by omega)
 refine a_ (h:=e_ (Ao (?_)))
 refine Bh (fun n s=>∃(j a1:Nat) (t:ByteArray),j≤m∧n=j∧a1≤a+1+(m - j)∧t.size≤2 * (m - j)∧s=⟨look [(0, .bp 0 0),(3, .v (.string t)),(4, .v (.int .i64 (j:Int)))],⟨[Dx l a1],[]⟩⟩) (m) ((wk 1 0)) (⟨m,a1,⟨#[]⟩,by omega,rfl,by omega,by rw[Nat.sub_self];exact Nat.le_refl 0,rfl⟩) ?_
 rintro n s ⟨j,b1,t,hj,hn,hb1,ht,rfl⟩
 subst n
 refine q_ (w_ (m_ (h:=CD (h:=e_ (?_)))))
 refine A9 rfl (fun hb1=>?_) (fun hb1=>?_)
 ·have hc1:=bp hb1
  refine AM (q_ (Ao (AQ (m_ (h:=m_ (h:=Bi (h:=?_)))))))
  refine A6 rfl (BO 0 (hc:=LV l _ _ (fun s=>decide (s.size≤1)) (by omega) (by rfl) (by rfl) (by rfl)) (hR:=?_))
  rintro r a2 ha2 ⟨k2,rfl,p2⟩
  refine⟨rfl,_,(by repeat constructor),?_⟩
  have hw:=of_decide_eq_true p2
  refine A6 rfl (E9 rfl rfl (by show 1+k2.size≤_;omega) ?_)
  refine A6 rfl (E9 rfl rfl (by have e:=ByteArray.size_append (a:=⟨#[47]⟩) (b:=k2);have:(⟨#[47]⟩:ByteArray).size=1:=rfl;omega) ?_)
  refine a_ (h:=AP (Aw (t_ (AQ (m_ (h:=OF (h:=a_ (h:=AP (?_)))))))))
  refine AF ?_
  obtain⟨j,rfl⟩:∃i,j=i+1:=⟨j - 1,by omega⟩
  refine⟨_,_,?_,⟨j,_,_,by omega,rfl,?_,?_,rfl⟩,B1 1 0 rfl rfl rfl rfl (by repeat (first|exact Sub.nil|refine Sub.cons _ _ _ rfl rfl ?_|(apply Sub.of;(focus exact rfl);(focus exact LeA.of_eq (vi (by omega)));(focus exact rfl))))⟩
  ·omega
  ·omega
  have e:=ByteArray.size_append (a:=⟨#[47]⟩) (b:=k2)
  have e2:=ByteArray.size_append (a:=t) (b:=⟨#[47]⟩++k2)
  have:(⟨#[47]⟩:ByteArray).size=1:=rfl
  omega
 have hc1:=bp hb1
 refine BM (Al (Al (BN (t_ (w_ (m_ (h:=a_ (h:=e_ (A4 (?_))))))))))
 refine Av none (h5:=(LeA.refl _)) (h6:=⟨_,rfl,rfl,b1,by omega,rfl,t,rfl,by omega⟩)
end
def Bare(s:Spc):Prop:=FlsV s.files∧0<s.files.length∧s.mounts=[]
theorem Bare.v{s:Spc}(h:Bare s):SpcV s:=⟨h.1,h.2.1,fun i m hm=>by rw[h.2.2]at hm;cases hm⟩
theorem Bare.m{s:Spc}(h:Bare s):s.mounts.length≤1000:=by rw[h.2.2];exact Nat.zero_le _
theorem Ub{w:Wrk}{R:De}(h:Bare w.s.spc)(hR:Hb w.s.spc.files R):Bare (Bk w R).1.s.spc:=by
 unfold Bk
 split
 ·rename_i h0
  obtain⟨k1,k2⟩:=hR h0
  exact⟨k1,by show 0<R.1.length;rw[k2];exact h.2.1,h.2.2⟩
 exact h
theorem Uc:TabB Cz:=⟨Nat.zero_le _,(fun p hp=>by cases hp),by decide,by decide⟩
theorem eO{t:Tab}(ht:TabB t)(pid:Int)(a:A7)(fl:Int):TabB (EH t pid a fl).1:=by
 unfold EH
 split
 ·exact Uc
 split
 ·exact Uc
 rename_i h8
 refine⟨by simpa[Fp]using ht.few,fun p hp=>?_,ht.next,ht.nextS⟩
 simp only[Fp,List.mem_map]at hp
 obtain⟨x,hx,rfl⟩:=hp
 split
 ·simp[K5]
  omega
 exact ht.opens x hx
theorem eQ{w:Wrk}{R:Tab×Int}(h:TabB w.s.tab)(hR:TabB R.1):TabB (DR w R).1.s.tab:=by
 unfold DR
 split
 ·exact hR
 exact h
theorem Ud(w:Wrk)(R:De):(Bk w R).1.s.tab=w.s.tab:=by
 unfold Bk
 split<;>rfl
theorem eR(w:Wrk)(R:Tab×Int):(DR w R).1.s.spc=w.s.spc:=by
 unfold DR
 split<;>rfl
def E7(s:Syst):Prop:=Bare s.spc∧TabB s.tab
theorem Ue{w:Wrk}{i:Nat}{n:Nod}(h:E7 w.s):E7 (Ca w i n).1.s:=by
 unfold Ca
 split
 ·exact⟨Ub h.1 (Hc h.1.1 _ _ _),by show TabB (Bk w _).1.s.tab;rw[Ud];exact h.2⟩
 exact h
theorem Uf{w:Wrk}(h:E7 w.s)(a:A7):E7 (Gg w a).1.s:=by
 unfold Gg
 exact⟨by rw[eR];exact h.1,eQ h.2 (eO h.2 _ _ _)⟩
theorem eS{w:Wrk}(h:E7 w.s):E7 (C4 w).1.s:=by
 unfold C4
 repeat' split
 all_goals first|with_reducible exact Ue h|with_reducible exact Uf h _|with_reducible exact Uf (Ue h) _|exact h
theorem eT{w:Wrk}{R:De}{x:A7}(h:E7 w.s)(hR:Hb w.s.spc.files R):E7 (GG w R x).1.s:=by
 have hf:E7 (Bk w R).1.s:=⟨Ub h.1 hR,by rw[Ud];exact h.2⟩
 unfold GG
 repeat' split
 all_goals first|exact h|exact hf
theorem eU{w:Wrk}(h:E7 w.s):E7 (Dn w).1.s:=by
 have hf:FlsV w.s.spc.files:=h.1.1
 unfold Dn
 repeat' split
 all_goals first|with_reducible exact eT h (Hd hf _ _ _ _)|exact h
theorem QG{s:Syst}{pid:Int}{c:Cal}(h:E7 s)(h6:c.num=6∨c.num=13):E7 (E5 s pid c).1:=by
 have ha:E7 (D0 (EX s pid c)).1.s:=by
  rcases h6 with h6|h6
  ·rw[D0,if_pos (show(EX s pid c).c.num=6 from h6)];exact eS h
  have h13:(EX s pid c).c.num=13:=h6
  rw[D0,if_neg (show¬(EX s pid c).c.num=6 by omega),if_neg (show¬(EX s pid c).c.num=8 by omega),if_neg (show¬((EX s pid c).c.num=10∨(EX s pid c).c.num=12) by omega),if_pos h13];exact eU h
 unfold E5
 repeat' split
 all_goals first|exact h|exact ha
theorem NU:E7 (GH 1).1:=by
 have h:=Sn (k:=1) (by decide) (by decide)
 have e:(GH 1).1=⟨⟨(Dz 1).1,[]⟩,Pp (0,1)⟩:=by
  unfold GH
  rw[if_neg (by decide)]
 rw[e]
 exact⟨⟨h.1,h.2,rfl⟩,⟨by decide,by decide,by decide,by decide⟩⟩
def KD(a:UInt8):AB:=⟨#[47,a]⟩
def GM(a:UInt8):Cal:=⟨6,6,420,0,0,[KD a],[]⟩
def NV:Cal:=⟨13,0,0,0,0,[KD 98,KD 97],[]⟩
def KE:Syst:=(GH 1).1
def JQ:Syst:=(E5 KE 1 (GM 97)).1
def Gk:Syst:=(E5 JQ 1 (GM 98)).1
def KF:Syst:=(E5 Gk 1 NV).1
def KG:Res:=(E5 Gk 1 NV).2
def Gl:Wch:=(Fs Gk.spc 1 (KD 97)).1
def Ln:Wch:=(KC KF.spc Gl).1
set_option maxRecDepth 100000 in
theorem eV:(Fs Gk.spc 1 (KD 97)).2=0∧Gl.file.2=2∧(KC KF.spc Gl).2=true∧NR Gl KG.gone KG.changes=(Ln,true)∧Ln.file.2=3∧KG.changes.length≤1000∧Gl.name.size≤100∧(GH 1).2=0:=by decide+kernel
theorem NW:E7 JQ:=QG NU (.inl rfl)
theorem KH:E7 Gk:=QG NW (.inl rfl)
theorem Ug:E7 KF:=QG KH (.inr rfl)
def KJ(x:Wch):List Value:=[.int .i64 x.kind, .int .i64 x.dir.1, .int .i64 x.dir.2, .string x.name, .int .i64 x.file.1, .int .i64 x.file.2]
set_option maxRecDepth 10000 in
set_option maxHeartbeats 1000000 in
theorem Uh(op:BinOp)(x:Wch)(w:World)(h:op= .eql∨op= .neq):(binOp op 38 (.agg (KJ x).toArray) (.agg (KJ x).toArray)).run Tryz.prog w= .ok (.bool (decide (op= .eql))) w:=by
 have u3:=Tryz.underlying3
 have a3:=Tryz.isAgg3
 have z3:=Tryz.sizeOf3
 have u9:=Tryz.underlying9
 have a9:=Tryz.isAgg9
 have z9:=Tryz.sizeOf9
 have u5:=Tryz.underlying36
 have a5:=Tryz.isAgg36
 have z5:=Tryz.sizeOf36
 have hS:Tryz.prog.underlying 38=some (.struct (Tryz.prog.fieldsOf 38)):=by kernel_rfl
 have hp:Tryz.prog.stoodInHeld 38=false:=by kernel_rfl
 have hSF:Tryz.prog.underlying 36=some (.struct (Tryz.prog.fieldsOf 36)):=by kernel_rfl
 have hpF:Tryz.prog.stoodInHeld 36=false:=by kernel_rfl
 have eF:∀(d:Nat) (a b:Int) (w:World),(Op.equalIn (d+2) 36 (.agg #[.int .i64 a, .int .i64 b]) (.agg #[.int .i64 a, .int .i64 b])).run Tryz.prog w= .ok true w:=by
  intro d a b w
  rw[run_equalIn_agg w (d+1) 36 _ _ hSF hpF]
  simp only[Program.fieldsOf,Tryz.underlying36]
  go_simp
 have e:∀w,(Op.equalIn 10000 38 (.agg (KJ x).toArray) (.agg (KJ x).toArray)).run Tryz.prog w= .ok true w:=by
  intro w
  rw[show(10000:Nat)=9999+1 from rfl,run_equalIn_agg w 9999 38 _ _ hS hp]
  simp only[Program.fieldsOf,Tryz.underlying38,KJ]
  go_simp
 rcases h with rfl|rfl
 ·rw[run_eql_struct,e]
  rfl
 rw[run_neq_struct,e]
 rfl
theorem NX(x:Wch):AllV (DD x) (KJ x):=by repeat constructor
theorem eW{ev:Operand→Option AV}{h:AH}{R:AV→AH→Prop}{d:Option Tmp}{ty:TypeId}{pos:String}{af:Array Edge}{gd:Option (Nat×Bool)}{yT:TypeId}{x y:Operand}(z:Wch)(hx:ev x=some (.agg (DD z)))(hy:ev y=some (.agg (DD z)))(hR:R (.v (.bool true)) h):AStep Tryz.prog ⟨d, .binOp .eql 38 x y yT,ty,pos,af,gd⟩ ev h R:=
 Eb hx hy (NX z) (NX z) (fun w=>Uh .eql z w (.inl rfl)) (by kernel_rfl) hR
theorem eX{ev:Operand→Option AV}{h:AH}{R:AV→AH→Prop}{d:Option Tmp}{ty:TypeId}{pos:String}{af:Array Edge}{gd:Option (Nat×Bool)}{yT:TypeId}{x y:Operand}(z:Wch)(hx:ev x=some (.agg (DD z)))(hy:ev y=some (.agg (DD z)))(hR:R (.v (.bool false)) h):AStep Tryz.prog ⟨d, .binOp .neq 38 x y yT,ty,pos,af,gd⟩ ev h R:=
 Eb hx hy (NX z) (NX z) (fun w=>Uh .neq z w (.inr rfl)) (by kernel_rfl) hR
section
theorem Ui:AFn Tryz.prog 11 [] (fun r=>r= .v (.bool true)):=by
 obtain⟨y1,y2,y3,y4,y5,y6,y7,y8⟩:=eV
 have hnew:AFn Tryz.prog 44 [.v (.int .i64 1)] (fun r=>r= .tup [.agg (D1 KE), .v (.int .i64 0)]):=(cG 1).mono fun r hr=>by rw[hr,NO,y8];rfl
 have hr1:AFn Tryz.prog 35 [.agg (D1 KE), .v (.int .i64 1), .agg (ES (GM 97))] (fun r=>r= .tup [.agg (D1 JQ), .agg (EY (E5 KE 1 (GM 97)).2)]):=Q9 _ _ _ NU.1.v NU.1.m NU.2 (by decide) (by decide) (.inl rfl)
 have hr2:AFn Tryz.prog 35 [.agg (D1 JQ), .v (.int .i64 1), .agg (ES (GM 98))] (fun r=>r= .tup [.agg (D1 Gk), .agg (EY (E5 JQ 1 (GM 98)).2)]):=Q9 _ _ _ NW.1.v NW.1.m NW.2 (by decide) (by decide) (.inl rfl)
 have hr3:AFn Tryz.prog 35 [.agg (D1 Gk), .v (.int .i64 1), .agg (ES NV)] (fun r=>r= .tup [.agg (D1 KF), .agg (EY KG)]):=Q9 _ _ _ KH.1.v KH.1.m KH.2 (by decide) (by decide) (.inr rfl)
 have hpl:AFn Tryz.prog 17 [.agg (Ar Gk.spc), .v (.int .i64 1), .v (.string (KD 97))] (fun r=>r= .tup [.agg (DD Gl), .v (.int .i64 0)]):=(UW _ _ _ KH.1.v KH.1.m (by decide)).mono fun r hr=>by rw[hr,QC,y1];rfl
 have hfo:AFn Tryz.prog 24 [.agg (Ar KF.spc), .agg (DD Gl)] (fun r=>r= .tup [.agg (DD Ln), .v (.bool true)]):=(eL _ _ (Ug.1.v.b Ug.1.m)).mono fun r hr=>by rw[hr,QD,y3];rfl
 have hch:AFn Tryz.prog 33 [.agg (DD Gl), .agg (EY KG)] (fun r=>r= .tup [.agg (DD Ln), .v (.bool true)]):=(eM _ _ y6).mono fun r hr=>by rw[hr,y4];rfl
 obtain⟨W,hW⟩:∃W,W=Gl:=⟨_,rfl⟩
 obtain⟨U,hU⟩:∃U,U=Ln:=⟨_,rfl⟩
 obtain⟨S0,hS0⟩:∃S,S=KE:=⟨_,rfl⟩
 obtain⟨S1,hS1⟩:∃S,S=JQ:=⟨_,rfl⟩
 obtain⟨S2,hS2⟩:∃S,S=Gk:=⟨_,rfl⟩
 obtain⟨S3,hS3⟩:∃S,S=KF:=⟨_,rfl⟩
 obtain⟨R1,hR1⟩:∃R,R=(E5 KE 1 (GM 97)).2:=⟨_,rfl⟩
 obtain⟨R2,hR2⟩:∃R,R=(E5 JQ 1 (GM 98)).2:=⟨_,rfl⟩
 obtain⟨R3,hR3⟩:∃R,R=KG:=⟨_,rfl⟩
 rw[←hS0]at hnew
 rw[←hR1,←hS1,←hS0]at hr1
 rw[←hR2,←hS2,←hS1]at hr2
 rw[←hR3,←hS3,←hS2]at hr3
 rw[←hW,←hS2]at hpl
 rw[←hU,←hW,←hS3]at hfo
 rw[←hU,←hW,←hR3]at hch
 rw[←hW]at y2
 rw[←hU]at y5
 clear hW hU hS0 hS1 hS2 hS3 hR1 hR2 hR3 y1 y3 y4 y6 y7 y8
 refine enter Tryz.func11 rfl rfl rfl rfl rfl 0 rfl ?_
 refine w_ (a_ (h:=e_ (w_ (?_))))
 refine A6 rfl (AJ (hnew) ?_)
 rintro r rfl
 refine m_ (h:=x_ (h:=x_ (h:=Aa (h:=s_ (h:=a_ (h:=e_ (w_ (l_ (h:=AU (h:=Bi (h:=?_)))))))))))
 refine A6 rfl (Fh (y:= .agg (ES (GM 97))) (DF ⟨rfl,rfl⟩) ?_)
 refine A6 rfl (AJ (hr1) ?_)
 rintro r rfl
 refine m_ (h:=x_ (h:=x_ (h:=s_ (h:=e_ (w_ (l_ (h:=AU (h:=Bi (h:=?_)))))))))
 refine A6 rfl (Fh (y:= .agg (ES (GM 98))) (DF ⟨rfl,rfl⟩) ?_)
 refine A6 rfl (AJ (hr2) ?_)
 rintro r rfl
 refine m_ (h:=x_ (h:=x_ (h:=s_ (h:=e_ (w_ (f_ (h:=l_ (h:=?_))))))))
 refine A6 rfl (AJ (hpl) ?_)
 rintro r rfl
 refine m_ (h:=x_ (h:=x_ (h:=Aa (h:=s_ (h:=a_ (h:=e_ (w_ (l_ (h:=Bi (h:=?_))))))))))
 refine A6 rfl (Fh (y:= .agg (ES NV)) (DF ⟨rfl,rfl⟩) ?_)
 refine A6 rfl (AJ (hr3) ?_)
 rintro r rfl
 refine m_ (h:=x_ (h:=x_ (h:=Aa (h:=Aa (h:=s_ (h:=s_ (h:=e_ (w_ (f_ (h:=l_ (h:=l_ (h:=?_))))))))))))
 refine A6 rfl (AJ (hfo) ?_)
 rintro r rfl
 refine m_ (h:=x_ (h:=x_ (h:=Aa (h:=s_ (h:=a_ (h:=e_ (w_ (l_ (h:=l_ (h:=?_))))))))))
 refine A6 rfl (AJ (hch) ?_)
 rintro r rfl
 refine m_ (h:=x_ (h:=x_ (h:=Aa (h:=s_ (h:=a_ (h:=e_ (w_ (m_ (h:=AW (h:=m_ (h:=?_)))))))))))
 refine At true rfl rfl (fun hb1=>?_) (fun hb1=>?_)
 ·have hc1:=bp hb1
  refine f_ (h:=f_ (h:=l_ (h:=AW (h:=AZ (h:=m_ (h:=?_))))))
  refine At true rfl rfl (fun hb2=>?_) (fun hb2=>?_)
  ·have hc2:=bp hb2
   refine m_ (h:=AZ (h:=m_ (h:=?_)))
   refine At true rfl rfl (fun hb3=>?_) (fun hb3=>?_)
   ·have hc3:=bp hb3
    refine m_ (h:=AZ (h:=m_ (h:=?_)))
    refine At true rfl rfl (fun hb4=>?_) (fun hb4=>?_)
    ·have hc4:=bp hb4
     refine l_ (h:=l_ (h:=?_))
     refine Ay (eW U rfl rfl ?_)
     refine AZ (h:=m_ (h:=?_))
     refine At true rfl rfl (fun hb5=>?_) (fun hb5=>?_)
     ·have hc5:=bp hb5
      refine f_ (h:=f_ (h:=l_ (h:=AW (h:=AZ (h:=a_ (h:=e_ (A4 (?_))))))))
      refine AD ?_
      first|rfl|(exfalso;first|contradiction|omega)|exact vb (by simp[y5])
     have hc5:=bp hb5
     refine A3 (h:=A3 (h:=A3 (h:=A3 (h:=Ai (h:=a_ (h:=e_ (A4 (?_))))))))
     refine AD ?_
     first|rfl|(exfalso;first|contradiction|omega)
    have hc4:=bp hb4
    refine A3 (h:=A3 (h:=A3 (h:=Ai (h:=m_ (h:=A3 (h:=A3 (h:=A3 (h:=A3 (h:=Ai (h:=a_ (h:=e_ (A4 (?_)))))))))))))
    refine AD ?_
    first|rfl|(exfalso;first|contradiction|omega)
   have hc3:=bp hb3
   refine A3 (h:=Ai (h:=m_ (h:=A3 (h:=A3 (h:=A3 (h:=Ai (h:=m_ (h:=A3 (h:=A3 (h:=A3 (h:=A3 (h:=Ai (h:=a_ (h:=e_ (A4 (?_))))))))))))))))
   refine AD ?_
   first|rfl|(exfalso;first|contradiction|omega)
  have hc2:=bp hb2
  refine A3 (h:=Ai (h:=m_ (h:=A3 (h:=Ai (h:=m_ (h:=A3 (h:=A3 (h:=A3 (h:=Ai (h:=m_ (h:=A3 (h:=A3 (h:=A3 (h:=A3 (h:=Ai (h:=a_ (h:=e_ (A4 (?_)))))))))))))))))))
  refine AD ?_
  first|rfl|(exfalso;first|contradiction|omega)
 have hc1:=bp hb1
 refine A3 (h:=A3 (h:=A3 (h:=A3 (h:=Ai (h:=m_ (h:=A3 (h:=Ai (h:=m_ (h:=A3 (h:=Ai (h:=m_ (h:=A3 (h:=A3 (h:=A3 (h:=Ai (h:=m_ (h:=A3 (h:=A3 (h:=A3 (h:=A3 (h:=Ai (h:=a_ (h:=e_ (?_))))))))))))))))))))))))
 refine A4 (?_)
 refine AD ?_
 first|rfl|(exfalso;first|contradiction|omega)
end
section
theorem eY(l:List Int)(kind:Int)(p:AB):AFn Tryz.prog 3 [.sl 1 (l.map Bt) none, .v (.int .i64 kind), .v (.string p)] (fun r=>r= .v (.bool true)):=by
 refine enter Tryz.func3 rfl rfl rfl rfl rfl 0 rfl ?_
 refine w_ (a_ (h:=e_ (q_ (w_ (m_ (h:=n_ (h:=CD (h:=e_ (?_)))))))))
 refine A9 rfl (fun hb1=>?_) (fun hb1=>?_)
 ·have hc1:=bp hb1
  refine w_ (?_)
  refine A6 rfl (AJ (Ui) ?_)
  rintro r rfl
  refine a_ (h:=e_ (A4 (A8 (?_))))
  refine AD ?_
  rfl
 have hc1:=bp hb1
 refine AM (w_ (m_ (h:=?_)))
 refine A6 rfl (VP rfl (by repeat (first|exact Args.nil|refine Args.cons _ _ _ _ _ rfl (Kb rfl) ?_|refine Args.cons _ _ _ _ _ rfl (MC _) ?_|refine Args.cons _ _ _ _ _ rfl (KZ _) ?_|refine Args.cons _ _ _ _ _ rfl (MM rfl (by repeat (first|exact LeA.refl _|exact LeA.nil _|exact LeL.refl _|refine LeA.agg ?_|refine LeA.tup ?_|exact LeL.nil|refine LeL.cons ?_ ?_|exact LeA.any _))) ?_)) rfl (Xo l) (by repeat constructor) ?_)
 skip
 refine a_ (h:=e_ (w_ (m_ (h:=?_))))
 refine A6 rfl (BO 0 (hc:=YF l _ (by omega)) (hR:=?_))
 rintro r a1 ha1 ⟨s,rfl,hv,hm⟩
 refine⟨rfl,_,(by repeat constructor),?_⟩
 have hmm:s.mounts.length≤1000:=by omega
 have hsb:=hv.b hmm
 refine Aa (h:=s_ (h:=e_ (q_ (w_ (a_ (h:=e_ (Ao (?_))))))))
 refine Bh (fun n S=>∃(j b:Nat),j≤6∧n=6 - j∧b≤a1+j * 50∧S=⟨look [(1, .v (.int .i64 kind)),(2, .v (.string p)),(7, .bp 0 0),(8, .bp 1 0),(9, .v (.int .i64 (j:Int)))],⟨[Dx l b,Ar s],[]⟩⟩) (6) ((wk 2 0)) (⟨0,a1,by omega,rfl,by omega,rfl⟩) ?_
 rintro n S ⟨j,b0,hj,rfl,hb0,rfl⟩
 refine q_ (w_ (m_ (h:=BJ (h:=e_ (?_)))))
 refine A9 rfl (fun hb2=>?_) (fun hb2=>?_)
 ·have hc2:=bp hb2
  refine AM (q_ (Ao (w_ (m_ (h:=?_)))))
  refine A6 rfl (BO 0 (hc:=Ga l _ (0) (3) (by omega) (by omega) (by omega) (by omega)) (hR:=?_))
  rintro r a2 ha2 ⟨k2,rfl,p2,q2⟩
  refine⟨rfl,_,(by repeat constructor),?_⟩
  refine m_ (h:=?_)
  refine A6 rfl (BO 0 (hc:=eN l _ (by omega)) (hR:=?_))
  rintro r a3 ha3 ⟨q0,rfl,hq0⟩
  refine⟨rfl,_,(by repeat constructor),?_⟩
  refine a_ (h:=a_ (h:=e_ (?_)))
  refine BG (fun S=>∃(k:Int) (q:AB) (b:Nat),q.size≤200∧b≤a1+j * 50+10∧S=⟨look [(1, .v (.int .i64 kind)),(2, .v (.string p)),(7, .bp 0 0),(8, .bp 1 0),(9, .v (.int .i64 (j:Int))),(10, .v (.int .i64 k)),(11, .v (.string q))],⟨[Dx l b,Ar s],[]⟩⟩) ?_ ?_
  ·skip
   refine w_ (m_ (h:=AW (h:=e_ (?_))))
   refine A9 rfl (fun hb3=>?_) (fun hb3=>?_)
   ·have hc3:=bp hb3
    refine AQ (m_ (h:=m_ (h:=a_ (h:=a_ (h:=AP (?_))))))
    refine AF ?_
    (have h4:(j:Int)=4:=‹(j:Int)=4›;exact⟨_,⟨kind,p,_,(by omega),(by omega),rfl⟩,B1 2 0 rfl rfl rfl rfl ((by repeat (first|exact Sub.nil|refine Sub.cons _ _ _ rfl rfl ?_|refine Sub.any _ _ ?_|refine Sub.sl _ _ _ _ _ rfl ?_|refine Sub.slnil _ _ _ rfl ?_)))⟩)
   have hc3:=bp hb3
   refine B4 (?_)
   refine AF ?_
   first|(have h4:(j:Int)=4:=‹(j:Int)=4›;exact⟨_,⟨kind,p,_,(by omega),(by omega),rfl⟩,B1 2 0 rfl rfl rfl rfl ((by repeat (first|exact Sub.nil|refine Sub.cons _ _ _ rfl rfl ?_|refine Sub.any _ _ ?_|refine Sub.sl _ _ _ _ _ rfl ?_|refine Sub.slnil _ _ _ rfl ?_)))⟩)|exact⟨_,⟨_,q0,_,(by omega),(by omega),rfl⟩,B1 2 0 rfl rfl rfl rfl ((by repeat (first|exact Sub.nil|refine Sub.cons _ _ _ rfl rfl ?_|refine Sub.any _ _ ?_|refine Sub.sl _ _ _ _ _ rfl ?_|refine Sub.slnil _ _ _ rfl ?_)))⟩
  rintro S ⟨k,q,b9,hq,hb9,rfl⟩
  refine BG (fun S=>∃(q:AB) (b:Nat),q.size≤200∧b≤a1+j * 50+40∧S=⟨look [(1, .v (.int .i64 kind)),(2, .v (.string p)),(7, .bp 0 0),(8, .bp 1 0),(9, .v (.int .i64 (j:Int))),(10, .v (.int .i64 k)),(11, .v (.string q))],⟨[Dx l b,Ar s],[]⟩⟩) ?_ ?_
  ·skip
   refine w_ (m_ (h:=AW (h:=e_ (?_))))
   refine A9 rfl (fun hb4=>?_) (fun hb4=>?_)
   ·have hc4:=bp hb4
    refine AQ (m_ (h:=?_))
    refine A6 rfl (BO 0 (hc:=PR l _ (by omega)) (hR:=?_))
    rintro r a4 ha4 ⟨pth,rfl,hpth⟩
    refine⟨rfl,_,(by repeat constructor),?_⟩
    refine a_ (h:=AP (?_))
    refine AF ?_
    (have h5:(j:Int)=5:=‹(j:Int)=5›;exact⟨_,⟨pth,_,(by omega),(by omega),rfl⟩,B1 2 0 rfl rfl rfl rfl ((by repeat (first|exact Sub.nil|refine Sub.cons _ _ _ rfl rfl ?_|refine Sub.any _ _ ?_|refine Sub.sl _ _ _ _ _ rfl ?_|refine Sub.slnil _ _ _ rfl ?_)))⟩)
   have hc4:=bp hb4
   refine B4 (?_)
   refine AF ?_
   first|(have h5:(j:Int)=5:=‹(j:Int)=5›;exact⟨_,⟨pth,_,(by omega),(by omega),rfl⟩,B1 2 0 rfl rfl rfl rfl ((by repeat (first|exact Sub.nil|refine Sub.cons _ _ _ rfl rfl ?_|refine Sub.any _ _ ?_|refine Sub.sl _ _ _ _ _ rfl ?_|refine Sub.slnil _ _ _ rfl ?_)))⟩)|exact⟨_,⟨q,_,hq,(by omega),rfl⟩,B1 2 0 rfl rfl rfl rfl ((by repeat (first|exact Sub.nil|refine Sub.cons _ _ _ rfl rfl ?_|refine Sub.any _ _ ?_|refine Sub.sl _ _ _ _ _ rfl ?_|refine Sub.slnil _ _ _ rfl ?_)))⟩
  rintro S ⟨q,b,hq,hb,rfl⟩
  refine w_ (l_ (h:=m_ (h:=m_ (h:=?_))))
  refine A6 rfl (AJ (UW s k q hv hmm (by omega)) ?_)
  rintro r rfl
  refine m_ (h:=x_ (h:=x_ (h:=Aa (h:=s_ (h:=a_ (h:=e_ (w_ (l_ (h:=m_ (h:=m_ (h:=?_)))))))))))
  refine A6 rfl (AJ (eG s k q hv hmm (by omega)) ?_)
  rintro r rfl
  refine m_ (h:=x_ (h:=x_ (h:=Aa (h:=s_ (h:=a_ (h:=e_ (w_ (m_ (h:=m_ (h:=BS (h:=m_ (h:=?_))))))))))))
  refine At false rfl rfl (fun hb5=>?_) (fun hb5=>?_)
  ·have hc5:=bp hb5
   refine A3 (h:=A3 (h:=A3 (h:=AZ (h:=m_ (h:=A3 (h:=A3 (h:=A3 (h:=EC (h:=EC (h:=EC (h:=EC (h:=A3 (h:=AZ (h:=e_ (Bx (h:=w_ (a_ (h:=e_ (A4 (Af (A8 (A8 (Af (?_))))))))))))))))))))))))
   refine A8 (?_)
   refine AD ?_
   first|rfl|(exfalso;first|contradiction|omega|(simp_all;done))
  have hc5:=bp hb5
  refine l_ (h:=l_ (h:=?_))
  refine Ay (eX (Fs s k q).1 rfl rfl ?_)
  refine Ai (h:=m_ (h:=?_))
  refine At false rfl rfl (fun hb6=>?_) (fun hb6=>?_)
  ·have hc6:=bp hb6
   refine A3 (h:=A3 (h:=A3 (h:=EC (h:=EC (h:=EC (h:=EC (h:=A3 (h:=AZ (h:=e_ (Bx (h:=w_ (a_ (h:=e_ (A4 (Af (A8 (A8 (Af (A8 (?_))))))))))))))))))))
   refine AD ?_
   first|rfl|(exfalso;first|contradiction|omega|(simp_all;done))
  have hc6:=bp hb6
  refine m_ (h:=AW (h:=m_ (h:=?_)))
  refine At true rfl rfl (fun hb7=>?_) (fun hb7=>?_)
  ·have hc7:=bp hb7
   refine l_ (h:=l_ (h:=?_))
   refine Ay (AJ (eH s (Fs s k q).1 hsb) ?_)
   rintro r rfl
   rw[eC hv (of_decide_eq_true (by assumption))]
   refine BR (h:=AZ (h:=Ai (h:=e_ (?_))))
   refine A9 rfl (fun hb8=>?_) (fun hb8=>?_)
   ·have hc8:=bp hb8
    refine w_ (a_ (h:=e_ (A4 (Af (A8 (A8 (Af (A8 (?_)))))))))
    refine AD ?_
    first|rfl|(exfalso;first|contradiction|omega|(simp_all;done))
   have hc8:=bp hb8
   refine B4 (Aw (t_ (AQ (m_ (h:=B3 (h:=a_ (h:=AP (?_))))))))
   refine AF ?_
   refine⟨_,_,?_,⟨j+1,_,by omega,rfl,?_,rfl⟩,B1 2 0 rfl rfl rfl rfl ((by repeat (first|exact Sub.nil|refine Sub.cons _ _ _ rfl rfl ?_|refine Sub.any _ _ ?_|refine Sub.sl _ _ _ _ _ rfl ?_|refine Sub.slnil _ _ _ rfl ?_)))⟩<;>omega
  have hc7:=bp hb7
  refine A3 (h:=A3 (h:=A3 (h:=A3 (h:=Ai (h:=Ai (h:=e_ (FN (h:=B4 (Aw (t_ (AQ (m_ (h:=B3 (h:=a_ (h:=AP (?_))))))))))))))))
  refine AF ?_
  refine⟨_,_,?_,⟨j+1,_,by omega,rfl,?_,rfl⟩,B1 2 0 rfl rfl rfl rfl ((by repeat (first|exact Sub.nil|refine Sub.cons _ _ _ rfl rfl ?_|refine Sub.any _ _ ?_|refine Sub.sl _ _ _ _ _ rfl ?_|refine Sub.slnil _ _ _ rfl ?_)))⟩<;>omega
 have hc2:=bp hb2
 refine BM (Al (Al (BN (t_ (w_ (?_))))))
 refine A6 rfl (AJ (Ui) ?_)
 rintro r rfl
 refine a_ (h:=e_ (A4 (?_)))
 refine AD ?_
 rfl
end
theorem WatchPlaces_walk{H:Type}{enc:TypeId×Value→H}{sp:Nat→Bool}{held:Bool}{base:Nat}(a:Option Addr)(n c:Nat)(k:Int)(s:ByteArray)(w:World){d:DataW H}{p:List MemPlace}(h:DataW.Trod enc Tryz.prog w base sp held 22 (.slice a n c) d p)(_: -9223372036854775808≤k)(_:k≤9223372036854775807)(_:s.size≤maxLen):
    Calls Tryz.prog 3 #[.slice a n c, .int .i64 k, .string s] w fun e w'=>e= .returned (.bool true)∧Below w.heap.size w w':=YR [.int .i64 k, .string s] (fun l=>eY l k s) a n c w h
end Go.Proofs.YtbglbmnhgbgelaaGreatDoor
