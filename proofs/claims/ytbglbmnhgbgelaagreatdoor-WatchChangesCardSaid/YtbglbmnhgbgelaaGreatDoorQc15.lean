/-
  Part 15 of the proof of WatchChangesP: what the statement's proof uses of the texts in wip/tpl.
-/
import Derived.Test.YtbglbmnhgbgelaaGreatDoorQc14
set_option maxRecDepth 10000
set_option maxHeartbeats 4000000
set_option linter.unusedVariables false
set_option linter.unusedSimpArgs false
namespace Go.Proofs.YtbglbmnhgbgelaaGreatDoor
open Go.RowKit
theorem d8{s:Spc}{fl:Bool}{p:AB}{ps:List AB}{a:A8}{lk:Nat}{τ:Lk}(h:CE s fl p ps a lk= .inr τ):τ.name.size≤12:=by
 unfold CE at h
 split at h
 ·cases h
 split at h
 ·cases h
 rename_i h2
 repeat' split at h
 all_goals first|(cases h;done)|(injection h with h;subst h;first|exact Nat.zero_le 12|exact Nat.le_of_not_lt h2)
theorem d9{s:Spc}{fl:Bool}:∀(k:Nat) (σ:Lk),σ.name.size≤12→(Ft s fl k σ).2.name.size≤12:=by
 intro k
 induction k with
 |zero=>intro σ h;exact h
 |succ k ih=>
   intro σ h
   unfold Ft
   cases σ.ps with
   |nil=>exact h
   |cons p ps=>
     simp only
     cases hs:CE s fl p ps σ.file σ.links with
     |inl e=>exact Nat.zero_le 12
     |inr τ=>exact ih _ (d8 hs)
theorem Py(s:Spc)(st:A8)(p:AB)(fl:Bool):(BU s st p fl).1.name.size≤12:=by
 unfold BU
 generalize (if Ch p=true then DK s else st)=d
 repeat' split
 all_goals first|exact Nat.zero_le 12|exact d9 _ _ (Nat.zero_le 12)
theorem dA{s:Spc}{cwd:A8}{fl:Bool}{X:List Itm×List Fnd×Int}{g:AB×Int}(h:∀f∈X.2.1,f.name.size≤12):(∀f∈(EV s cwd fl X g).2.1,f.name.size≤12)∧(EV s cwd fl X g).1.length=X.1.length+1∧(EV s cwd fl X g).2.1.length=X.2.1.length+1:=by
 unfold EV
 split
 ·split
  ·refine⟨fun f hf=>?_,by simp,by simp⟩
   rcases List.mem_append.1 hf with hf|hf
   ·exact h f hf
   rw[List.mem_singleton.1 hf];exact Py _ _ _ _
  refine⟨fun f hf=>?_,by simp,by simp⟩
  rcases List.mem_append.1 hf with hf|hf
  ·exact h f hf
  rw[List.mem_singleton.1 hf];exact Py _ _ _ _
 refine⟨fun f hf=>?_,by simp,by simp⟩
 rcases List.mem_append.1 hf with hf|hf
 ·exact h f hf
 rw[List.mem_singleton.1 hf];exact Nat.zero_le 12
theorem dB(s:Spc)(cwd:A8)(fl:Bool)(e:Int):∀(l:List (AB×Int)),(∀f∈(Gb s cwd fl l e).2.1,f.name.size≤12)∧(Gb s cwd fl l e).1.length=l.length∧(Gb s cwd fl l e).2.1.length=l.length:=by
 have key:∀(l:List (AB×Int)) (X:List Itm×List Fnd×Int),(∀f∈X.2.1,f.name.size≤12)→(∀f∈(l.foldl (EV s cwd fl) X).2.1,f.name.size≤12)∧(l.foldl (EV s cwd fl) X).1.length=X.1.length+l.length∧(l.foldl (EV s cwd fl) X).2.1.length=X.2.1.length+l.length:=by
  intro l
  induction l with
  |nil=>intro X h;exact⟨h,rfl,rfl⟩
  |cons g l ih=>
    intro X h
    obtain⟨h1,h2,h3⟩:=dA (s:=s) (cwd:=cwd) (fl:=fl) (g:=g) h
    obtain⟨k1,k2,k3⟩:=ih _ h1
    rw[List.foldl_cons]
    refine⟨k1,?_,?_⟩
    ·rw[k2,h2,List.length_cons];omega
    rw[k3,h3,List.length_cons];omega
 intro l
 have:=key l ([],[],e) (fun f hf=>by cases hf)
 refine⟨this.1,by rw[Gb,this.2.1];simp,by rw[Gb,this.2.2];simp⟩
theorem dC{c:Cal}(h:BT c=0):(c.paths.length:Int)=(DQ c.num).2.2.1∧(DQ c.num).2.2.2.1≤(c.args.length:Int)∧(c.args.length:Int)≤(DQ c.num).2.2.2.2∧(∀p∈c.paths,p.size≤128)∧∀p∈c.args,p.size≤64:=by
 unfold BT at h
 split at h
 ·exact absurd h (by decide)
 split at h
 ·exact absurd h (by decide)
 split at h
 ·exact absurd h (by decide)
 rename_i h3
 split at h
 ·exact absurd h (by decide)
 rename_i h4
 split at h
 ·exact absurd h (by decide)
 rename_i h5
 refine⟨by omega,by omega,by omega,fun p hp=>?_,fun p hp=>?_⟩
 ·refine Nat.le_of_not_lt fun hl=>h4 (List.any_eq_true.2 ⟨p,hp,decide_eq_true hl⟩)
 refine Nat.le_of_not_lt fun hl=>h5 (List.any_eq_true.2 ⟨p,hp,decide_eq_true hl⟩)
theorem dD{c0 c1 c2 c3 c4 c5:List AV}(w:Wrk)(rows:List (List AV))(n cap:Nat)(L:List Itm):Back [c0,c1,c2,c3,c4,c5] [5] [Ci w (.sl 8 rows none) (.bs 1 0 13 n cap),LB 13 CL L cap] [c0,c1,c2,c3,c4,Ci w (.sl 8 rows none) (.bs 6 0 13 n cap),LB 13 CL L cap]:=by
 have:=Pn (bx:=[c0,c1,c2,c3,c4,c5]) (is:=[5]) (bc:=[Ci w (.sl 8 rows none) (.bs 1 0 13 n cap),LB 13 CL L cap]) (by simp) (by simp) (by simp)
 have e2:Cs (DU [5] [c0,c1,c2,c3,c4,c5].length) (LB 13 CL L cap)=LB 13 CL L cap:=Fc BB _ _ _
 have hb:DA [c0,c1,c2,c3,c4,c5] (DU [5] [c0,c1,c2,c3,c4,c5].length) [5] [Ci w (.sl 8 rows none) (.bs 1 0 13 n cap),LB 13 CL L cap]=[c0,c1,c2,c3,c4,Ci w (.sl 8 rows none) (.bs 6 0 13 n cap),LB 13 CL L cap]:=by
  unfold DA
  unfold DA
  rw[List.map_cons,e2]
  rfl
 rw[hb]at this
 exact this
theorem dF(s:Syst)(pid:Int)(c:Cal):(∀f∈(Ec s pid c).found,f.name.size≤12)∧(Ec s pid c).found.length=(c.paths.zip (CK c)).length∧(Ec s pid c).r.items.length=(c.paths.zip (CK c)).length:=by
 obtain⟨h1,h2,h3⟩:=dB s.spc (Ax s.tab pid).cwd (CU c) (Cy (Ax s.tab pid) c) (c.paths.zip (CK c))
 exact⟨h1,h3,h2⟩
section
theorem dG(w:Wrk)(F I:AV)(h9:w.c.num=9→0<w.c.args.length)(hsz:∀p∈w.c.args,p.size≤1000):AFn Tryz.prog 67 [.fp (Ci w F I)] (fun r=>r= .v (.int .i64 (Cy w.p w.c))):=by
 have hol:(w.p.opens.map Hk).length=w.p.opens.length:=List.length_map _
 refine enter Tryz.func67 rfl rfl rfl rfl rfl 0 rfl ?_
 refine w_ (a_ (h:=e_ (w_ (m_ (h:=k_ (h:=f_ (h:=f_ (h:=l_ (h:=AY (h:=s_ (h:=e_ (q_ (w_ (m_ (h:=k_ (h:=f_ (h:=f_ (h:=l_ (h:=e_ (Al (w_ (AW (h:=a_ (h:=?_))))))))))))))))))))))))
 refine e_ (?_)
 refine A7 rfl (fun hb1=>?_) (fun hb1=>?_)
 ·have hc1:=bp hb1
  refine q_ (w_ (?_))
  refine A4 rfl (Dx (len:=4) (sz:=1) (n:=0) (by kernel_rfl) rfl rfl rfl rfl ?_)
  refine l_ (h:=BH (h:=m_ (h:=?_)))
  refine Ar false rfl rfl (fun hb2=>?_) (fun hb2=>?_)
  ·have hc2:=bp hb2
   refine A3 (h:=A3 (h:=A3 (h:=AX (h:=m_ (h:=A3 (h:=A3 (h:=A3 (h:=A3 (h:=AX (h:=m_ (h:=A3 (h:=A3 (h:=A3 (h:=A3 (h:=AX (h:=e_ (C1 (h:=w_ (a_ (h:=e_ (A6 (A9 (Ag (?_))))))))))))))))))))))))
   refine A9 (?_)
   refine AD ?_
   first|(exfalso;first|contradiction|omega)|(exact vi (by simp[Cy, *]))
  have hc2:=bp hb2
  refine B0 (Dx (len:=4) (sz:=1) (n:=0) (by kernel_rfl) rfl rfl rfl rfl ?_)
  refine l_ (h:=CC (h:=Af (h:=m_ (h:=?_))))
  refine Ar false rfl rfl (fun hb3=>?_) (fun hb3=>?_)
  ·have hc3:=bp hb3
   refine A3 (h:=A3 (h:=A3 (h:=A3 (h:=AX (h:=m_ (h:=A3 (h:=A3 (h:=A3 (h:=A3 (h:=AX (h:=e_ (C1 (h:=w_ (a_ (h:=e_ (A6 (A9 (Ag (A9 (?_))))))))))))))))))))
   refine AD ?_
   first|(exfalso;first|contradiction|omega)|(exact vi (by simp[Cy, *]))
  have hc3:=bp hb3
  refine B0 (Dx (len:=4) (sz:=1) (n:=0) (by kernel_rfl) rfl rfl rfl rfl ?_)
  refine l_ (h:=Dr (h:=AW (h:=Af (h:=m_ (h:=?_)))))
  refine Ar false rfl rfl (fun hb4=>?_) (fun hb4=>?_)
  ·have hc4:=bp hb4
   refine A3 (h:=A3 (h:=A3 (h:=A3 (h:=AX (h:=e_ (C1 (h:=w_ (a_ (h:=e_ (A6 (A9 (Ag (A9 (?_))))))))))))))
   refine AD ?_
   first|(exfalso;first|contradiction|omega)|(exact vi (by simp[Cy, *]))
  have hc4:=bp hb4
  refine B0 (Dx (len:=4) (sz:=1) (n:=1) (by kernel_rfl) rfl rfl rfl rfl ?_)
  refine l_ (h:=?_)
  refine B0 (AK (Pp w.c.a1) ?_)
  rintro r rfl
  refine BR (h:=Af (h:=e_ (?_)))
  refine A7 rfl (fun hb5=>?_) (fun hb5=>?_)
  ·have hc5:=bp hb5
   refine w_ (a_ (h:=e_ (A6 (A9 (Ag (A9 (?_)))))))
   refine AD ?_
   first|(exfalso;first|contradiction|omega)|(exact vi (by simp[Cy, *]))
  have hc5:=bp hb5
  refine AM (w_ (m_ (h:=k_ (h:=f_ (h:=f_ (h:=l_ (h:=n_ (h:=Fj (h:=e_ (?_))))))))))
  refine A7 rfl (fun hb6=>?_) (fun hb6=>?_)
  ·have hc6:=bp hb6
   have h8:8≤(w.p.opens.length:Int):=by rw[List.length_map]at hc6;exact hc6
   refine w_ (a_ (h:=e_ (A6 (Ag (A9 (?_))))))
   refine AD ?_
   first|(exfalso;first|contradiction|omega)|(exact vi (by simp[Cy, *]))
  have hc6:=bp hb6
  have h8:¬8≤(w.p.opens.length:Int):=by rw[List.length_map]at hc6;exact hc6
  refine B4 (Ay (t_ (w_ (a_ (h:=e_ (A6 (?_)))))))
  refine AD ?_
  first|(exfalso;first|contradiction|omega)|(exact vi (by simp[Cy, *]))
 have hc1:=bp hb1
 refine w_ (AW (h:=a_ (h:=e_ (?_))))
 refine A7 rfl (fun hb7=>?_) (fun hb7=>?_)
 ·have hc7:=bp hb7
  obtain⟨a0,ha0⟩:∃a,w.c.args[0]?=some a:=⟨_,BA (h9 hc7)⟩
  have harg:(w.c.args.map Ew)[0]?=some (Ew a0):=by rw[List.getElem?_map,ha0];rfl
  have hag:K6 w.c=a0:=by unfold K6;rw[List.headD_eq_head?_getD,List.head?_eq_getElem?,ha0];rfl
  have hsa:=hsz a0 (Ak ha0)
  refine q_ (w_ (m_ (h:=k_ (h:=f_ (h:=f_ (h:=l_ (h:=?_)))))))
  refine A4 rfl (Ck (n:=0) rfl rfl rfl harg ?_)
  refine l_ (h:=AW (h:=e_ (?_)))
  refine A7 rfl (fun hb8=>?_) (fun hb8=>?_)
  ·have hc8:=bp hb8
   refine w_ (a_ (h:=e_ (A6 (A9 (Ag (A9 (?_)))))))
   refine AD ?_
   first|(exfalso;first|contradiction|omega)|(exact vi (by simp[Cy, *]))
  have hc8:=bp hb8
  refine AM (w_ (a_ (h:=e_ (Al (?_)))))
  refine Bd (fun m s=>∃j:Nat,j≤a0.size∧m=a0.size - j∧(∀(i:Nat) (h:i<a0.data.toList.length),i<j→a0.data.toList[i]≠0)∧s=⟨look [(0, .fp (Ci w F I)),(4, .v (.int .i64 (j:Int)))],⟨[],[]⟩⟩) (a0.size) ((wk 0 0)) (⟨0,Nat.zero_le _,rfl,fun i h1 h2=>by omega,rfl⟩) ?_
  rintro m s ⟨j,hj,rfl,hz,rfl⟩
  refine q_ (w_ (m_ (h:=m_ (h:=k_ (h:=f_ (h:=f_ (h:=l_ (h:=?_))))))))
  refine A4 rfl (Ck (n:=0) rfl rfl rfl harg ?_)
  refine l_ (h:=n_ (h:=BH (h:=e_ (?_))))
  refine A7 rfl (fun hb9=>?_) (fun hb9=>?_)
  ·have hc9:=bp hb9
   have hlt:j<a0.size:=by omega
   refine AM (q_ (Al (w_ (m_ (h:=k_ (h:=f_ (h:=f_ (h:=l_ (h:=?_)))))))))
   refine A4 rfl (Ck (n:=0) rfl rfl rfl harg ?_)
   refine l_ (h:=m_ (h:=?_))
   refine A4 rfl (GW (n:=j) Tryz.underlying9 rfl rfl rfl hlt ?_)
   refine AW (h:=e_ (?_))
   refine A7 rfl (fun hb10=>?_) (fun hb10=>?_)
   ·have hc10:=bp hb10
    have hany:(a0.data.toList.any fun b=>decide (b=0))=true:=by
     rw[List.any_eq_true]
     refine⟨a0.data.toList[j]'(by simpa using hlt),List.getElem_mem _,?_⟩
     have h00:a0[j].toNat=0:=by have:=hc10;omega
     simp
     exact UInt8.toNat_inj.1 h00
    refine w_ (a_ (h:=e_ (A6 (Ag (A9 (A9 (Ag (Ag (A9 (?_))))))))))
    refine AD ?_
    first|(exfalso;first|contradiction|omega)|(exact vi (by simp[Cy, *]))
   have hc10:=bp hb10
   have hne:a0.data.toList[j]'(by simpa using hlt)≠0:=by
    intro e
    have h00:¬a0[j].toNat=0:=by have:=hc10;omega
    simp at e
    exact h00 (congrArg UInt8.toNat e)
   refine B4 (Ay (t_ (AP (m_ (h:=B2 (h:=a_ (h:=AO (?_))))))))
   refine AE ?_
   refine⟨_,_,?_,⟨j+1,by omega,rfl,(fun i h1 h2=>by
    by_cases e:i=j
    ·subst e;exact hne
    exact hz i h1 (by omega)),rfl⟩,(wk 0 0)⟩
   omega
  have hc9:=bp hb9
  have hany:(a0.data.toList.any fun b=>decide (b=0))=false:=by
   rw[List.any_eq_false]
   intro b hb
   obtain⟨i,hi,rfl⟩:=List.mem_iff_getElem.1 hb
   have:=hz i hi (by have hl:=Lib.size_eq a0;omega)
   simpa using this
  refine BK (Aj (Aj (BL (Ay (t_ (w_ (a_ (h:=e_ (A6 (?_))))))))))
  refine AD ?_
  first|(exfalso;first|contradiction|omega)|(exact vi (by simp[Cy, *]))
 have hc7:=bp hb7
 refine q_ (w_ (AW (h:=a_ (h:=e_ (?_)))))
 refine A7 rfl (fun hb11=>?_) (fun hb11=>?_)
 ·have hc11:=bp hb11
  refine AM (C1 (h:=w_ (?_)))
  refine A4 rfl (Dx (len:=4) (sz:=1) (n:=0) (by kernel_rfl) rfl rfl rfl rfl ?_)
  refine l_ (h:=?_)
  refine A4 rfl (AK (Pp w.c.a0) ?_)
  rintro r rfl
  refine BR (h:=e_ (?_))
  refine A7 rfl (fun hb12=>?_) (fun hb12=>?_)
  ·have hc12:=bp hb12
   refine w_ (a_ (h:=e_ (A6 (Ag (A9 (?_))))))
   refine AD ?_
   first|(exfalso;first|contradiction|omega)|(exact vi (by simp[Cy, *]))
  have hc12:=bp hb12
  refine B4 (Ay (t_ (w_ (a_ (h:=e_ (A6 (?_)))))))
  refine AD ?_
  first|(exfalso;first|contradiction|omega)|(exact vi (by simp[Cy, *]))
 have hc11:=bp hb11
 refine AP (AW (h:=a_ (h:=e_ (?_))))
 refine A7 rfl (fun hb13=>?_) (fun hb13=>?_)
 ·have hc13:=bp hb13
  refine w_ (?_)
  refine A4 rfl (Dx (len:=4) (sz:=1) (n:=0) (by kernel_rfl) rfl rfl rfl rfl ?_)
  refine l_ (h:=?_)
  refine A4 rfl (AK (Pp w.c.a0) ?_)
  rintro r rfl
  refine BR (h:=e_ (?_))
  refine A7 rfl (fun hb14=>?_) (fun hb14=>?_)
  ·have hc14:=bp hb14
   refine w_ (a_ (h:=e_ (A6 (Ag (A9 (?_))))))
   refine AD ?_
   first|(exfalso;first|contradiction|omega)|(exact vi (by simp[Cy, *]))
  have hc14:=bp hb14
  refine B4 (Ay (t_ (w_ (a_ (h:=e_ (A6 (?_)))))))
  refine AD ?_
  first|(exfalso;first|contradiction|omega)|(exact vi (by simp[Cy, *]))
 have hc13:=bp hb13
 refine w_ (AW (h:=a_ (h:=e_ (?_))))
 refine A7 rfl (fun hb15=>?_) (fun hb15=>?_)
 ·have hc15:=bp hb15
  refine w_ (?_)
  refine A4 rfl (Dx (len:=4) (sz:=1) (n:=0) (by kernel_rfl) rfl rfl rfl rfl ?_)
  refine l_ (h:=BH (h:=m_ (h:=?_)))
  refine Ar false rfl rfl (fun hb16=>?_) (fun hb16=>?_)
  ·have hc16:=bp hb16
   refine A3 (h:=A3 (h:=A3 (h:=AX (h:=m_ (h:=A3 (h:=A3 (h:=A3 (h:=AX (h:=m_ (h:=A3 (h:=A3 (h:=A3 (h:=AX (h:=e_ (C1 (h:=w_ (a_ (h:=e_ (A6 (Ag (A9 (?_))))))))))))))))))))))
   refine AD ?_
   first|(exfalso;first|contradiction|omega)|(exact vi (by simp[Cy, *]))
  have hc16:=bp hb16
  refine B0 (Dx (len:=4) (sz:=1) (n:=0) (by kernel_rfl) rfl rfl rfl rfl ?_)
  refine l_ (h:=CC (h:=Af (h:=m_ (h:=?_))))
  refine Ar false rfl rfl (fun hb17=>?_) (fun hb17=>?_)
  ·have hc17:=bp hb17
   refine A3 (h:=A3 (h:=A3 (h:=AX (h:=m_ (h:=A3 (h:=A3 (h:=A3 (h:=AX (h:=e_ (C1 (h:=w_ (a_ (h:=e_ (A6 (Ag (A9 (?_)))))))))))))))))
   refine AD ?_
   first|(exfalso;first|contradiction|omega)|(exact vi (by simp[Cy, *]))
  have hc17:=bp hb17
  refine B0 (Dx (len:=4) (sz:=1) (n:=1) (by kernel_rfl) rfl rfl rfl rfl ?_)
  refine l_ (h:=BH (h:=Af (h:=m_ (h:=?_))))
  refine Ar false rfl rfl (fun hb18=>?_) (fun hb18=>?_)
  ·have hc18:=bp hb18
   refine A3 (h:=A3 (h:=A3 (h:=AX (h:=e_ (C1 (h:=w_ (a_ (h:=e_ (A6 (Ag (A9 (?_))))))))))))
   refine AD ?_
   first|(exfalso;first|contradiction|omega)|(exact vi (by simp[Cy, *]))
  have hc18:=bp hb18
  refine B0 (Dx (len:=4) (sz:=1) (n:=1) (by kernel_rfl) rfl rfl rfl rfl ?_)
  refine l_ (h:=CC (h:=Af (h:=e_ (?_))))
  refine A7 rfl (fun hb19=>?_) (fun hb19=>?_)
  ·have hc19:=bp hb19
   refine w_ (a_ (h:=e_ (A6 (Ag (A9 (?_))))))
   refine AD ?_
   first|(exfalso;first|contradiction|omega)|(exact vi (by simp[Cy, *]))
  have hc19:=bp hb19
  refine B4 (Ay (t_ (w_ (a_ (h:=e_ (A6 (?_)))))))
  refine AD ?_
  first|(exfalso;first|contradiction|omega)|(exact vi (by simp[Cy, *]))
 have hc15:=bp hb15
 refine w_ (AW (h:=a_ (h:=e_ (?_))))
 refine A7 rfl (fun hb20=>?_) (fun hb20=>?_)
 ·have hc20:=bp hb20
  refine w_ (m_ (h:=k_ (h:=f_ (h:=f_ (h:=l_ (h:=BN (h:=e_ (?_))))))))
  refine A7 rfl (fun hb21=>?_) (fun hb21=>?_)
  ·have hc21:=bp hb21
   refine w_ (a_ (h:=e_ (A6 (Ag (A9 (?_))))))
   refine AD ?_
   first|(exfalso;first|contradiction|omega)|(exact vi (by simp[Cy, *]))
  have hc21:=bp hb21
  refine B4 (Ay (t_ (w_ (a_ (h:=e_ (A6 (?_)))))))
  refine AD ?_
  first|(exfalso;first|contradiction|omega)|(exact vi (by simp[Cy, *]))
 have hc20:=bp hb20
 refine w_ (AW (h:=a_ (h:=e_ (?_))))
 refine A7 rfl (fun hb22=>?_) (fun hb22=>?_)
 ·have hc22:=bp hb22
  refine w_ (?_)
  refine A4 rfl (Dx (len:=4) (sz:=1) (n:=0) (by kernel_rfl) rfl rfl rfl rfl ?_)
  refine l_ (h:=BH (h:=e_ (?_)))
  refine A7 rfl (fun hb23=>?_) (fun hb23=>?_)
  ·have hc23:=bp hb23
   refine w_ (a_ (h:=e_ (A6 (Ag (A9 (?_))))))
   refine AD ?_
   first|(exfalso;first|contradiction|omega)|(exact vi (by simp[Cy, *]))
  have hc23:=bp hb23
  refine B4 (Ay (t_ (w_ (a_ (h:=e_ (A6 (?_)))))))
  refine AD ?_
  first|(exfalso;first|contradiction|omega)|(exact vi (by simp[Cy, *]))
 have hc22:=bp hb22
 refine B4 (Ay (t_ (w_ (a_ (h:=e_ (A6 (?_)))))))
 refine AD ?_
 first|(exfalso;first|contradiction|omega)|(exact vi (by simp[Cy, *]))
end
def GM(n:Int):Int:=IntKind.i64.wrap (0 - n)
def E6(s:Syst)(pid:Int)(c:Cal):Syst×Res:=
 if Da s.tab pid=false then(s,{FC with exit:= -4})else if BT c≠0 then(s,{FC with exit:= -22})
 else if(Fb s (Ax s.tab pid) c).2.2≠0 then(s,{FC with exit:=GM (Fb s (Ax s.tab pid) c).2.2,items:=(Fb s (Ax s.tab pid) c).1})
 else if(D0 (Ec s pid c)).2≠0 then(s,{FC with exit:=GM (D0 (Ec s pid c)).2,items:=(Fb s (Ax s.tab pid) c).1})
 else((D0 (Ec s pid c)).1.s,(D0 (Ec s pid c)).1.r)
def UL(R:Syst×Res):AV:= .tup [.agg (D1 R.1), .agg (D2 R.2)]
theorem dH{α:Type}{sz:Nat}{F:α→List AV}(hF:RowF sz F)(l:List α)(cap0 cap:Nat):((LB sz F l cap0).drop 0).take (l.length * sz)++List.replicate ((cap - l.length) * sz) .any=LB sz F l cap:=by
 unfold LB
 have h:=RQ (cap:=cap0) (JM hF l)
 rw[List.length_map]at h
 rw[h]
 unfold C0
 rw[List.length_map]
def Lg:List AV:=[.v (.slice none 0 0), .v (.slice none 0 0), .v (.int .i64 0), .v (.int .i64 0), .v (.slice none 0 0)]
def Lh:List AV:=[.v (.int .i64 0), .v (.int .i64 0), .v (.int .i64 0), .v (.slice none 0 0), .v (.slice none 0 0)]
def JP(r:Res)(I:AV):List AV:=[.v (.int .i64 r.exit), .v (.int .i64 r.child), .v (.int .i64 r.gone),I, .sl 7 (r.changes.map BG) none]
def GN(s:Syst)(pid:Int)(c:Cal):Wrk:=⟨s,Ax s.tab pid,c,[],FC⟩
theorem dJ(s:Syst)(pid:Int)(c:Cal):LeA (.agg (D1 s++(BV (Ax s.tab pid)++(EW c++[.v (.slice none 0 0), .v (.int .i64 0), .v (.int .i64 0), .v (.int .i64 0), .v (.slice none 0 0), .v (.slice none 0 0)])))) (.agg (Ci (GN s pid c) (.v (.slice none 0 0)) (.v (.slice none 0 0)))):=by
 refine LeA.agg ?_
 repeat (first|exact LeL.nil|refine LeL.cons (LeA.refl _) ?_|refine LeL.cons (LeA.nil _) ?_)
theorem Pz(w:Wrk)(R:Dh):(Bk w R).1.r.items.length=w.r.items.length:=by
 unfold Bk
 split<;>rfl
theorem dL(w:Wrk)(R:Tab×Int):(DR w R).1.r.items.length=w.r.items.length:=by
 unfold DR
 split<;>rfl
theorem UM(w:Wrk)(i:Nat)(a:A8):(GH w i a).r.items.length=w.r.items.length:=List.length_modify ..
theorem dM(w:Wrk)(i:Nat)(r:Int):(Eu w i r).r.items.length=w.r.items.length:=List.length_modify ..
theorem UN(w:Wrk)(i:Nat)(n:Nod):(Cc w i n).1.r.items.length=w.r.items.length:=by
 unfold Cc
 split
 ·rw[UM,Pz]
 rfl
theorem UO(w:Wrk)(a:A8):(Gf w a).1.r.items.length=w.r.items.length:=by
 unfold Gf
 rw[dL]
 rfl
theorem dO(w:Wrk):(C5 w).1.r.items.length=w.r.items.length:=by
 unfold C5
 repeat' split
 all_goals first|rfl|exact UN _ _ _|exact UO _ _|exact(UO _ _).trans (UN _ _ _)
theorem dQ(w:Wrk)(R:Dh)(x:A8):(GJ w R x).1.r.items.length=w.r.items.length:=by
 unfold GJ
 repeat' split
 all_goals first|rfl|exact Pz _ _|exact(UM _ _ _).trans ((dM _ _ _).trans (Pz _ _))
theorem dR(w:Wrk):(Dp w).1.r.items.length=w.r.items.length:=by
 unfold Dp
 repeat' split
 all_goals first|rfl|exact dQ _ _ _
theorem dS{w:Wrk}(h:w.c.num=6∨w.c.num=13):(D0 w).1.r.items.length=w.r.items.length:=by
 rcases h with h|h
 ·rw[D0,if_pos h];exact dO w
 rw[D0,if_neg (show¬w.c.num=6 by omega),if_neg (show¬w.c.num=8 by omega),if_neg (show¬(w.c.num=10∨w.c.num=12) by omega),if_pos h];exact dR w
section
variable {P:Program}{ev:Operand→Option AV}{h:AH}{R:AV→AH→Prop}{d:Option Tmp}{ty:TypeId}{pos:String}{af:Array Edge}{gd:Option (Nat×Bool)}
theorem dT{T:TypeId}{x:Operand}{a:Int}(hx:ev x=some (.v (.int .i64 a)))(hR:R (.v (.int .i64 (GM a))) h):AStep P ⟨d, .unOp .neg T x,ty,pos,af,gd⟩ ev h R:=
 Ce (fun _ G w ec _ he=>⟨.int .i64 (GM a),by
  have h1:=he x (by simp[Op.operands]) _ hx
  simp only[rep]at h1
  simp[execOp,h1,Op.unary,Op.intArith,GM],by simp only[rep]⟩) hR
end
section
theorem dU(w:Wrk)(cap:Nat)(hv:SpcV w.s.spc)(hm:w.s.spc.mounts.length≤1000)(htb:TabB w.s.tab)(hnm:∀f∈w.found,f.name.size≤12)(h6:(w.c.num=6∧1≤w.found.length∧1≤w.r.items.length)∨(w.c.num=13∧2≤w.found.length∧2≤w.r.items.length)):ACall Tryz.prog 68 [.bp 0 0] [WA w cap,IB w cap] (fun r b t=>t=[]∧r= .v (.int .i64 (D0 w).2)∧b=[WA (D0 w).1 cap,IB (D0 w).1 cap]):=by
 have hps:w.s.tab.ps.length≤1000:=by have:=htb.few;omega
 refine enter Tryz.func68 rfl rfl rfl rfl rfl 2 rfl ?_
 refine w_ (a_ (h:=e_ (q_ (w_ (m_ (h:=k_ (h:=f_ (h:=f_ (h:=l_ (h:=e_ (Al (w_ (AW (h:=a_ (h:=e_ (?_))))))))))))))))
 refine A7 rfl (fun hb1=>?_) (fun hb1=>?_)
 ·have hc1:=bp hb1
  obtain⟨f,hf⟩:∃f,w.found[0]?=some f:=⟨_,BA (by omega)⟩
  obtain⟨x,hx⟩:∃x,w.r.items[0]?=some x:=⟨_,BA (by omega)⟩
  have hact:D0 w=C5 w:=by rw[D0,if_pos hc1]
  refine w_ (m_ (h:=?_))
  refine A4 rfl (Ct [0,1] rfl (.cons _ _ _ _ _ rfl (LeA.refl _) .nil) (by decide) (.cons _ _ _ _ _ rfl rfl (.cons _ _ _ _ _ rfl (Fc BB _ _ _) .nil)) (cY w cap f x hv hm htb hf hx (by have:=hnm f (Ak hf);omega)) ?_)
  rintro r bc tc ⟨rfl,rfl,rfl⟩
  refine⟨rfl,_,Gi rfl (C5 w).1 cap,?_⟩
  refine a_ (h:=e_ (A6 (Ag (A9 (?_)))))
  refine De (r:= .v (.int .i64 (D0 w).2)) none (h5:=(by rw[hact];exact LeA.refl _)) (h6:=⟨rfl,rfl,?_⟩)
  rw[hact]
  rfl
 have hc1:=bp hb1
 refine w_ (AW (h:=a_ (h:=e_ (?_))))
 refine A7 rfl (fun hb2=>?_) (fun hb2=>?_)
 ·have hc2:=bp hb2
  exfalso;first|contradiction|omega
 have hc2:=bp hb2
 refine q_ (w_ (AW (h:=a_ (h:=e_ (?_)))))
 refine A7 rfl (fun hb3=>?_) (fun hb3=>?_)
 ·have hc3:=bp hb3
  exfalso;first|contradiction|omega
 have hc3:=bp hb3
 refine AP (AW (h:=a_ (h:=e_ (?_))))
 refine A7 rfl (fun hb4=>?_) (fun hb4=>?_)
 ·have hc4:=bp hb4
  exfalso;first|contradiction|omega
 have hc4:=bp hb4
 refine w_ (AW (h:=a_ (h:=e_ (?_))))
 refine A7 rfl (fun hb5=>?_) (fun hb5=>?_)
 ·have hc5:=bp hb5
  obtain⟨f,hf⟩:∃f,w.found[0]?=some f:=⟨_,BA (by omega)⟩
  obtain⟨g,hg⟩:∃f,w.found[1]?=some f:=⟨_,BA (by omega)⟩
  obtain⟨x,hx⟩:∃x,w.r.items[0]?=some x:=⟨_,BA (by omega)⟩
  obtain⟨x1,hx1⟩:∃x,w.r.items[1]?=some x:=⟨_,BA (by omega)⟩
  have hact:D0 w=Dp w:=by rw[D0,if_neg (show¬w.c.num=6 by omega),if_neg (show¬w.c.num=8 by omega),if_neg (show¬(w.c.num=10∨w.c.num=12) by omega),if_pos hc5]
  refine w_ (m_ (h:=?_))
  refine A4 rfl (Ct [0,1] rfl (.cons _ _ _ _ _ rfl (LeA.refl _) .nil) (by decide) (.cons _ _ _ _ _ rfl rfl (.cons _ _ _ _ _ rfl (Fc BB _ _ _) .nil)) (d7 w cap f g x x1 hv hm hps hf hg hx hx1 (by have:=hnm f (Ak hf);omega) (by have:=hnm g (Ak hg);omega)) ?_)
  rintro r bc tc ⟨rfl,rfl,rfl⟩
  refine⟨rfl,_,Gi rfl (Dp w).1 cap,?_⟩
  refine a_ (h:=e_ (A6 (Ag (A9 (?_)))))
  refine De (r:= .v (.int .i64 (D0 w).2)) none (h5:=(by rw[hact];exact LeA.refl _)) (h6:=⟨rfl,rfl,?_⟩)
  rw[hact]
  rfl
 have hc5:=bp hb5
 exfalso;first|contradiction|omega
theorem Q0(s:Syst)(pid:Int)(c:Cal)(hv:SpcV s.spc)(hm:s.spc.mounts.length≤1000)(ht:TabB s.tab)(hcp:c.paths.length≤1000)(hca:c.args.length≤1000)(h6:c.num=6∨c.num=13):AFn Tryz.prog 35 [.agg (D1 s), .v (.int .i64 pid), .agg (EW c)] (fun r=>r=UL (E6 s pid c)):=by
 have hsb:=hv.b hm
 obtain⟨W1,hW1⟩:∃W,W=Ec s pid c:=⟨_,rfl⟩
 have hwf:=dF s pid c
 rw[←hW1]at hwf
 have hWs:W1.s=s:=by rw[hW1];rfl
 have hWc:W1.c=c:=by rw[hW1];rfl
 refine enter Tryz.func35 rfl rfl rfl rfl rfl 0 rfl ?_
 refine w_ (b_ (h:=b_ (h:=AY (h:=AY (h:=e_ (w_ (f_ (h:=l_ (h:=m_ (h:=?_))))))))))
 refine A4 rfl (AK (Td s.tab pid ht) ?_)
 rintro r rfl
 refine m_ (h:=x_ (h:=x_ (h:=AY (h:=s_ (h:=a_ (h:=e_ (q_ (w_ (m_ (h:=BR (h:=e_ (?_))))))))))))
 refine A7 rfl (fun hb1=>?_) (fun hb1=>?_)
 ·have hc1:=bp hb1
  have hno:Da s.tab pid=false:=by simpa using hc1
  refine w_ (l_ (h:=?_))
  refine A4 rfl (AK (NL s hsb ht) ?_)
  rintro r rfl
  refine A4 rfl (Fk (y:= .agg (D2 {FC with exit:= -4})) (DF ⟨rfl,rfl⟩) ?_)
  refine s_ (h:=s_ (h:=e_ (A6 (A9 (?_)))))
  refine AD ?_
  rw[E6,if_pos hno];rfl
 have hc1:=bp hb1
 have hno:¬Da s.tab pid=false:=by simpa using hc1
 refine AM (q_ (w_ (l_ (h:=?_))))
 refine A4 rfl (AK (ZW c hcp hca) ?_)
 rintro r rfl
 refine BN (h:=e_ (?_))
 refine A7 rfl (fun hb2=>?_) (fun hb2=>?_)
 ·have hc2:=bp hb2
  have hck:BT c≠0:=by simpa using hc2
  refine w_ (l_ (h:=?_))
  refine A4 rfl (AK (NL s hsb ht) ?_)
  rintro r rfl
  refine A4 rfl (Fk (y:= .agg (D2 {FC with exit:= -22})) (DF ⟨rfl,rfl⟩) ?_)
  refine s_ (h:=s_ (h:=e_ (A6 (A9 (?_)))))
  refine AD ?_
  rw[E6,if_neg hno,if_pos hck];rfl
 have hc2:=bp hb2
 have hck:BT c=0:=by simpa using hc2
 obtain⟨hk1,hk2,hk3,hk4,hk5⟩:=dC hck
 have hargs:∀p∈(GN s pid c).c.args,p.size≤1000:=fun p hp=>by have:=hk5 p hp;omega
 have hpaths:∀p∈(GN s pid c).c.paths,p.size≤100000:=fun p hp=>by have:=hk4 p hp;omega
 have hpn:(c.num=6∧c.paths.length=1∧(CK c).length=1)∨(c.num=13∧c.paths.length=2∧(CK c).length=2):=by
  rcases h6 with h|h
  ·refine .inl ⟨h,?_,?_⟩
   ·rw[h]at hk1;have:(DQ 6).2.2.1=1:=rfl;omega
   simp[CK,h]
  refine .inr ⟨h,?_,?_⟩
  ·rw[h]at hk1;have:(DQ 13).2.2.1=2:=rfl;omega
  simp[CK,h]
 have hpp:(GN s pid c).c.paths.length=(CK (GN s pid c).c).length:=by show c.paths.length=(CK c).length;omega
 have hp0:0<(GN s pid c).c.paths.length:=by show 0<c.paths.length;omega
 have hzl:(c.paths.zip (CK c)).length=c.paths.length:=by rw[List.length_zip];omega
 have hil0:0<W1.r.items.length:=by rw[hwf.2.2,hzl];omega
 refine AM (q_ (BM ([(0,D1 s),(1,EW c),(4,BV (Ax s.tab pid))]) 7 (h:=?_)))
 refine AF 0 (h:=?_)
 refine AF 2 (h:=?_)
 refine AF 3 (h:=?_)
 refine c_ 1 rfl (AK (NL s hsb ht) ?_)
 rintro r rfl
 refine o_ (h:=?_)
 refine Bn 4 rfl (fun _ hS=>EN (y:= .agg (Ci (GN s pid c) (.v (.slice none 0 0)) (.v (.slice none 0 0)))) (DF ⟨rfl,rfl⟩) (dJ s pid c) ⟨rfl,rfl⟩) ?_
 refine c_ 5 rfl (Nx rfl rfl (by repeat constructor) ?_)
 refine o_ (h:=B6 6 (h:=z_ (h:=t_ (?_))))
 refine B8 (fun S=>∃cap,W1.r.items.length≤cap∧S=⟨look [(3, .bp 2 0),(6, .bp 3 0),(7, .bp 4 0),(10, .bp 0 0),(11, .v (.int .i64 (Fb s (Ax s.tab pid) c).2.2))],⟨[WA W1 cap,IB W1 cap,D1 s,Lg,Lh],[]⟩⟩) ?_ ?_
 ·skip
  refine AP (m_ (h:=m_ (h:=?_)))
  refine A4 rfl (Dy 1 rfl (.cons _ _ _ _ _ rfl (LeA.of_eq rfl) .nil) (dG (GN s pid c) (.v (.slice none 0 0)) (.v (.slice none 0 0)) (fun h=>by have:c.num=9:=h;omega) hargs) ?_)
  rintro r rfl
  refine⟨rfl,?_⟩
  refine A4 rfl (Ct [5] rfl (.cons _ _ _ _ _ rfl (LeA.refl _) (.cons _ _ _ _ _ rfl (LeA.refl _) .nil)) (by decide) (.cons _ _ _ _ _ rfl rfl .nil) (cQ (GN s pid c) (Cy (Ax s.tab pid) c) hv hm hpp (by show c.paths.length≤1000;omega) hp0 hpaths) ?_)
  rintro r bc tc ⟨rfl,cap,hcap,rfl,rfl⟩
  refine⟨rfl,_,dD (GN s pid c) _ _ cap _,?_⟩
  refine a_ (h:=AO (?_))
  refine AE ?_
  rw[hW1]
  exact⟨_,⟨cap,hcap,rfl⟩,Em [5,6,0,2,3] (fun i hi=>absurd hi (Nat.not_lt_zero i)) (by decide) (.cons _ _ _ _ _ rfl rfl (.cons _ _ _ _ _ rfl (JN BB _ _ _) (.cons _ _ _ _ _ rfl rfl (.cons _ _ _ _ _ rfl rfl (.cons _ _ _ _ _ rfl rfl .nil))))) (by repeat (first|exact SubK.nil|refine SubK.cons _ _ _ _ rfl (LeA.refl _) ?_))⟩
 rintro S ⟨cap,hcap,rfl⟩
 refine w_ (m_ (h:=k_ (h:=f_ (h:=f_ (h:=l_ (h:=?_))))))
 refine A4 rfl (MS rfl rfl (SrcA.bs 1 0 _ cap _ rfl (by rw[show IB W1 cap=LB 13 CL W1.r.items cap from rfl,Pk BB hcap];omega)) hil0 (by rw[hwf.2.2,hzl];omega) ?_)
 rintro cap2 k bx2 hcp2 hs
 rw[show((IB W1 cap).drop 0).take (W1.r.items.length * 13)++List.replicate ((cap2 - W1.r.items.length) * 13) AV.any=LB 13 CL W1.r.items cap2 from dH BB _ cap cap2]at hs
 obtain⟨rfl,rfl⟩:k=5∧bx2=[_,_,_,_,_,_]:=hs.eq
 refine a_ (h:=e_ (?_))
 refine B8 (fun S=>∃(W2:Wrk) (E2:Int),((¬(Fb s (Ax s.tab pid) c).2.2=0∧E2=(Fb s (Ax s.tab pid) c).2.2)∨((Fb s (Ax s.tab pid) c).2.2=0∧W2=(D0 W1).1∧E2=(D0 W1).2))∧S=⟨look [(3, .bp 2 0),(6, .bp 3 0),(7, .bp 4 0),(10, .bp 0 0),(11, .v (.int .i64 E2)),(12, .bs 5 0 13 W1.r.items.length cap2)],⟨[WA W2 cap,IB W2 cap,D1 s,Lg,Lh,LB 13 CL W1.r.items cap2],[]⟩⟩) ?_ ?_
 ·skip
  refine w_ (m_ (h:=AW (h:=e_ (?_))))
  refine A7 rfl (fun hb3=>?_) (fun hb3=>?_)
  ·have hc3:=bp hb3
   have he1:(Fb s (Ax s.tab pid) c).2.2=0:=by simpa using hc3
   refine AP (m_ (h:=?_))
   refine A4 rfl (Ct [0,1] rfl (.cons _ _ _ _ _ rfl (LeA.refl _) .nil) (by decide) (.cons _ _ _ _ _ rfl rfl (.cons _ _ _ _ _ rfl (Fc BB _ _ _) .nil)) (dU W1 cap (by rw[hWs];exact hv) (by rw[hWs];exact hm) (by rw[hWs];exact ht) hwf.1 (by rw[hWc,hwf.2.1,hwf.2.2,hzl];omega)) ?_)
   rintro r bc tc ⟨rfl,rfl,rfl⟩
   refine⟨rfl,_,Gi rfl (D0 W1).1 cap,?_⟩
   refine a_ (h:=AO (?_))
   refine AE ?_
   exact⟨_,⟨(D0 W1).1,(D0 W1).2, .inr ⟨he1,rfl,rfl⟩,rfl⟩,As 6 0 rfl rfl rfl (by simp[Aq,Am,Ao,Bh BB,CF,WA,IB,Cd,D1,Lg,Lh]) ((by repeat (first|exact Sub.nil|refine Sub.cons _ _ _ rfl rfl ?_|refine Sub.any _ _ ?_|refine Sub.sl _ _ _ _ _ rfl ?_|refine Sub.slnil _ _ _ rfl ?_)))⟩
  have hc3:=bp hb3
  have he1:¬(Fb s (Ax s.tab pid) c).2.2=0:=by simpa using hc3
  refine B4 (?_)
  refine AE ?_
  first|exact⟨_,⟨(D0 W1).1,(D0 W1).2, .inr ⟨he1,rfl,rfl⟩,rfl⟩,As 6 0 rfl rfl rfl (by simp[Aq,Am,Ao,Bh BB,CF,WA,IB,Cd,D1,Lg,Lh]) ((by repeat (first|exact Sub.nil|refine Sub.cons _ _ _ rfl rfl ?_|refine Sub.any _ _ ?_|refine Sub.sl _ _ _ _ _ rfl ?_|refine Sub.slnil _ _ _ rfl ?_)))⟩|exact⟨_,⟨W1,_, .inl ⟨he1,rfl⟩,rfl⟩,As 6 0 rfl rfl rfl (by simp[Aq,Am,Ao,Bh BB,CF,WA,IB,Cd,D1,Lg,Lh]) ((by repeat (first|exact Sub.nil|refine Sub.cons _ _ _ rfl rfl ?_|refine Sub.any _ _ ?_|refine Sub.sl _ _ _ _ _ rfl ?_|refine Sub.slnil _ _ _ rfl ?_)))⟩
 rintro S ⟨W2,E2,hQ,rfl⟩
 refine q_ (w_ (m_ (h:=BN (h:=e_ (?_)))))
 refine A7 rfl (fun hb4=>?_) (fun hb4=>?_)
 ·have hc4:=bp hb4
  have he2:E2≠0:=by simpa using hc4
  have hrun:E6 s pid c=(s,{FC with exit:=GM E2,items:=W1.r.items}):=by
   rw[E6,if_neg hno,if_neg (by simp[hck])]
   rcases hQ with⟨q1,q2⟩|⟨q1,q2,q3⟩
   ·rw[if_pos q1,←q2,hW1];rfl
   rw[if_neg (by simp[q1]),←hW1,←q3,if_pos he2,hW1];rfl
  refine B8 (fun S=>S=⟨look [(6, .bp 0 0),(7, .bp 1 0)],⟨[D1 s,JP {FC with exit:=GM E2} (.sl 13 (W1.r.items.map CL) none)],[]⟩⟩) ?_ ?_
  ·skip
   refine AP (l_ (h:=?_))
   refine A4 rfl (AK (NL s hsb ht) ?_)
   rintro r rfl
   refine m_ (h:=?_)
   refine A4 rfl (dT rfl ?_)
   refine m_ (h:=?_)
   refine A4 rfl (Fk (y:= .agg (JP {FC with exit:=GM E2} (.bs 5 0 13 W1.r.items.length cap2))) (DF ⟨rfl,rfl⟩) ?_)
   refine s_ (h:=s_ (h:=AO (?_)))
   refine AE ?_
   refine⟨_,rfl,(Em [3,4,5] (rows:=[D1 s,JP {FC with exit:=GM E2} (.bs 2 0 13 W1.r.items.length cap2),LB 13 CL W1.r.items cap2]) (l:=[(6, .bp 0 0),(7, .bp 1 0)]) (fun i hi=>absurd hi (Nat.not_lt_zero i)) (by decide) (.cons _ _ _ _ _ rfl rfl (.cons _ _ _ _ _ rfl rfl (.cons _ _ _ _ _ rfl (JN BB _ _ _) .nil))) (by repeat (first|exact SubK.nil|refine SubK.cons _ _ _ _ rfl (LeA.refl _) ?_))).trans (F4 2 1 rfl (congrArg (fun x=>[D1 s,JP {FC with exit:=GM E2} x]) (Pm BB rfl rfl hcp2)) (.cons _ _ _ _ rfl (LeA.refl _) (.cons _ _ _ _ rfl (LeA.refl _) .nil)))⟩
  rintro S rfl
  refine A6 (A9 (?_))
  refine Aw (r:=UL (E6 s pid c)) none (h5:=(by rw[hrun];exact(by repeat (first|exact LeA.refl _|exact LeA.nil _|exact LeL.refl _|refine LeA.agg ?_|refine LeA.tup ?_|exact LeL.nil|refine LeL.cons ?_ ?_|exact LeA.any _)))) (h6:=⟨rfl,rfl,rfl⟩)
 have hc4:=bp hb4
 have he2:E2=0:=by simpa using hc4
 have hlen2:W2.r.items.length≤cap:=by
  rcases hQ with⟨q1,q2⟩|⟨q1,q2,q3⟩
  ·exact absurd (q2.symm.trans he2) q1
  rw[q2,dS (by rw[hWc];exact h6)];exact hcap
 have hrun:E6 s pid c=(W2.s,W2.r):=by
  rcases hQ with⟨q1,q2⟩|⟨q1,q2,q3⟩
  ·exact absurd (q2.symm.trans he2) q1
  rw[E6,if_neg hno,if_neg (by simp[hck]),if_neg (by simp[q1]),←hW1,←q3,if_neg (by simp[he2]),q2]
 refine AM (?_)
 refine B8 (fun S=>S=⟨look [(6, .bp 0 0),(7, .bp 1 0)],⟨[D1 W2.s,JP W2.r (.sl 13 (W2.r.items.map CL) none)],[]⟩⟩) ?_ ?_
 ·skip
  refine BM ([(0,WA W2 cap)]) 10 (h:=AN 0 (h:=BC 1 (h:=AJ 2 (h:=AF 3 (h:=AN 4 (h:=BC 5 (h:=AJ 6 (h:=AF 7 (h:=?_)))))))))
  refine Az 8 rfl (Av rfl rfl rfl rfl rfl rfl (by repeat constructor) (by repeat constructor) ?_)
  refine o_ (h:=?_)
  refine Az 9 rfl (Av rfl rfl rfl rfl rfl rfl (by repeat constructor) (by repeat constructor) ?_)
  refine o_ (h:=z_ (h:=?_))
  refine AE ?_
  refine⟨_,rfl,(Em [3,4,1] (rows:=[D1 W2.s,JP W2.r (.bs 2 0 13 W2.r.items.length cap),LB 13 CL W2.r.items cap]) (l:=[(6, .bp 0 0),(7, .bp 1 0)]) (fun i hi=>absurd hi (Nat.not_lt_zero i)) (by decide) (.cons _ _ _ _ _ rfl rfl (.cons _ _ _ _ _ rfl rfl (.cons _ _ _ _ _ rfl (JN BB _ _ _) .nil))) (by repeat (first|exact SubK.nil|refine SubK.cons _ _ _ _ rfl (LeA.refl _) ?_))).trans (F4 2 1 rfl (congrArg (fun x=>[D1 W2.s,JP W2.r x]) (Pm BB rfl rfl hlen2)) (.cons _ _ _ _ rfl (LeA.refl _) (.cons _ _ _ _ rfl (LeA.refl _) .nil)))⟩
 rintro S rfl
 refine A6 (?_)
 refine AD ?_
 rw[hrun];rfl
end
structure Wch where
 kind:Int
 dir:A8
 name:AB
 file:A8
deriving DecidableEq
def Ed:Wch:=⟨0,(0,0),⟨#[]⟩,(0,0)⟩
def CG(w:Wch):List AV:=[.v (.int .i64 w.kind), .v (.int .i64 w.dir.1), .v (.int .i64 w.dir.2), .v (.string w.name), .v (.int .i64 w.file.1), .v (.int .i64 w.file.2)]
def JQ(s:Spc)(a:A8):Bool:=Ai s.files a&&Bu s a.1
def FF(s:Spc)(k:Int)(p:AB):Wch×Int:=
 if(k≠1∧k≠2)∨DG p.data.toList=false then(Ed,22)
 else if(BU s (0,0) p (decide (k=2))).2≠0 then(Ed,(BU s (0,0) p (decide (k=2))).2)
 else if k=2 then
  (if(BU s (0,0) p true).1.ex=false then(Ed,2)else if Ai s.files (BU s (0,0) p true).1.file=false then(Ed,20)
  else(⟨k,(0,0),⟨#[]⟩,(BU s (0,0) p true).1.file⟩,0))
 else if(BU s (0,0) p false).1.name=⟨#[]⟩then(Ed,22)
 else(⟨k,(BU s (0,0) p false).1.dir,(BU s (0,0) p false).1.name,(AG s.files (BU s (0,0) p false).1.dir (BU s (0,0) p false).1.name).1⟩,0)
def Br(w:Wch):A8:=if w.kind=2 then w.file else w.dir
def KA(s:Spc)(w:Wch):Wch×Bool:=
 if(w.kind≠1∧w.kind≠2)∨JQ s (Br w)=false then(Ed,false)
 else if w.kind=1 then({w with file:=(AG s.files w.dir w.name).1},true)else(w,true)
def Q1(w:Wch)(l:List CR):Wch:=if w.kind=1 then{w with file:=l.foldl (fun a c=>if c.1=w.dir∧c.2.1=w.name then c.2.2.2 else a) w.file}else w
def KC(w:Wch)(gone:Int)(l:List CR):Wch×Bool:=
 if(w.kind≠1∧w.kind≠2)∨(gone≠0∧gone=(Br w).1)∨((l.any fun c=>decide (c.2.2.1=Br w))=true∧(l.any fun c=>decide (c.2.2.2=Br w))=false)then(Ed,false)
 else(Q1 w l,true)
theorem KD(a b:A8)(w:World):(binOp .eql 36 (.agg #[.int .i64 a.1, .int .i64 a.2]) (.agg #[.int .i64 b.1, .int .i64 b.2])).run Tryz.prog w= .ok (.bool (decide (a=b))) w:=Jh a.1 a.2 b.1 b.2 w
def Q2(R:Wch×Int):AV:= .tup [.agg (CG R.1), .v (.int .i64 R.2)]
def Li(R:Wch×Bool):AV:= .tup [.agg (CG R.1), .v (.bool R.2)]
theorem UP(s:Spc)(k:Int)(p:AB)(F:Fnd×Int)(hF:BU s (0,0) p (decide (k=2))=F):FF s k p=if(k≠1∧k≠2)∨DG p.data.toList=false then(Ed,22)else if F.2≠0 then(Ed,F.2)
    else if k=2 then(if F.1.ex=false then(Ed,2)else if Ai s.files F.1.file=false then(Ed,20)else(⟨k,(0,0),⟨#[]⟩,F.1.file⟩,0))
    else if F.1.name=⟨#[]⟩then(Ed,22)else(⟨k,F.1.dir,F.1.name,(AG s.files F.1.dir F.1.name).1⟩,0):=by
 unfold FF
 rw[hF]
 by_cases h:k=2
 ·rw[decide_eq_true h]at hF
  simp only[if_pos h,hF]
 rw[decide_eq_false h]at hF
 simp only[if_neg h,hF]
theorem dV{f:AR}{dir:A8}{name:AB}(h:(AG f dir name).2≠0):(AG f dir name).1=(0,0):=by
 unfold AG at h ⊢
 split
 ·rfl
 rename_i n e
 rw[e]at h
 simp only at h
 split at h
 ·rename_i c
  rw[if_pos c]
  split
  ·rfl
  rename_i e2;rw[e2]at h;exact absurd rfl h
 rename_i c;rw[if_neg c]
section
theorem UQ(s:AB)(hs:s.size≤60000):AFn Tryz.prog 51 [.v (.string s)] (fun r=>r= .v (.bool (DG s.data.toList))):=MH (us:=[.string s]) fun w=>aS s w (by omega)
theorem UR(s:Spc)(a:A8)(hs:SpcB s):AFn Tryz.prog 54 [.agg (Ap s), .agg (AA a)] (fun r=>r= .v (.bool (Ai s.files a))):=by
 refine enter Tryz.func54 rfl rfl rfl rfl rfl 0 rfl ?_
 refine w_ (b_ (h:=b_ (h:=a_ (h:=e_ (w_ (f_ (h:=l_ (h:=l_ (h:=?_)))))))))
 refine A4 rfl (AK (G9 s.files a hs.files) ?_)
 rintro r rfl
 refine m_ (h:=x_ (h:=x_ (h:=AY (h:=s_ (h:=a_ (h:=e_ (w_ (m_ (h:=m_ (h:=?_))))))))))
 refine Ar true rfl rfl (fun hb1=>?_) (fun hb1=>?_)
 ·have hc1:=bp hb1
  refine f_ (h:=l_ (h:=AW (h:=AX (h:=a_ (h:=e_ (A6 (?_)))))))
  refine AD ?_
  first|(exfalso;first|contradiction|omega)|(exact vb (by simp[FR, *]))
 have hc1:=bp hb1
 refine A3 (h:=A3 (h:=A3 (h:=Af (h:=a_ (h:=e_ (A6 (?_)))))))
 refine AD ?_
 first|(exfalso;first|contradiction|omega)|(exact vb (by simp[FR, *]))
theorem US(s:Spc)(a:A8)(hs:SpcB s):AFn Tryz.prog 58 [.agg (Ap s), .agg (AA a)] (fun r=>r= .v (.bool (JQ s a))):=by
 refine enter Tryz.func58 rfl rfl rfl rfl rfl 0 rfl ?_
 refine w_ (b_ (h:=b_ (h:=a_ (h:=e_ (w_ (l_ (h:=l_ (h:=?_))))))))
 refine A4 rfl (AK (UR s a hs) ?_)
 rintro r rfl
 refine m_ (h:=?_)
 refine Ar true rfl rfl (fun hb1=>?_) (fun hb1=>?_)
 ·have hc1:=bp hb1
  refine l_ (h:=f_ (h:=l_ (h:=?_)))
  refine B0 (AK (RL s a.1 hs) ?_)
  rintro r rfl
  refine AX (h:=a_ (h:=e_ (A6 (?_))))
  refine AD ?_
  first|(exfalso;first|contradiction|omega)|(exact vb (by simp[JQ, *]))
 have hc1:=bp hb1
 refine A3 (h:=A3 (h:=A3 (h:=A3 (h:=Af (h:=a_ (h:=e_ (A6 (?_))))))))
 refine AD ?_
 first|(exfalso;first|contradiction|omega)|(exact vb (by simp[JQ, *]))
theorem UT(s:Spc)(a:A8)(name:AB)(hs:SpcB s):AFn Tryz.prog 53 [.agg (Ap s), .agg (AA a), .v (.string name)] (fun r=>r= .agg (AA (AG s.files a name).1)):=by
 refine enter Tryz.func53 rfl rfl rfl rfl rfl 0 rfl ?_
 refine w_ (b_ (h:=b_ (h:=AY (h:=e_ (w_ (f_ (h:=l_ (h:=l_ (h:=m_ (h:=?_))))))))))
 refine A4 rfl (AK (Pu s.files a name hs.files) ?_)
 rintro r rfl
 refine m_ (h:=x_ (h:=x_ (h:=AY (h:=s_ (h:=a_ (h:=e_ (q_ (w_ (m_ (h:=BN (h:=e_ (?_))))))))))))
 refine A7 rfl (fun hb1=>?_) (fun hb1=>?_)
 ·have hc1:=bp hb1
  refine w_ (AU (h:=s_ (h:=e_ (A6 (A9 (?_))))))
  refine AD ?_
  rw[dV (by simpa using hc1)]
  rfl
 have hc1:=bp hb1
 refine AM (w_ (l_ (h:=s_ (h:=e_ (A6 (?_))))))
 refine AD ?_
 rfl
theorem Q3(w:Wch)(hk:w.kind=1∨w.kind=2):AFn Tryz.prog 59 [.agg (CG w)] (fun r=>r= .agg (AA (Br w))):=by
 refine enter Tryz.func59 rfl rfl rfl rfl rfl 0 rfl ?_
 refine w_ (b_ (h:=AY (h:=e_ (q_ (w_ (f_ (h:=l_ (h:=AW (h:=e_ (?_))))))))))
 refine A7 rfl (fun hb1=>?_) (fun hb1=>?_)
 ·have hc1:=bp hb1
  refine w_ (f_ (h:=l_ (h:=s_ (h:=e_ (A6 (A9 (?_)))))))
  refine AD ?_
  rw[Br,if_neg (by omega)]
  rfl
 have hc1:=bp hb1
 refine AM (w_ (f_ (h:=l_ (h:=s_ (h:=e_ (A6 (?_)))))))
 refine AD ?_
 rw[Br,if_pos (by omega)]
 rfl
theorem Q4(s:Spc)(k:Int)(p:AB)(hv:SpcV s)(hm:s.mounts.length≤1000)(hp:p.size≤50000):AFn Tryz.prog 18 [.agg (Ap s), .v (.int .i64 k), .v (.string p)] (fun r=>r=Q2 (FF s k p)):=by
 have hsb:=hv.b hm
 obtain⟨F,hF⟩:∃F,BU s (0,0) p (decide (k=2))=F:=⟨_,rfl⟩
 have hw:=UP s k p F hF
 have hfind:AFn Tryz.prog 56 [.agg (Ap s), .agg (AA (0,0)), .v (.string p), .v (.bool (decide (k=2)))] (fun r=>r= .tup [.agg (Au F.1), .v (.int .i64 F.2)]):=by rw[←hF];exact U7 s (0,0) p _ (hv.n hm) hv (by omega)
 refine enter Tryz.func18 rfl rfl rfl rfl rfl 0 rfl ?_
 refine w_ (b_ (h:=AY (h:=a_ (h:=e_ (q_ (?_))))))
 refine B8 (fun S=>S=⟨look [(1, .v (.int .i64 k)),(2, .v (.string p)),(3, .bp 0 0),(6, .bp 1 0),(22, .v (.bool ((!decide (k=1)&& !decide (k=2))|| !DG p.data.toList)))],⟨[Ap s,[.v (.int .i64 0), .v (.int .i64 0), .v (.int .i64 0), .v (.string ⟨#[]⟩), .v (.int .i64 0), .v (.int .i64 0)]],[]⟩⟩) ?_ ?_
 ·skip
  refine AP (m_ (h:=BN (h:=m_ (h:=?_))))
  refine Ar true rfl rfl (fun hb1=>?_) (fun hb1=>?_)
  ·have hc1:=bp hb1
   refine m_ (h:=BN (h:=AX (h:=m_ (h:=?_))))
   refine Ar false rfl rfl (fun hb2=>?_) (fun hb2=>?_)
   ·have hc2:=bp hb2
    refine A3 (h:=A3 (h:=A3 (h:=AX (h:=AO (?_)))))
    refine AE ?_
    exact⟨_,rfl,C6 2 0 rfl⟩
   have hc2:=bp hb2
   refine m_ (h:=?_)
   refine B0 (AK (TC p hp) ?_)
   rintro r rfl
   refine BR (h:=Af (h:=AO (?_)))
   refine AE ?_
   exact⟨_,rfl,C6 2 0 rfl⟩
  have hc1:=bp hb1
  refine A3 (h:=A3 (h:=Af (h:=m_ (h:=m_ (h:=?_)))))
  refine B0 (AK (TC p hp) ?_)
  rintro r rfl
  refine BR (h:=Af (h:=AO (?_)))
  refine AE ?_
  exact⟨_,rfl,C6 2 0 rfl⟩
 rintro S rfl
 refine A7 rfl (fun hb3=>?_) (fun hb3=>?_)
 ·have hc3:=bp hb3
  have k1:(k≠1∧k≠2)∨DG p.data.toList=false:=by simpa using hc3
  refine w_ (AU (h:=s_ (h:=a_ (h:=e_ (A6 (A9 (?_)))))))
  refine AD ?_
  rw[hw,if_pos k1]
  rfl
 have hc3:=bp hb3
 have k1:¬((k≠1∧k≠2)∨DG p.data.toList=false):=by simpa using hc3
 refine AM (w_ (l_ (h:=AU (h:=m_ (h:=m_ (h:=AW (h:=?_)))))))
 refine A4 rfl (AK (hfind) ?_)
 rintro r rfl
 refine m_ (h:=x_ (h:=x_ (h:=AY (h:=s_ (h:=a_ (h:=e_ (q_ (w_ (m_ (h:=BN (h:=e_ (?_))))))))))))
 refine A7 rfl (fun hb4=>?_) (fun hb4=>?_)
 ·have hc4:=bp hb4
  have k2:F.2≠0:=by simpa using hc4
  refine w_ (AU (h:=m_ (h:=s_ (h:=a_ (h:=e_ (A6 (A9 (?_))))))))
  refine AD ?_
  rw[hw,if_neg k1,if_pos k2]
  rfl
 have hc4:=bp hb4
 have k2:¬F.2≠0:=by simpa using hc4
 refine AM (q_ (w_ (m_ (h:=AW (h:=e_ (?_))))))
 refine A7 rfl (fun hb5=>?_) (fun hb5=>?_)
 ·have hc5:=bp hb5
  have k3:k=2:=hc5
  refine q_ (w_ (f_ (h:=l_ (h:=BR (h:=e_ (?_))))))
  refine A7 rfl (fun hb6=>?_) (fun hb6=>?_)
  ·have hc6:=bp hb6
   have k4:F.1.ex=false:=by simpa using hc6
   refine w_ (AU (h:=s_ (h:=a_ (h:=e_ (A6 (A9 (A9 (?_))))))))
   refine AD ?_
   rw[hw,if_neg k1,if_neg k2,if_pos k3,if_pos k4]
   rfl
  have hc6:=bp hb6
  have k4:¬F.1.ex=false:=by simpa using hc6
  refine AM (q_ (w_ (f_ (h:=l_ (h:=f_ (h:=l_ (h:=?_)))))))
  refine A4 rfl (AK (Fl s.files F.1.file hsb.files) ?_)
  rintro r rfl
  refine BR (h:=e_ (?_))
  refine A7 rfl (fun hb7=>?_) (fun hb7=>?_)
  ·have hc7:=bp hb7
   have k5:Ai s.files F.1.file=false:=by simpa using hc7
   refine w_ (AU (h:=s_ (h:=a_ (h:=e_ (A6 (A9 (A9 (?_))))))))
   refine AD ?_
   rw[hw,if_neg k1,if_neg k2,if_pos k3,if_neg k4,if_pos k5]
   rfl
  have hc7:=bp hb7
  have k5:¬Ai s.files F.1.file=false:=by simpa using hc7
  refine AM (w_ (m_ (h:=f_ (h:=l_ (h:=AU (h:=s_ (h:=a_ (h:=e_ (A6 (A9 (?_)))))))))))
  refine AD ?_
  rw[hw,if_neg k1,if_neg k2,if_pos k3,if_neg k4,if_neg k5]
  rfl
 have hc5:=bp hb5
 have k3:¬k=2:=hc5
 refine AM (q_ (w_ (f_ (h:=l_ (h:=AW (h:=e_ (?_)))))))
 refine A7 rfl (fun hb8=>?_) (fun hb8=>?_)
 ·have hc8:=bp hb8
  have k6:F.1.name=⟨#[]⟩:=hc8
  refine w_ (AU (h:=s_ (h:=a_ (h:=e_ (A6 (A9 (?_)))))))
  refine AD ?_
  rw[hw,if_neg k1,if_neg k2,if_neg k3,if_pos k6]
  rfl
 have hc8:=bp hb8
 have k6:¬F.1.name=⟨#[]⟩:=hc8
 refine AM (w_ (f_ (h:=l_ (h:=f_ (h:=l_ (h:=f_ (h:=l_ (h:=?_))))))))
 refine A4 rfl (AK (G8 s.files F.1.dir F.1.name hsb.files) ?_)
 rintro r rfl
 refine m_ (h:=x_ (h:=x_ (h:=AY (h:=s_ (h:=a_ (h:=e_ (w_ (m_ (h:=f_ (h:=l_ (h:=f_ (h:=l_ (h:=l_ (h:=AU (h:=s_ (h:=a_ (h:=e_ (A6 (?_)))))))))))))))))))
 refine AD ?_
 rw[hw,if_neg k1,if_neg k2,if_neg k3,if_neg k6]
 rfl
theorem dW(s:Spc)(k:Int)(p:AB)(hv:SpcV s)(hm:s.mounts.length≤1000)(hp:p.size≤50000):AFn Tryz.prog 17 [.agg (Ap s), .v (.int .i64 k), .v (.string p)] (fun r=>r=Q2 (FF s k p)):=by
 have hsb:=hv.b hm
 obtain⟨F,hF⟩:∃F,BU s (0,0) p (decide (k=2))=F:=⟨_,rfl⟩
 have hw:=UP s k p F hF
 have hfind:AFn Tryz.prog 52 [.agg (Ap s), .agg (AA (0,0)), .v (.string p), .v (.bool (decide (k=2)))] (fun r=>r= .tup [.agg (Au F.1), .v (.int .i64 F.2)]):=by rw[←hF];exact bW s (0,0) p _ (hv.n hm) hv (by omega)
 refine enter Tryz.func17 rfl rfl rfl rfl rfl 0 rfl ?_
 refine w_ (b_ (h:=AY (h:=a_ (h:=e_ (q_ (?_))))))
 refine B8 (fun S=>S=⟨look [(1, .v (.int .i64 k)),(2, .v (.string p)),(3, .bp 0 0),(6, .bp 1 0),(20, .v (.bool ((!decide (k=1)&& !decide (k=2))|| !DG p.data.toList)))],⟨[Ap s,[.v (.int .i64 0), .v (.int .i64 0), .v (.int .i64 0), .v (.string ⟨#[]⟩), .v (.int .i64 0), .v (.int .i64 0)]],[]⟩⟩) ?_ ?_
 ·skip
  refine AP (m_ (h:=BN (h:=m_ (h:=?_))))
  refine Ar true rfl rfl (fun hb1=>?_) (fun hb1=>?_)
  ·have hc1:=bp hb1
   refine m_ (h:=BN (h:=AX (h:=m_ (h:=?_))))
   refine Ar false rfl rfl (fun hb2=>?_) (fun hb2=>?_)
   ·have hc2:=bp hb2
    refine A3 (h:=A3 (h:=A3 (h:=AX (h:=AO (?_)))))
    refine AE ?_
    exact⟨_,rfl,C6 2 0 rfl⟩
   have hc2:=bp hb2
   refine m_ (h:=?_)
   refine B0 (AK (UQ p (by omega)) ?_)
   rintro r rfl
   refine BR (h:=Af (h:=AO (?_)))
   refine AE ?_
   exact⟨_,rfl,C6 2 0 rfl⟩
  have hc1:=bp hb1
  refine A3 (h:=A3 (h:=Af (h:=m_ (h:=m_ (h:=?_)))))
  refine B0 (AK (UQ p (by omega)) ?_)
  rintro r rfl
  refine BR (h:=Af (h:=AO (?_)))
  refine AE ?_
  exact⟨_,rfl,C6 2 0 rfl⟩
 rintro S rfl
 refine A7 rfl (fun hb3=>?_) (fun hb3=>?_)
 ·have hc3:=bp hb3
  have k1:(k≠1∧k≠2)∨DG p.data.toList=false:=by simpa using hc3
  refine w_ (AU (h:=s_ (h:=a_ (h:=e_ (A6 (A9 (?_)))))))
  refine AD ?_
  rw[hw,if_pos k1]
  rfl
 have hc3:=bp hb3
 have k1:¬((k≠1∧k≠2)∨DG p.data.toList=false):=by simpa using hc3
 refine AM (w_ (l_ (h:=AU (h:=m_ (h:=m_ (h:=AW (h:=?_)))))))
 refine A4 rfl (AK (hfind) ?_)
 rintro r rfl
 refine m_ (h:=x_ (h:=x_ (h:=AY (h:=s_ (h:=a_ (h:=e_ (q_ (w_ (m_ (h:=BN (h:=e_ (?_))))))))))))
 refine A7 rfl (fun hb4=>?_) (fun hb4=>?_)
 ·have hc4:=bp hb4
  have k2:F.2≠0:=by simpa using hc4
  refine w_ (AU (h:=m_ (h:=s_ (h:=a_ (h:=e_ (A6 (A9 (?_))))))))
  refine AD ?_
  rw[hw,if_neg k1,if_pos k2]
  rfl
 have hc4:=bp hb4
 have k2:¬F.2≠0:=by simpa using hc4
 refine AM (q_ (w_ (m_ (h:=AW (h:=e_ (?_))))))
 refine A7 rfl (fun hb5=>?_) (fun hb5=>?_)
 ·have hc5:=bp hb5
  have k3:¬k=2:=by omega
  refine q_ (w_ (f_ (h:=l_ (h:=AW (h:=e_ (?_))))))
  refine A7 rfl (fun hb6=>?_) (fun hb6=>?_)
  ·have hc6:=bp hb6
   have k6:F.1.name=⟨#[]⟩:=hc6
   refine w_ (AU (h:=s_ (h:=a_ (h:=e_ (A6 (A9 (A9 (?_))))))))
   refine AD ?_
   rw[hw,if_neg k1,if_neg k2,if_neg k3,if_pos k6]
   rfl
  have hc6:=bp hb6
  have k6:¬F.1.name=⟨#[]⟩:=hc6
  refine AM (q_ (BM ([(0,Ap s),(2,Au F.1)]) 14 (h:=AN 0 (h:=AJ 1 (h:=?_)))))
  refine AF 2 (h:=?_)
  refine AJ 3 (h:=?_)
  refine AF 4 (h:=?_)
  refine AF 5 (h:=?_)
  refine AJ 6 (h:=?_)
  refine AF 7 (h:=?_)
  refine AJ 8 (h:=?_)
  refine AF 9 (h:=?_)
  refine c_ 10 rfl (AK (UT s F.1.dir F.1.name hsb) ?_)
  rintro r rfl
  refine o_ (h:=EP 11 (h:=?_))
  refine Az 12 rfl (Av rfl rfl rfl rfl rfl rfl (by repeat constructor) (by repeat constructor) ?_)
  refine o_ (h:=B6 13 (h:=z_ (h:=t_ (A6 (A9 (?_))))))
  refine AD ?_
  rw[hw,if_neg k1,if_neg k2,if_neg k3,if_neg k6]
  rfl
 have hc5:=bp hb5
 have k3:k=2:=by simp at k1;omega
 refine AM (q_ (w_ (f_ (h:=l_ (h:=BR (h:=e_ (?_)))))))
 refine A7 rfl (fun hb7=>?_) (fun hb7=>?_)
 ·have hc7:=bp hb7
  have k4:F.1.ex=false:=by simpa using hc7
  refine w_ (AU (h:=s_ (h:=a_ (h:=e_ (A6 (A9 (?_)))))))
  refine AD ?_
  rw[hw,if_neg k1,if_neg k2,if_pos k3,if_pos k4]
  rfl
 have hc7:=bp hb7
 have k4:¬F.1.ex=false:=by simpa using hc7
 refine AM (q_ (w_ (l_ (h:=f_ (h:=l_ (h:=?_))))))
 refine A4 rfl (AK (UR s F.1.file hsb) ?_)
 rintro r rfl
 refine BR (h:=e_ (?_))
 refine A7 rfl (fun hb8=>?_) (fun hb8=>?_)
 ·have hc8:=bp hb8
  have k5:Ai s.files F.1.file=false:=by simpa using hc8
  refine w_ (AU (h:=s_ (h:=a_ (h:=e_ (A6 (A9 (?_)))))))
  refine AD ?_
  rw[hw,if_neg k1,if_neg k2,if_pos k3,if_neg k4,if_pos k5]
  rfl
 have hc8:=bp hb8
 have k5:¬Ai s.files F.1.file=false:=by simpa using hc8
 refine AM (w_ (m_ (h:=f_ (h:=l_ (h:=AU (h:=s_ (h:=a_ (h:=e_ (A6 (?_))))))))))
 refine AD ?_
 rw[hw,if_neg k1,if_neg k2,if_pos k3,if_neg k4,if_neg k5]
 rfl
end
def E7:List AV:=[.v (.int .i64 0), .v (.int .i64 0), .v (.int .i64 0), .v (.string ⟨#[]⟩), .v (.int .i64 0), .v (.int .i64 0)]
theorem UU{α:Type}{l:List α}{j:Nat}{x:α}(h:l[j]?=some x)(p:α→Bool):(l.take (j+1)).any p=((l.take j).any p||p x):=by
 rw[List.take_add_one,h,List.any_append]
 simp
def Ho(w:Wch)(l:List CR):A8:=l.foldl (fun a c=>if c.1=w.dir∧c.2.1=w.name then c.2.2.2 else a) w.file
theorem Q5{w:Wch}{l:List CR}{j:Nat}{c:CR}(h:l[j]?=some c):Ho w (l.take (j+1))=if(decide (c.1=w.dir)&&decide (c.2.1=w.name))=true then c.2.2.2 else Ho w (l.take j):=by
 unfold Ho
 rw[List.take_add_one,h,List.foldl_append]
 simp
def Ee(w:Wch)(l:List CR):A8:=if w.kind=1 then Ho w l else w.file
theorem dY(w:Wch)(l:List CR):Q1 w l={w with file:=Ee w l}:=by
 unfold Q1 Ee Ho
 split<;>rfl
theorem UV{w:Wch}{l:List CR}{j:Nat}{c:CR}(h:l[j]?=some c):Ee w (l.take (j+1))=if(decide (w.kind=1)&&decide (c.1=w.dir)&&decide (c.2.1=w.name))=true then c.2.2.2 else Ee w (l.take j):=by
 unfold Ee
 by_cases hk:w.kind=1
 ·rw[if_pos hk,if_pos hk,Q5 h]
  simp[hk]
 simp[hk]
def Df(w:Wch)(g:Int):Bool:=(!decide (w.kind=1)&& !decide (w.kind=2))||(!decide (g=0)&&decide (g=(Br w).1))
def EX(w:Wch)(l:List CR):Bool:=l.any fun c=>decide (c.2.2.1=Br w)
def EY(w:Wch)(l:List CR):Bool:=l.any fun c=>decide (c.2.2.2=Br w)
theorem NN{w:Wch}{l:List CR}{j:Nat}{c:CR}(h:l[j]?=some c):EX w (l.take (j+1))=(EX w (l.take j)||decide (c.2.2.1=Br w)):=UU h _
theorem NO{w:Wch}{l:List CR}{j:Nat}{c:CR}(h:l[j]?=some c):EY w (l.take (j+1))=(EY w (l.take j)||decide (c.2.2.2=Br w)):=UU h _
theorem UW(w:Wch)(g:Int)(l:List CR):KC w g l=if(Df w g||(EX w l&& !EY w l))=true then(Ed,false)else({w with file:=Ee w l},true):=by
 rw[←dY]
 unfold KC
 have:((w.kind≠1∧w.kind≠2)∨(g≠0∧g=(Br w).1)∨((l.any fun c=>decide (c.2.2.1=Br w))=true∧(l.any fun c=>decide (c.2.2.2=Br w))=false))↔(Df w g||(EX w l&& !EY w l))=true:=by
  unfold Df EX EY
  simp[or_assoc]
 by_cases h:(Df w g||(EX w l&& !EY w l))=true
 ·rw[if_pos h,if_pos (this.2 h)]
 rw[if_neg h,if_neg (fun k=>h (this.1 k))]
section
theorem dZ(s:Spc)(w:Wch)(hs:SpcB s):AFn Tryz.prog 24 [.agg (Ap s), .agg (CG w)] (fun r=>r=Li (KA s w)):=by
 refine enter Tryz.func24 rfl rfl rfl rfl rfl 0 rfl ?_
 refine w_ (b_ (h:=b_ (h:=AY (h:=a_ (h:=e_ (q_ (?_)))))))
 refine B8 (fun S=>S=⟨look [(2, .bp 0 0),(3, .bp 1 0),(4, .bp 2 0),(20, .v (.bool ((!decide (w.kind=1)&& !decide (w.kind=2))|| !JQ s (Br w))))],⟨[Ap s,CG w,E7],[]⟩⟩) ?_ ?_
 ·skip
  refine DV 15 (h:=AJ 0 (h:=AF 1 (h:=MV 2 (h:=AN 3 (h:=?_)))))
  refine Gq (j:=3) rfl (fun hb1=>?_) (fun hb1=>?_)
  ·have hc1:=bp hb1
   refine AJ 4 (h:=AF 5 (h:=MV 6 (h:=Gx 7 (h:=AN 8 (h:=?_)))))
   refine Gq (j:=8) rfl (fun hb2=>?_) (fun hb2=>?_)
   ·have hc2:=bp hb2
    refine BW 9 (h:=BW 10 (h:=BW 11 (h:=BW 12 (h:=BW 13 (h:=Gx 14 (h:=z_ (h:=?_)))))))
    refine AE ?_
    exact⟨_,rfl,C6 3 0 rfl⟩
   have hc2:=bp hb2
   refine AF 9 (h:=AF 10 (h:=?_))
   refine c_ 11 rfl (AK (Q3 w (by omega)) ?_)
   rintro r rfl
   refine o_ (h:=?_)
   refine c_ 12 rfl (AK (US s (Br w) hs) ?_)
   rintro r rfl
   refine o_ (h:=O9 13 (h:=FP 14 (h:=z_ (h:=?_))))
   refine AE ?_
   exact⟨_,rfl,C6 3 0 rfl⟩
  have hc1:=bp hb1
  refine BW 4 (h:=BW 5 (h:=BW 6 (h:=FP 7 (h:=AN 8 (h:=AF 9 (h:=AF 10 (h:=?_)))))))
  refine c_ 11 rfl (AK (Q3 w (by omega)) ?_)
  rintro r rfl
  refine o_ (h:=?_)
  refine c_ 12 rfl (AK (US s (Br w) hs) ?_)
  rintro r rfl
  refine o_ (h:=O9 13 (h:=FP 14 (h:=z_ (h:=?_))))
  refine AE ?_
  exact⟨_,rfl,C6 3 0 rfl⟩
 rintro S rfl
 refine A7 rfl (fun hb3=>?_) (fun hb3=>?_)
 ·have hc3:=bp hb3
  have k1:(w.kind≠1∧w.kind≠2)∨JQ s (Br w)=false:=by simpa using hc3
  refine w_ (AU (h:=s_ (h:=a_ (h:=e_ (A6 (A9 (?_)))))))
  refine AD ?_
  rw[KA,if_pos k1]
  rfl
 have hc3:=bp hb3
 have k1:¬((w.kind≠1∧w.kind≠2)∨JQ s (Br w)=false):=by simpa using hc3
 refine AM (q_ (w_ (f_ (h:=l_ (h:=AW (h:=e_ (?_)))))))
 refine A7 rfl (fun hb4=>?_) (fun hb4=>?_)
 ·have hc4:=bp hb4
  have k2:w.kind=1:=hc4
  refine AP (l_ (h:=f_ (h:=l_ (h:=f_ (h:=l_ (h:=?_))))))
  refine A4 rfl (AK (UT s w.dir w.name hs) ?_)
  rintro r rfl
  refine f_ (h:=s_ (h:=e_ (w_ (l_ (h:=s_ (h:=a_ (h:=e_ (A6 (?_)))))))))
  refine AD ?_
  rw[KA,if_neg k1,if_pos k2]
  rfl
 have hc4:=bp hb4
 have k2:¬w.kind=1:=hc4
 refine AM (w_ (l_ (h:=s_ (h:=a_ (h:=e_ (A6 (?_)))))))
 refine AD ?_
 rw[KA,if_neg k1,if_neg k2]
 rfl
theorem eB(w:Wch)(r:Res)(hl:r.changes.length≤1000):AFn Tryz.prog 34 [.agg (CG w), .agg (D2 r)] (fun x=>x=Li (KC w r.gone r.changes)):=by
 rw[UW]
 refine enter Tryz.func34 rfl rfl rfl rfl rfl 0 rfl ?_
 refine w_ (b_ (h:=b_ (h:=AY (h:=a_ (h:=e_ (w_ (f_ (h:=l_ (h:=AY (h:=s_ (h:=e_ (?_))))))))))))
 refine B8 (fun S=>S=⟨look [(2, .bp 0 0),(3, .bp 1 0),(4, .bp 2 0),(6, .bp 3 0)],⟨[CG w,D2 r,E7,AA (Br w)],[]⟩⟩) ?_ ?_
 ·skip
  refine w_ (f_ (h:=l_ (h:=AW (h:=e_ (?_)))))
  refine A7 rfl (fun hb1=>?_) (fun hb1=>?_)
  ·have hc1:=bp hb1
   have k0:w.kind=2:=hc1
   refine AP (f_ (h:=l_ (h:=s_ (h:=AO (?_)))))
   refine AE ?_
   refine⟨_,rfl,?_⟩
   (rw[Br,if_pos k0];exact(wk 4 0))
  have hc1:=bp hb1
  have k0:¬w.kind=2:=hc1
  refine B4 (?_)
  refine AE ?_
  refine⟨_,rfl,?_⟩
  first|(rw[Br,if_pos k0];exact(wk 4 0))|(rw[Br,if_neg k0];exact(wk 4 0))
 rintro S rfl
 refine B8 (fun S=>S=⟨look [(2, .bp 0 0),(3, .bp 1 0),(4, .bp 2 0),(6, .bp 3 0),(7, .v (.bool (Df w r.gone)))],⟨[CG w,D2 r,E7,AA (Br w)],[]⟩⟩) ?_ ?_
 ·skip
  refine AP (f_ (h:=l_ (h:=BN (h:=m_ (h:=?_)))))
  refine Ar true rfl rfl (fun hb2=>?_) (fun hb2=>?_)
  ·have hc2:=bp hb2
   refine f_ (h:=l_ (h:=BN (h:=AX (h:=m_ (h:=?_)))))
   refine Ar false rfl rfl (fun hb3=>?_) (fun hb3=>?_)
   ·have hc3:=bp hb3
    refine A3 (h:=A3 (h:=A3 (h:=A3 (h:=EO (h:=EO (h:=EO (h:=EO (h:=EO (h:=A3 (h:=AX (h:=a_ (h:=AO (?_)))))))))))))
    refine AE ?_
    exact⟨_,rfl,As 4 0 rfl rfl rfl rfl (by repeat (first|exact Sub.nil|refine Sub.cons _ _ _ rfl rfl ?_|refine Sub.any _ _ ?_|refine Sub.sl _ _ _ _ _ rfl ?_|refine Sub.slnil _ _ _ rfl ?_|(apply Sub.of;(focus exact rfl);(focus exact LeA.of_eq (vb (by simp[Df, *])));(focus exact rfl))))⟩
   have hc3:=bp hb3
   refine f_ (h:=l_ (h:=BN (h:=m_ (h:=?_))))
   refine Ar true rfl rfl (fun hb4=>?_) (fun hb4=>?_)
   ·have hc4:=bp hb4
    refine f_ (h:=l_ (h:=f_ (h:=l_ (h:=AW (h:=AX (h:=Af (h:=a_ (h:=AO (?_)))))))))
    refine AE ?_
    exact⟨_,rfl,As 4 0 rfl rfl rfl rfl (by repeat (first|exact Sub.nil|refine Sub.cons _ _ _ rfl rfl ?_|refine Sub.any _ _ ?_|refine Sub.sl _ _ _ _ _ rfl ?_|refine Sub.slnil _ _ _ rfl ?_|(apply Sub.of;(focus exact rfl);(focus exact LeA.of_eq (vb (by simp[Df, *])));(focus exact rfl))))⟩
   have hc4:=bp hb4
   refine A3 (h:=A3 (h:=A3 (h:=A3 (h:=A3 (h:=Af (h:=Af (h:=a_ (h:=AO (?_)))))))))
   refine AE ?_
   exact⟨_,rfl,As 4 0 rfl rfl rfl rfl (by repeat (first|exact Sub.nil|refine Sub.cons _ _ _ rfl rfl ?_|refine Sub.any _ _ ?_|refine Sub.sl _ _ _ _ _ rfl ?_|refine Sub.slnil _ _ _ rfl ?_|(apply Sub.of;(focus exact rfl);(focus exact LeA.of_eq (vb (by simp[Df, *])));(focus exact rfl))))⟩
  have hc2:=bp hb2
  refine A3 (h:=A3 (h:=A3 (h:=Af (h:=m_ (h:=f_ (h:=l_ (h:=BN (h:=m_ (h:=?_)))))))))
  refine Ar true rfl rfl (fun hb5=>?_) (fun hb5=>?_)
  ·have hc5:=bp hb5
   refine f_ (h:=l_ (h:=f_ (h:=l_ (h:=AW (h:=AX (h:=Af (h:=a_ (h:=AO (?_)))))))))
   refine AE ?_
   exact⟨_,rfl,As 4 0 rfl rfl rfl rfl (by repeat (first|exact Sub.nil|refine Sub.cons _ _ _ rfl rfl ?_|refine Sub.any _ _ ?_|refine Sub.sl _ _ _ _ _ rfl ?_|refine Sub.slnil _ _ _ rfl ?_|(apply Sub.of;(focus exact rfl);(focus exact LeA.of_eq (vb (by simp[Df, *])));(focus exact rfl))))⟩
  have hc5:=bp hb5
  refine A3 (h:=A3 (h:=A3 (h:=A3 (h:=A3 (h:=Af (h:=Af (h:=a_ (h:=AO (?_)))))))))
  refine AE ?_
  exact⟨_,rfl,As 4 0 rfl rfl rfl rfl (by repeat (first|exact Sub.nil|refine Sub.cons _ _ _ rfl rfl ?_|refine Sub.any _ _ ?_|refine Sub.sl _ _ _ _ _ rfl ?_|refine Sub.slnil _ _ _ rfl ?_|(apply Sub.of;(focus exact rfl);(focus exact LeA.of_eq (vb (by simp[Df, *])));(focus exact rfl))))⟩
 rintro S rfl
 refine w_ (a_ (h:=a_ (h:=e_ (q_ (w_ (a_ (h:=e_ (Al (?_)))))))))
 refine Bd (fun m S=>∃j:Nat,j≤r.changes.length∧m=r.changes.length - j∧S=⟨look [(2, .bp 0 0),(3, .bp 1 0),(4, .bp 2 0),(6, .bp 3 0),(7, .v (.bool (Df w r.gone))),(8, .v (.bool (EX w (r.changes.take j)))),(9, .v (.bool (EY w (r.changes.take j)))),(10, .v (.int .i64 (j:Int)))],⟨[CG {w with file:=Ee w (r.changes.take j)},D2 r,E7,AA (Br w)],[]⟩⟩) (r.changes.length) (by rw[show Ee w (r.changes.take 0)=w.file by unfold Ee Ho;simp];exact(wk 4 0)) (⟨0,Nat.zero_le _,rfl,rfl⟩) ?_
 rintro m S ⟨j,hj,rfl,rfl⟩
 refine q_ (w_ (m_ (h:=f_ (h:=l_ (h:=n_ (h:=BH (h:=e_ (?_))))))))
 refine A7 rfl (fun hb6=>?_) (fun hb6=>?_)
 ·have hc6:=bp hb6
  obtain⟨hlt,c,hy,hrow, -⟩:=CX BG hc6
  refine AM (q_ (Al (w_ (f_ (h:=l_ (h:=m_ (h:=i_ (h:=l_ (h:=AY (h:=s_ (h:=e_ (?_))))))))))))
  refine B8 (fun S=>S=⟨look [(2, .bp 0 0),(3, .bp 1 0),(4, .bp 2 0),(6, .bp 3 0),(7, .v (.bool (Df w r.gone))),(8, .v (.bool (EX w (r.changes.take j)||decide (c.2.2.1=Br w)))),(9, .v (.bool (EY w (r.changes.take j)))),(10, .v (.int .i64 (j:Int))),(11, .bp 4 0)],⟨[CG {w with file:=Ee w (r.changes.take j)},D2 r,E7,AA (Br w),BG c],[]⟩⟩) ?_ ?_
  ·skip
   refine AP (m_ (h:=m_ (h:=?_)))
   refine Ar false rfl rfl (fun hb7=>?_) (fun hb7=>?_)
   ·have hc7:=bp hb7
    refine A3 (h:=A3 (h:=A3 (h:=A3 (h:=AX (h:=a_ (h:=AO (?_)))))))
    refine AE ?_
    exact⟨_,rfl,C6 5 0 rfl⟩
   have hc7:=bp hb7
   refine f_ (h:=l_ (h:=l_ (h:=?_)))
   refine B0 (Ei rfl rfl (by repeat constructor) (by repeat constructor) (fun W=>KD c.2.2.1 (Br w) W) (by kernel_rfl) ?_)
   refine Af (h:=a_ (h:=AO (?_)))
   refine AE ?_
   exact⟨_,rfl,C6 5 0 rfl⟩
  rintro S rfl
  refine B8 (fun S=>S=⟨look [(2, .bp 0 0),(3, .bp 1 0),(4, .bp 2 0),(6, .bp 3 0),(7, .v (.bool (Df w r.gone))),(8, .v (.bool (EX w (r.changes.take j)||decide (c.2.2.1=Br w)))),(9, .v (.bool (EY w (r.changes.take j)||decide (c.2.2.2=Br w)))),(10, .v (.int .i64 (j:Int))),(11, .bp 4 0)],⟨[CG {w with file:=Ee w (r.changes.take j)},D2 r,E7,AA (Br w),BG c],[]⟩⟩) ?_ ?_
  ·skip
   refine AP (m_ (h:=m_ (h:=?_)))
   refine Ar false rfl rfl (fun hb8=>?_) (fun hb8=>?_)
   ·have hc8:=bp hb8
    refine A3 (h:=A3 (h:=A3 (h:=A3 (h:=AX (h:=a_ (h:=AO (?_)))))))
    refine AE ?_
    exact⟨_,rfl,C6 5 0 rfl⟩
   have hc8:=bp hb8
   refine f_ (h:=l_ (h:=l_ (h:=?_)))
   refine B0 (Ei rfl rfl (by repeat constructor) (by repeat constructor) (fun W=>KD c.2.2.2 (Br w) W) (by kernel_rfl) ?_)
   refine Af (h:=a_ (h:=AO (?_)))
   refine AE ?_
   exact⟨_,rfl,C6 5 0 rfl⟩
  rintro S rfl
  refine B8 (fun S=>S=⟨look [(2, .bp 0 0),(3, .bp 1 0),(4, .bp 2 0),(6, .bp 3 0),(7, .v (.bool (Df w r.gone))),(8, .v (.bool (EX w (r.changes.take j)||decide (c.2.2.1=Br w)))),(9, .v (.bool (EY w (r.changes.take j)||decide (c.2.2.2=Br w)))),(10, .v (.int .i64 (j:Int))),(11, .bp 4 0),(81, .v (.bool (decide (w.kind=1)&&decide (c.1=w.dir)&&decide (c.2.1=w.name))))],⟨[CG {w with file:=Ee w (r.changes.take j)},D2 r,E7,AA (Br w),BG c],[]⟩⟩) ?_ ?_
  ·skip
   refine AP (f_ (h:=l_ (h:=AW (h:=m_ (h:=?_)))))
   refine Ar true rfl rfl (fun hb9=>?_) (fun hb9=>?_)
   ·have hc9:=bp hb9
    refine f_ (h:=l_ (h:=f_ (h:=l_ (h:=?_))))
    refine B0 (Ei rfl rfl (by repeat constructor) (by repeat constructor) (fun W=>KD c.1 w.dir W) (by kernel_rfl) ?_)
    refine AX (h:=m_ (h:=?_))
    refine Ar true rfl rfl (fun hb10=>?_) (fun hb10=>?_)
    ·have hc10:=bp hb10
     refine f_ (h:=l_ (h:=f_ (h:=l_ (h:=AW (h:=AX (h:=AO (?_)))))))
     refine AE ?_
     exact⟨_,rfl,C6 5 0 rfl⟩
    have hc10:=bp hb10
    refine A3 (h:=A3 (h:=A3 (h:=A3 (h:=A3 (h:=Af (h:=AO (?_)))))))
    refine AE ?_
    exact⟨_,rfl,C6 5 0 rfl⟩
   have hc9:=bp hb9
   refine A3 (h:=A3 (h:=A3 (h:=A3 (h:=A3 (h:=Af (h:=m_ (h:=A3 (h:=A3 (h:=A3 (h:=A3 (h:=A3 (h:=Af (h:=AO (?_))))))))))))))
   refine AE ?_
   exact⟨_,rfl,C6 5 0 rfl⟩
  rintro S rfl
  refine A7 rfl (fun hb11=>?_) (fun hb11=>?_)
  ·have hc11:=bp hb11
   refine AP (f_ (h:=l_ (h:=f_ (h:=s_ (h:=AO (Ay (t_ (AP (m_ (h:=B2 (h:=a_ (h:=AO (?_)))))))))))))
   refine AE ?_
   refine⟨_,_,?_,⟨j+1,by omega,rfl,rfl⟩,?_⟩
   ·omega
   rw[NN hy,NO hy,UV hy]
   (rw[if_pos ‹(decide (w.kind=1)&&decide (c.1=w.dir)&&decide (c.2.1=w.name))=true›];exact As 4 0 rfl rfl rfl rfl ((by repeat (first|exact Sub.nil|refine Sub.cons _ _ _ rfl rfl ?_|refine Sub.any _ _ ?_|refine Sub.sl _ _ _ _ _ rfl ?_|refine Sub.slnil _ _ _ rfl ?_))))
  have hc11:=bp hb11
  refine B4 (Ay (t_ (AP (m_ (h:=B2 (h:=a_ (h:=AO (?_))))))))
  refine AE ?_
  refine⟨_,_,?_,⟨j+1,by omega,rfl,rfl⟩,?_⟩
  ·omega
  rw[NN hy,NO hy,UV hy]
  first|(rw[if_pos ‹(decide (w.kind=1)&&decide (c.1=w.dir)&&decide (c.2.1=w.name))=true›];exact As 4 0 rfl rfl rfl rfl ((by repeat (first|exact Sub.nil|refine Sub.cons _ _ _ rfl rfl ?_|refine Sub.any _ _ ?_|refine Sub.sl _ _ _ _ _ rfl ?_|refine Sub.slnil _ _ _ rfl ?_))))|(rw[if_neg (by simp[*])];exact As 4 0 rfl rfl rfl rfl ((by repeat (first|exact Sub.nil|refine Sub.cons _ _ _ rfl rfl ?_|refine Sub.any _ _ ?_|refine Sub.sl _ _ _ _ _ rfl ?_|refine Sub.slnil _ _ _ rfl ?_))))
 have hc6:=bp hb6
 have e:=Cl BG hj hc6
 subst e
 rw[List.take_length]
 refine BK (Aj (Aj (BL (t_ (q_ (?_))))))
 refine B8 (fun S=>S=⟨look [(2, .bp 0 0),(4, .bp 2 0),(92, .v (.bool (Df w r.gone||(EX w r.changes&& !EY w r.changes))))],⟨[CG {w with file:=Ee w r.changes},D2 r,E7],[]⟩⟩) ?_ ?_
 ·skip
  refine AP (m_ (h:=m_ (h:=?_)))
  refine Ar false rfl rfl (fun hb12=>?_) (fun hb12=>?_)
  ·have hc12:=bp hb12
   skip
   refine A3 (h:=A3 (h:=EO (h:=EO (h:=A3 (h:=AX (h:=AO (?_)))))))
   refine AE ?_
   exact⟨_,rfl,C6 3 0 rfl⟩
  have hc12:=bp hb12
  refine m_ (h:=m_ (h:=?_))
  refine Ar true rfl rfl (fun hb13=>?_) (fun hb13=>?_)
  ·have hc13:=bp hb13
   skip
   refine m_ (h:=BR (h:=AX (h:=Af (h:=AO (?_)))))
   refine AE ?_
   exact⟨_,rfl,C6 3 0 rfl⟩
  have hc13:=bp hb13
  refine A3 (h:=A3 (h:=Af (h:=Af (h:=AO (?_)))))
  refine AE ?_
  exact⟨_,rfl,C6 3 0 rfl⟩
 rintro S rfl
 refine A7 rfl (fun hb14=>?_) (fun hb14=>?_)
 ·have hc14:=bp hb14
  skip
  refine w_ (AU (h:=s_ (h:=a_ (h:=e_ (A6 (A9 (?_)))))))
  refine AD ?_
  rw[if_pos (by assumption)]
  rfl
 have hc14:=bp hb14
 refine AM (w_ (l_ (h:=s_ (h:=a_ (h:=e_ (A6 (?_)))))))
 refine AD ?_
 rw[if_neg (by simp[*])]
 rfl
theorem UX(w:Wch)(r:Res)(hl:r.changes.length≤1000):AFn Tryz.prog 33 [.agg (CG w), .agg (D2 r)] (fun x=>x=Li (KC w r.gone r.changes)):=by
 rw[UW]
 refine enter Tryz.func33 rfl rfl rfl rfl rfl 0 rfl ?_
 refine w_ (b_ (h:=b_ (h:=AY (h:=a_ (h:=e_ (q_ (?_)))))))
 refine B8 (fun S=>S=⟨look [(2, .bp 0 0),(3, .bp 1 0),(4, .bp 2 0),(20, .v (.bool (!decide (w.kind=1)&& !decide (w.kind=2))))],⟨[CG w,D2 r,E7],[]⟩⟩) ?_ ?_
 ·skip
  refine AP (f_ (h:=l_ (h:=BN (h:=m_ (h:=?_)))))
  refine Ar true rfl rfl (fun hb1=>?_) (fun hb1=>?_)
  ·have hc1:=bp hb1
   refine f_ (h:=l_ (h:=BN (h:=AX (h:=AO (?_)))))
   refine AE ?_
   exact⟨_,rfl,C6 3 0 rfl⟩
  have hc1:=bp hb1
  refine A3 (h:=A3 (h:=A3 (h:=Af (h:=AO (?_)))))
  refine AE ?_
  exact⟨_,rfl,C6 3 0 rfl⟩
 rintro S rfl
 refine A7 rfl (fun hb2=>?_) (fun hb2=>?_)
 ·have hc2:=bp hb2
  have k1:(Df w r.gone||(EX w r.changes&& !EY w r.changes))=true:=by simp[Df]at hc2 ⊢;simp[hc2]
  refine w_ (AU (h:=s_ (h:=a_ (h:=e_ (A6 (A9 (?_)))))))
  refine AD ?_
  rw[if_pos k1]
  rfl
 have hc2:=bp hb2
 have k0:w.kind=1∨w.kind=2:=by simp at hc2;omega
 refine AM (w_ (l_ (h:=?_)))
 refine A4 rfl (AK (Q3 w k0) ?_)
 rintro r rfl
 refine AY (h:=s_ (h:=e_ (q_ (?_))))
 refine B8 (fun S=>S=⟨look [(2, .bp 0 0),(3, .bp 1 0),(4, .bp 2 0),(6, .bp 3 0),(33, .v (.bool (!decide (r.gone=0)&&decide (r.gone=(Br w).1))))],⟨[CG w,D2 r,E7,AA (Br w)],[]⟩⟩) ?_ ?_
 ·skip
  refine AP (f_ (h:=l_ (h:=BN (h:=m_ (h:=?_)))))
  refine Ar true rfl rfl (fun hb3=>?_) (fun hb3=>?_)
  ·have hc3:=bp hb3
   refine f_ (h:=l_ (h:=f_ (h:=l_ (h:=AW (h:=AX (h:=AO (?_)))))))
   refine AE ?_
   exact⟨_,rfl,C6 4 0 rfl⟩
  have hc3:=bp hb3
  refine A3 (h:=A3 (h:=A3 (h:=A3 (h:=A3 (h:=Af (h:=AO (?_)))))))
  refine AE ?_
  exact⟨_,rfl,C6 4 0 rfl⟩
 rintro S rfl
 refine A7 rfl (fun hb4=>?_) (fun hb4=>?_)
 ·have hc4:=bp hb4
  have k1:(Df w r.gone||(EX w r.changes&& !EY w r.changes))=true:=by unfold Df;rw[hb4];simp
  refine w_ (AU (h:=s_ (h:=a_ (h:=e_ (A6 (A9 (?_)))))))
  refine AD ?_
  rw[if_pos k1]
  rfl
 have hc4:=bp hb4
 have k1:Df w r.gone=false:=by unfold Df;rw[hb4];rcases k0 with h|h<;>simp[h]
 refine AM (w_ (a_ (h:=a_ (h:=e_ (q_ (w_ (f_ (h:=l_ (h:=n_ (h:=m_ (h:=e_ (Al (?_)))))))))))))
 refine Bd (fun m S=>∃j:Nat,j≤r.changes.length∧m=r.changes.length - j∧S=⟨look [(2, .bp 0 0),(3, .bp 1 0),(4, .bp 2 0),(6, .bp 3 0),(7, .v (.bool (EX w (r.changes.take j)))),(8, .v (.bool (EY w (r.changes.take j)))),(36, .sl 7 (r.changes.map BG) none),(37, .v (.int .i64 ((r.changes.map BG).length:Int))),(38, .v (.int .i64 (j:Int)))],⟨[CG w,D2 r,E7,AA (Br w)],[]⟩⟩) (r.changes.length) ((wk 4 0)) (⟨0,Nat.zero_le _,rfl,rfl⟩) ?_
 rintro m S ⟨j,hj,rfl,rfl⟩
 refine w_ (BH (h:=e_ (q_ (?_))))
 refine A7 rfl (fun hb5=>?_) (fun hb5=>?_)
 ·have hc5:=bp hb5
  obtain⟨hlt,c,hy,hrow, -⟩:=CX BG hc5
  refine AM (q_ (Al (w_ (i_ (h:=l_ (h:=AY (h:=s_ (h:=e_ (?_)))))))))
  refine B8 (fun S=>S=⟨look [(2, .bp 0 0),(3, .bp 1 0),(4, .bp 2 0),(6, .bp 3 0),(7, .v (.bool (EX w (r.changes.take j)||decide (c.2.2.1=Br w)))),(8, .v (.bool (EY w (r.changes.take j)))),(10, .bp 4 0),(36, .sl 7 (r.changes.map BG) none),(37, .v (.int .i64 ((r.changes.map BG).length:Int))),(38, .v (.int .i64 (j:Int)))],⟨[CG w,D2 r,E7,AA (Br w),BG c],[]⟩⟩) ?_ ?_
  ·skip
   refine AP (m_ (h:=m_ (h:=?_)))
   refine Ar false rfl rfl (fun hb6=>?_) (fun hb6=>?_)
   ·have hc6:=bp hb6
    refine A3 (h:=A3 (h:=A3 (h:=A3 (h:=AX (h:=a_ (h:=AO (?_)))))))
    refine AE ?_
    exact⟨_,rfl,C6 5 0 rfl⟩
   have hc6:=bp hb6
   refine f_ (h:=l_ (h:=l_ (h:=?_)))
   refine B0 (Ei rfl rfl (by repeat constructor) (by repeat constructor) (fun W=>KD c.2.2.1 (Br w) W) (by kernel_rfl) ?_)
   refine Af (h:=a_ (h:=AO (?_)))
   refine AE ?_
   exact⟨_,rfl,C6 5 0 rfl⟩
  rintro S rfl
  refine AP (m_ (h:=m_ (h:=?_)))
  refine Ar false rfl rfl (fun hb7=>?_) (fun hb7=>?_)
  ·have hc7:=bp hb7
   refine A3 (h:=A3 (h:=A3 (h:=A3 (h:=AX (h:=a_ (h:=AO (Ay (t_ (AP (B2 (h:=m_ (h:=AO (?_)))))))))))))
   refine AE ?_
   refine⟨_,_,?_,⟨j+1,by omega,rfl,rfl⟩,?_⟩
   ·omega
   rw[NN hy,NO hy]
   exact C6 4 0 rfl
  have hc7:=bp hb7
  refine f_ (h:=l_ (h:=l_ (h:=?_)))
  refine B0 (Ei rfl rfl (by repeat constructor) (by repeat constructor) (fun W=>KD c.2.2.2 (Br w) W) (by kernel_rfl) ?_)
  refine Af (h:=a_ (h:=AO (Ay (t_ (AP (B2 (h:=m_ (h:=AO (?_)))))))))
  refine AE ?_
  refine⟨_,_,?_,⟨j+1,by omega,rfl,rfl⟩,?_⟩
  ·omega
  rw[NN hy,NO hy]
  exact C6 4 0 rfl
 have hc5:=bp hb5
 have e:=Cl BG hj hc5
 subst e
 rw[List.take_length]
 refine BK (Aj (Aj (BL (t_ (q_ (?_))))))
 refine B8 (fun S=>S=⟨look [(2, .bp 0 0),(3, .bp 1 0),(4, .bp 2 0),(61, .v (.bool (EX w r.changes&& !EY w r.changes)))],⟨[CG w,D2 r,E7],[]⟩⟩) ?_ ?_
 ·skip
  refine AP (m_ (h:=m_ (h:=?_)))
  refine Ar true rfl rfl (fun hb8=>?_) (fun hb8=>?_)
  ·have hc8:=bp hb8
   refine m_ (h:=BR (h:=AX (h:=AO (?_))))
   refine AE ?_
   exact⟨_,rfl,C6 3 0 rfl⟩
  have hc8:=bp hb8
  refine A3 (h:=A3 (h:=Af (h:=AO (?_))))
  refine AE ?_
  exact⟨_,rfl,C6 3 0 rfl⟩
 rintro S rfl
 refine A7 rfl (fun hb9=>?_) (fun hb9=>?_)
 ·have hc9:=bp hb9
  refine w_ (AU (h:=s_ (h:=a_ (h:=e_ (A6 (A9 (?_)))))))
  refine AD ?_
  rw[if_pos (by simp[*])]
  rfl
 have hc9:=bp hb9
 refine AM (q_ (w_ (f_ (h:=l_ (h:=AW (h:=e_ (?_)))))))
 refine A7 rfl (fun hb10=>?_) (fun hb10=>?_)
 ·have hc10:=bp hb10
  have k3:w.kind=1:=hc10
  refine w_ (f_ (h:=l_ (h:=n_ (h:=m_ (h:=e_ (Al (?_)))))))
  refine Bd (fun m S=>∃j:Nat,j≤r.changes.length∧m=r.changes.length - j∧S=⟨look [(2, .bp 0 0),(3, .bp 1 0),(4, .bp 2 0),(67, .sl 7 (r.changes.map BG) none),(68, .v (.int .i64 ((r.changes.map BG).length:Int))),(69, .v (.int .i64 (j:Int)))],⟨[CG {w with file:=Ho w (r.changes.take j)},D2 r,E7],[]⟩⟩) (r.changes.length) ((wk 3 0)) (⟨0,Nat.zero_le _,rfl,rfl⟩) ?_
  rintro m S ⟨j,hj,rfl,rfl⟩
  refine w_ (BH (h:=e_ (q_ (?_))))
  refine A7 rfl (fun hb11=>?_) (fun hb11=>?_)
  ·have hc11:=bp hb11
   obtain⟨hlt,c,hy,hrow, -⟩:=CX BG hc11
   refine AM (q_ (Al (w_ (i_ (h:=l_ (h:=AY (h:=s_ (h:=e_ (?_)))))))))
   refine B8 (fun S=>S=⟨look [(2, .bp 0 0),(3, .bp 1 0),(4, .bp 2 0),(12, .bp 3 0),(67, .sl 7 (r.changes.map BG) none),(68, .v (.int .i64 ((r.changes.map BG).length:Int))),(69, .v (.int .i64 (j:Int))),(84, .v (.bool (decide (c.1=w.dir)&&decide (c.2.1=w.name))))],⟨[CG {w with file:=Ho w (r.changes.take j)},D2 r,E7,BG c],[]⟩⟩) ?_ ?_
   ·skip
    refine AP (f_ (h:=l_ (h:=f_ (h:=l_ (h:=?_)))))
    refine A4 rfl (Ei rfl rfl (by repeat constructor) (by repeat constructor) (fun W=>KD c.1 w.dir W) (by kernel_rfl) ?_)
    refine m_ (h:=?_)
    refine Ar true rfl rfl (fun hb12=>?_) (fun hb12=>?_)
    ·have hc12:=bp hb12
     refine f_ (h:=l_ (h:=f_ (h:=l_ (h:=AW (h:=AX (h:=AO (?_)))))))
     refine AE ?_
     exact⟨_,rfl,C6 4 0 rfl⟩
    have hc12:=bp hb12
    refine A3 (h:=A3 (h:=A3 (h:=A3 (h:=A3 (h:=Af (h:=AO (?_)))))))
    refine AE ?_
    exact⟨_,rfl,C6 4 0 rfl⟩
   rintro S rfl
   refine A7 rfl (fun hb13=>?_) (fun hb13=>?_)
   ·have hc13:=bp hb13
    refine AP (f_ (h:=l_ (h:=f_ (h:=s_ (h:=AO (Ay (t_ (AP (B2 (h:=m_ (h:=AO (?_))))))))))))
    refine AE ?_
    refine⟨_,_,?_,⟨j+1,by omega,rfl,rfl⟩,?_⟩
    ·omega
    rw[Q5 hy]
    (rw[if_pos ‹(decide (c.1=w.dir)&&decide (c.2.1=w.name))=true›];exact As 3 0 rfl rfl rfl rfl ((by repeat (first|exact Sub.nil|refine Sub.cons _ _ _ rfl rfl ?_|refine Sub.any _ _ ?_|refine Sub.sl _ _ _ _ _ rfl ?_|refine Sub.slnil _ _ _ rfl ?_))))
   have hc13:=bp hb13
   refine B4 (Ay (t_ (AP (B2 (h:=m_ (h:=AO (?_)))))))
   refine AE ?_
   refine⟨_,_,?_,⟨j+1,by omega,rfl,rfl⟩,?_⟩
   ·omega
   rw[Q5 hy]
   first|(rw[if_pos ‹(decide (c.1=w.dir)&&decide (c.2.1=w.name))=true›];exact As 3 0 rfl rfl rfl rfl ((by repeat (first|exact Sub.nil|refine Sub.cons _ _ _ rfl rfl ?_|refine Sub.any _ _ ?_|refine Sub.sl _ _ _ _ _ rfl ?_|refine Sub.slnil _ _ _ rfl ?_))))|(rw[if_neg (by simp[*])];exact As 3 0 rfl rfl rfl rfl ((by repeat (first|exact Sub.nil|refine Sub.cons _ _ _ rfl rfl ?_|refine Sub.any _ _ ?_|refine Sub.sl _ _ _ _ _ rfl ?_|refine Sub.slnil _ _ _ rfl ?_))))
  have hc11:=bp hb11
  have e:=Cl BG hj hc11
  subst e
  rw[List.take_length]
  refine BK (Aj (Aj (BL (t_ (w_ (l_ (h:=s_ (h:=a_ (h:=e_ (A6 (?_)))))))))))
  refine AD ?_
  rw[if_neg (by simp[*]),Ee,if_pos k3]
  rfl
 have hc10:=bp hb10
 have k3:¬w.kind=1:=hc10
 refine AM (w_ (l_ (h:=s_ (h:=a_ (h:=e_ (A6 (?_)))))))
 refine AD ?_
 rw[if_neg (by simp[*]),Ee,if_neg k3]
 rfl
end
section
theorem eC(l:List Int)(a:Nat)(ha:a≤100000000000):Ej Tryz.prog 15 l a [] 4 (fun r=>∃s:ByteArray,r= .v (.string s)∧s.size≤60):=by
 refine enter Tryz.func15 rfl rfl rfl rfl rfl 1 rfl ?_
 refine w_ (a_ (h:=e_ (w_ (a_ (h:=e_ (q_ (w_ (m_ (h:=Bg (h:=?_))))))))))
 refine A4 rfl (B5 0 (hc:=Hg l _ _ (fun z=>decide (1≤z∧z≤3)) (by omega) (by rfl) (by rfl) (by rfl)) (hR:=?_))
 rintro r a1 ha1 ⟨k1,rfl,p1⟩
 refine⟨rfl,_,(by repeat constructor),?_⟩
 obtain⟨hz1,hz2⟩:=of_decide_eq_true p1
 obtain⟨m,rfl⟩:=Int.eq_ofNat_of_zero_le (show 0≤k1 by omega)
 refine a_ (h:=e_ (Al (?_)))
 refine Bd (fun n s=>∃(j a1:Nat) (t:ByteArray),j≤m∧n=j∧a1≤a+1+(m - j)∧t.size≤2 * (m - j)∧s=⟨look [(0, .bp 0 0),(3, .v (.string t)),(4, .v (.int .i64 (j:Int)))],⟨[DD l a1],[]⟩⟩) (m) ((wk 1 0)) (⟨m,a1,⟨#[]⟩,by omega,rfl,by omega,by rw[Nat.sub_self];exact Nat.le_refl 0,rfl⟩) ?_
 rintro n s ⟨j,b1,t,hj,hn,hb1,ht,rfl⟩
 subst n
 refine q_ (w_ (m_ (h:=CC (h:=e_ (?_)))))
 refine A7 rfl (fun hb1=>?_) (fun hb1=>?_)
 ·have hc1:=bp hb1
  refine AM (q_ (Al (AP (m_ (h:=m_ (h:=Bg (h:=?_)))))))
  refine A4 rfl (B5 0 (hc:=LW l _ _ (fun s=>decide (s.size≤1)) (by omega) (by rfl) (by rfl) (by rfl)) (hR:=?_))
  rintro r a2 ha2 ⟨k2,rfl,p2⟩
  refine⟨rfl,_,(by repeat constructor),?_⟩
  have hw:=of_decide_eq_true p2
  refine A4 rfl (EA rfl rfl (by show 1+k2.size≤_;omega) ?_)
  refine A4 rfl (EA rfl rfl (by have e:=ByteArray.size_append (a:=⟨#[47]⟩) (b:=k2);have:(⟨#[47]⟩:ByteArray).size=1:=rfl;omega) ?_)
  refine a_ (h:=AO (Ay (t_ (AP (m_ (h:=MU (h:=a_ (h:=AO (?_)))))))))
  refine AE ?_
  obtain⟨j,rfl⟩:∃i,j=i+1:=⟨j - 1,by omega⟩
  refine⟨_,_,?_,⟨j,_,_,by omega,rfl,?_,?_,rfl⟩,As 1 0 rfl rfl rfl rfl (by repeat (first|exact Sub.nil|refine Sub.cons _ _ _ rfl rfl ?_|(apply Sub.of;(focus exact rfl);(focus exact LeA.of_eq (vi (by omega)));(focus exact rfl))))⟩
  ·omega
  ·omega
  have e:=ByteArray.size_append (a:=⟨#[47]⟩) (b:=k2)
  have e2:=ByteArray.size_append (a:=t) (b:=⟨#[47]⟩++k2)
  have:(⟨#[47]⟩:ByteArray).size=1:=rfl
  omega
 have hc1:=bp hb1
 refine BK (Aj (Aj (BL (t_ (w_ (m_ (h:=a_ (h:=e_ (A6 (?_))))))))))
 refine Aw none (h5:=(LeA.refl _)) (h6:=⟨_,rfl,rfl,b1,by omega,rfl,t,rfl,by omega⟩)
end
end Go.Proofs.YtbglbmnhgbgelaaGreatDoor
