/-
  Part 15 of the proof of WatchCurrentP: what the statement's proof uses of the texts in wip/tpl.
-/
import Derived.Test.YtbglbmnhgbgelaaGreatDoorQb14
set_option maxRecDepth 10000
set_option maxHeartbeats 4000000
set_option linter.unusedVariables false
set_option linter.unusedSimpArgs false
namespace Go.Proofs.YtbglbmnhgbgelaaGreatDoor
open Go.RowKit
theorem d7{s:Spc}{fl:Bool}{p:AD}{ps:List AD}{a:A9}{lk:Nat}{τ:Lk}(h:CC s fl p ps a lk= .inr τ):τ.name.size≤12:=by
 unfold CC at h
 split at h
 ·cases h
 split at h
 ·cases h
 rename_i h2
 repeat' split at h
 all_goals first|(cases h;done)|(injection h with h;subst h;first|exact Nat.zero_le 12|exact Nat.le_of_not_lt h2)
theorem d8{s:Spc}{fl:Bool}:∀(k:Nat) (σ:Lk),σ.name.size≤12→(Ft s fl k σ).2.name.size≤12:=by
 intro k
 induction k with
 |zero=>intro σ h;exact h
 |succ k ih=>
   intro σ h
   unfold Ft
   cases σ.ps with
   |nil=>exact h
   |cons p ps=>
     simp only
     cases hs:CC s fl p ps σ.file σ.links with
     |inl e=>exact Nat.zero_le 12
     |inr τ=>exact ih _ (d7 hs)
theorem Pz(s:Spc)(st:A9)(p:AD)(fl:Bool):(BV s st p fl).1.name.size≤12:=by
 unfold BV
 generalize (if Ch p=true then DJ s else st)=d
 repeat' split
 all_goals first|exact Nat.zero_le 12|exact d8 _ _ (Nat.zero_le 12)
theorem d9{s:Spc}{cwd:A9}{fl:Bool}{X:List Itm×List Fnd×Int}{g:AD×Int}(h:∀f∈X.2.1,f.name.size≤12):(∀f∈(ET s cwd fl X g).2.1,f.name.size≤12)∧(ET s cwd fl X g).1.length=X.1.length+1∧(ET s cwd fl X g).2.1.length=X.2.1.length+1:=by
 unfold ET
 split
 ·split
  ·refine⟨fun f hf=>?_,by simp,by simp⟩
   rcases List.mem_append.1 hf with hf|hf
   ·exact h f hf
   rw[List.mem_singleton.1 hf];exact Pz _ _ _ _
  refine⟨fun f hf=>?_,by simp,by simp⟩
  rcases List.mem_append.1 hf with hf|hf
  ·exact h f hf
  rw[List.mem_singleton.1 hf];exact Pz _ _ _ _
 refine⟨fun f hf=>?_,by simp,by simp⟩
 rcases List.mem_append.1 hf with hf|hf
 ·exact h f hf
 rw[List.mem_singleton.1 hf];exact Nat.zero_le 12
theorem dA(s:Spc)(cwd:A9)(fl:Bool)(e:Int):∀(l:List (AD×Int)),(∀f∈(Ge s cwd fl l e).2.1,f.name.size≤12)∧(Ge s cwd fl l e).1.length=l.length∧(Ge s cwd fl l e).2.1.length=l.length:=by
 have key:∀(l:List (AD×Int)) (X:List Itm×List Fnd×Int),(∀f∈X.2.1,f.name.size≤12)→(∀f∈(l.foldl (ET s cwd fl) X).2.1,f.name.size≤12)∧(l.foldl (ET s cwd fl) X).1.length=X.1.length+l.length∧(l.foldl (ET s cwd fl) X).2.1.length=X.2.1.length+l.length:=by
  intro l
  induction l with
  |nil=>intro X h;exact⟨h,rfl,rfl⟩
  |cons g l ih=>
    intro X h
    obtain⟨h1,h2,h3⟩:=d9 (s:=s) (cwd:=cwd) (fl:=fl) (g:=g) h
    obtain⟨k1,k2,k3⟩:=ih _ h1
    rw[List.foldl_cons]
    refine⟨k1,?_,?_⟩
    ·rw[k2,h2,List.length_cons];omega
    rw[k3,h3,List.length_cons];omega
 intro l
 have:=key l ([],[],e) (fun f hf=>by cases hf)
 refine⟨this.1,by rw[Ge,this.2.1];simp,by rw[Ge,this.2.2];simp⟩
theorem dB{c:Cal}(h:BU c=0):(c.paths.length:Int)=(DR c.num).2.2.1∧(DR c.num).2.2.2.1≤(c.args.length:Int)∧(c.args.length:Int)≤(DR c.num).2.2.2.2∧(∀p∈c.paths,p.size≤128)∧∀p∈c.args,p.size≤64:=by
 unfold BU at h
 split at h
 ·exact absurd h (by decide)
 split at h
 ·exact absurd h (by decide)
 split at h
 ·exact absurd h (by decide)
 rename_i h3
 split at h
 ·exact absurd h (by decide)
 rename_i h4
 split at h
 ·exact absurd h (by decide)
 rename_i h5
 refine⟨by omega,by omega,by omega,fun p hp=>?_,fun p hp=>?_⟩
 ·refine Nat.le_of_not_lt fun hl=>h4 (List.any_eq_true.2 ⟨p,hp,decide_eq_true hl⟩)
 refine Nat.le_of_not_lt fun hl=>h5 (List.any_eq_true.2 ⟨p,hp,decide_eq_true hl⟩)
theorem dC{c0 c1 c2 c3 c4 c5:List AV}(w:Wrk)(rows:List (List AV))(n cap:Nat)(L:List Itm):Back [c0,c1,c2,c3,c4,c5] [5] [Ci w (.sl 8 rows none) (.bs 1 0 13 n cap),LB 13 CK L cap] [c0,c1,c2,c3,c4,Ci w (.sl 8 rows none) (.bs 6 0 13 n cap),LB 13 CK L cap]:=by
 have:=Po (bx:=[c0,c1,c2,c3,c4,c5]) (is:=[5]) (bc:=[Ci w (.sl 8 rows none) (.bs 1 0 13 n cap),LB 13 CK L cap]) (by simp) (by simp) (by simp)
 have e2:Cr (DV [5] [c0,c1,c2,c3,c4,c5].length) (LB 13 CK L cap)=LB 13 CK L cap:=Fd BA _ _ _
 have hb:D8 [c0,c1,c2,c3,c4,c5] (DV [5] [c0,c1,c2,c3,c4,c5].length) [5] [Ci w (.sl 8 rows none) (.bs 1 0 13 n cap),LB 13 CK L cap]=[c0,c1,c2,c3,c4,Ci w (.sl 8 rows none) (.bs 6 0 13 n cap),LB 13 CK L cap]:=by
  unfold D8
  unfold D8
  rw[List.map_cons,e2]
  rfl
 rw[hb]at this
 exact this
theorem dD(s:Syst)(pid:Int)(c:Cal):(∀f∈(EY s pid c).found,f.name.size≤12)∧(EY s pid c).found.length=(c.paths.zip (CJ c)).length∧(EY s pid c).r.items.length=(c.paths.zip (CJ c)).length:=by
 obtain⟨h1,h2,h3⟩:=dA s.spc (Ax s.tab pid).cwd (CT c) (Cx (Ax s.tab pid) c) (c.paths.zip (CJ c))
 exact⟨h1,h3,h2⟩
section
theorem dF(w:Wrk)(F I:AV)(h9:w.c.num=9→0<w.c.args.length)(hsz:∀p∈w.c.args,p.size≤1000):AFn Tryz.prog 67 [.fp (Ci w F I)] (fun r=>r= .v (.int .i64 (Cx w.p w.c))):=by
 have hol:(w.p.opens.map Hl).length=w.p.opens.length:=List.length_map _
 refine enter Tryz.func67 rfl rfl rfl rfl rfl 0 rfl ?_
 refine w_ (a_ (h:=e_ (w_ (m_ (h:=k_ (h:=f_ (h:=f_ (h:=l_ (h:=AY (h:=s_ (h:=e_ (q_ (w_ (m_ (h:=k_ (h:=f_ (h:=f_ (h:=l_ (h:=e_ (Aj (w_ (AW (h:=a_ (h:=?_))))))))))))))))))))))))
 refine e_ (?_)
 refine A8 rfl (fun hb1=>?_) (fun hb1=>?_)
 ·have hc1:=bp hb1
  refine q_ (w_ (?_))
  refine A6 rfl (Dv (len:=4) (sz:=1) (n:=0) (by kernel_rfl) rfl rfl rfl rfl ?_)
  refine l_ (h:=BH (h:=m_ (h:=?_)))
  refine Ar false rfl rfl (fun hb2=>?_) (fun hb2=>?_)
  ·have hc2:=bp hb2
   refine A3 (h:=A3 (h:=A3 (h:=AZ (h:=m_ (h:=A3 (h:=A3 (h:=A3 (h:=A3 (h:=AZ (h:=m_ (h:=A3 (h:=A3 (h:=A3 (h:=A3 (h:=AZ (h:=e_ (Bx (h:=w_ (a_ (h:=e_ (A4 (A7 (AX (?_))))))))))))))))))))))))
   refine A7 (?_)
   refine AB ?_
   first|(exfalso;first|contradiction|omega)|(exact vi (by simp[Cx, *]))
  have hc2:=bp hb2
  refine Az (Dv (len:=4) (sz:=1) (n:=0) (by kernel_rfl) rfl rfl rfl rfl ?_)
  refine l_ (h:=CG (h:=Ah (h:=m_ (h:=?_))))
  refine Ar false rfl rfl (fun hb3=>?_) (fun hb3=>?_)
  ·have hc3:=bp hb3
   refine A3 (h:=A3 (h:=A3 (h:=A3 (h:=AZ (h:=m_ (h:=A3 (h:=A3 (h:=A3 (h:=A3 (h:=AZ (h:=e_ (Bx (h:=w_ (a_ (h:=e_ (A4 (A7 (AX (A7 (?_))))))))))))))))))))
   refine AB ?_
   first|(exfalso;first|contradiction|omega)|(exact vi (by simp[Cx, *]))
  have hc3:=bp hb3
  refine Az (Dv (len:=4) (sz:=1) (n:=0) (by kernel_rfl) rfl rfl rfl rfl ?_)
  refine l_ (h:=Dp (h:=AW (h:=Ah (h:=m_ (h:=?_)))))
  refine Ar false rfl rfl (fun hb4=>?_) (fun hb4=>?_)
  ·have hc4:=bp hb4
   refine A3 (h:=A3 (h:=A3 (h:=A3 (h:=AZ (h:=e_ (Bx (h:=w_ (a_ (h:=e_ (A4 (A7 (AX (A7 (?_))))))))))))))
   refine AB ?_
   first|(exfalso;first|contradiction|omega)|(exact vi (by simp[Cx, *]))
  have hc4:=bp hb4
  refine Az (Dv (len:=4) (sz:=1) (n:=1) (by kernel_rfl) rfl rfl rfl rfl ?_)
  refine l_ (h:=?_)
  refine Az (AG (Pq w.c.a1) ?_)
  rintro r rfl
  refine BR (h:=Ah (h:=e_ (?_)))
  refine A8 rfl (fun hb5=>?_) (fun hb5=>?_)
  ·have hc5:=bp hb5
   refine w_ (a_ (h:=e_ (A4 (A7 (AX (A7 (?_)))))))
   refine AB ?_
   first|(exfalso;first|contradiction|omega)|(exact vi (by simp[Cx, *]))
  have hc5:=bp hb5
  refine AM (w_ (m_ (h:=k_ (h:=f_ (h:=f_ (h:=l_ (h:=n_ (h:=Fk (h:=e_ (?_))))))))))
  refine A8 rfl (fun hb6=>?_) (fun hb6=>?_)
  ·have hc6:=bp hb6
   have h8:8≤(w.p.opens.length:Int):=by rw[List.length_map]at hc6;exact hc6
   refine w_ (a_ (h:=e_ (A4 (AX (A7 (?_))))))
   refine AB ?_
   first|(exfalso;first|contradiction|omega)|(exact vi (by simp[Cx, *]))
  have hc6:=bp hb6
  have h8:¬8≤(w.p.opens.length:Int):=by rw[List.length_map]at hc6;exact hc6
  refine B4 (As (t_ (w_ (a_ (h:=e_ (A4 (?_)))))))
  refine AB ?_
  first|(exfalso;first|contradiction|omega)|(exact vi (by simp[Cx, *]))
 have hc1:=bp hb1
 refine w_ (AW (h:=a_ (h:=e_ (?_))))
 refine A8 rfl (fun hb7=>?_) (fun hb7=>?_)
 ·have hc7:=bp hb7
  obtain⟨a0,ha0⟩:∃a,w.c.args[0]?=some a:=⟨_,B9 (h9 hc7)⟩
  have harg:(w.c.args.map Es)[0]?=some (Es a0):=by rw[List.getElem?_map,ha0];rfl
  have hag:K8 w.c=a0:=by unfold K8;rw[List.headD_eq_head?_getD,List.head?_eq_getElem?,ha0];rfl
  have hsa:=hsz a0 (Am ha0)
  refine q_ (w_ (m_ (h:=k_ (h:=f_ (h:=f_ (h:=l_ (h:=?_)))))))
  refine A6 rfl (CQ (n:=0) rfl rfl rfl harg ?_)
  refine l_ (h:=AW (h:=e_ (?_)))
  refine A8 rfl (fun hb8=>?_) (fun hb8=>?_)
  ·have hc8:=bp hb8
   refine w_ (a_ (h:=e_ (A4 (A7 (AX (A7 (?_)))))))
   refine AB ?_
   first|(exfalso;first|contradiction|omega)|(exact vi (by simp[Cx, *]))
  have hc8:=bp hb8
  refine AM (w_ (a_ (h:=e_ (Aj (?_)))))
  refine Bg (fun m s=>∃j:Nat,j≤a0.size∧m=a0.size - j∧(∀(i:Nat) (h:i<a0.data.toList.length),i<j→a0.data.toList[i]≠0)∧s=⟨look [(0, .fp (Ci w F I)),(4, .v (.int .i64 (j:Int)))],⟨[],[]⟩⟩) (a0.size) ((wk 0 0)) (⟨0,Nat.zero_le _,rfl,fun i h1 h2=>by omega,rfl⟩) ?_
  rintro m s ⟨j,hj,rfl,hz,rfl⟩
  refine q_ (w_ (m_ (h:=m_ (h:=k_ (h:=f_ (h:=f_ (h:=l_ (h:=?_))))))))
  refine A6 rfl (CQ (n:=0) rfl rfl rfl harg ?_)
  refine l_ (h:=n_ (h:=BH (h:=e_ (?_))))
  refine A8 rfl (fun hb9=>?_) (fun hb9=>?_)
  ·have hc9:=bp hb9
   have hlt:j<a0.size:=by omega
   refine AM (q_ (Aj (w_ (m_ (h:=k_ (h:=f_ (h:=f_ (h:=l_ (h:=?_)))))))))
   refine A6 rfl (CQ (n:=0) rfl rfl rfl harg ?_)
   refine l_ (h:=m_ (h:=?_))
   refine A6 rfl (GY (n:=j) Tryz.underlying9 rfl rfl rfl hlt ?_)
   refine AW (h:=e_ (?_))
   refine A8 rfl (fun hb10=>?_) (fun hb10=>?_)
   ·have hc10:=bp hb10
    have hany:(a0.data.toList.any fun b=>decide (b=0))=true:=by
     rw[List.any_eq_true]
     refine⟨a0.data.toList[j]'(by simpa using hlt),List.getElem_mem _,?_⟩
     have h00:a0[j].toNat=0:=by have:=hc10;omega
     simp
     exact UInt8.toNat_inj.1 h00
    refine w_ (a_ (h:=e_ (A4 (AX (A7 (A7 (AX (AX (A7 (?_))))))))))
    refine AB ?_
    first|(exfalso;first|contradiction|omega)|(exact vi (by simp[Cx, *]))
   have hc10:=bp hb10
   have hne:a0.data.toList[j]'(by simpa using hlt)≠0:=by
    intro e
    have h00:¬a0[j].toNat=0:=by have:=hc10;omega
    simp at e
    exact h00 (congrArg UInt8.toNat e)
   refine B4 (As (t_ (AQ (m_ (h:=B6 (h:=a_ (h:=AO (?_))))))))
   refine AF ?_
   refine⟨_,_,?_,⟨j+1,by omega,rfl,(fun i h1 h2=>by
    by_cases e:i=j
    ·subst e;exact hne
    exact hz i h1 (by omega)),rfl⟩,(wk 0 0)⟩
   omega
  have hc9:=bp hb9
  have hany:(a0.data.toList.any fun b=>decide (b=0))=false:=by
   rw[List.any_eq_false]
   intro b hb
   obtain⟨i,hi,rfl⟩:=List.mem_iff_getElem.1 hb
   have:=hz i hi (by have hl:=Lib.size_eq a0;omega)
   simpa using this
  refine BM (Ak (Ak (BN (As (t_ (w_ (a_ (h:=e_ (A4 (?_))))))))))
  refine AB ?_
  first|(exfalso;first|contradiction|omega)|(exact vi (by simp[Cx, *]))
 have hc7:=bp hb7
 refine q_ (w_ (AW (h:=a_ (h:=e_ (?_)))))
 refine A8 rfl (fun hb11=>?_) (fun hb11=>?_)
 ·have hc11:=bp hb11
  refine AM (Bx (h:=w_ (?_)))
  refine A6 rfl (Dv (len:=4) (sz:=1) (n:=0) (by kernel_rfl) rfl rfl rfl rfl ?_)
  refine l_ (h:=?_)
  refine A6 rfl (AG (Pq w.c.a0) ?_)
  rintro r rfl
  refine BR (h:=e_ (?_))
  refine A8 rfl (fun hb12=>?_) (fun hb12=>?_)
  ·have hc12:=bp hb12
   refine w_ (a_ (h:=e_ (A4 (AX (A7 (?_))))))
   refine AB ?_
   first|(exfalso;first|contradiction|omega)|(exact vi (by simp[Cx, *]))
  have hc12:=bp hb12
  refine B4 (As (t_ (w_ (a_ (h:=e_ (A4 (?_)))))))
  refine AB ?_
  first|(exfalso;first|contradiction|omega)|(exact vi (by simp[Cx, *]))
 have hc11:=bp hb11
 refine AQ (AW (h:=a_ (h:=e_ (?_))))
 refine A8 rfl (fun hb13=>?_) (fun hb13=>?_)
 ·have hc13:=bp hb13
  refine w_ (?_)
  refine A6 rfl (Dv (len:=4) (sz:=1) (n:=0) (by kernel_rfl) rfl rfl rfl rfl ?_)
  refine l_ (h:=?_)
  refine A6 rfl (AG (Pq w.c.a0) ?_)
  rintro r rfl
  refine BR (h:=e_ (?_))
  refine A8 rfl (fun hb14=>?_) (fun hb14=>?_)
  ·have hc14:=bp hb14
   refine w_ (a_ (h:=e_ (A4 (AX (A7 (?_))))))
   refine AB ?_
   first|(exfalso;first|contradiction|omega)|(exact vi (by simp[Cx, *]))
  have hc14:=bp hb14
  refine B4 (As (t_ (w_ (a_ (h:=e_ (A4 (?_)))))))
  refine AB ?_
  first|(exfalso;first|contradiction|omega)|(exact vi (by simp[Cx, *]))
 have hc13:=bp hb13
 refine w_ (AW (h:=a_ (h:=e_ (?_))))
 refine A8 rfl (fun hb15=>?_) (fun hb15=>?_)
 ·have hc15:=bp hb15
  refine w_ (?_)
  refine A6 rfl (Dv (len:=4) (sz:=1) (n:=0) (by kernel_rfl) rfl rfl rfl rfl ?_)
  refine l_ (h:=BH (h:=m_ (h:=?_)))
  refine Ar false rfl rfl (fun hb16=>?_) (fun hb16=>?_)
  ·have hc16:=bp hb16
   refine A3 (h:=A3 (h:=A3 (h:=AZ (h:=m_ (h:=A3 (h:=A3 (h:=A3 (h:=AZ (h:=m_ (h:=A3 (h:=A3 (h:=A3 (h:=AZ (h:=e_ (Bx (h:=w_ (a_ (h:=e_ (A4 (AX (A7 (?_))))))))))))))))))))))
   refine AB ?_
   first|(exfalso;first|contradiction|omega)|(exact vi (by simp[Cx, *]))
  have hc16:=bp hb16
  refine Az (Dv (len:=4) (sz:=1) (n:=0) (by kernel_rfl) rfl rfl rfl rfl ?_)
  refine l_ (h:=CG (h:=Ah (h:=m_ (h:=?_))))
  refine Ar false rfl rfl (fun hb17=>?_) (fun hb17=>?_)
  ·have hc17:=bp hb17
   refine A3 (h:=A3 (h:=A3 (h:=AZ (h:=m_ (h:=A3 (h:=A3 (h:=A3 (h:=AZ (h:=e_ (Bx (h:=w_ (a_ (h:=e_ (A4 (AX (A7 (?_)))))))))))))))))
   refine AB ?_
   first|(exfalso;first|contradiction|omega)|(exact vi (by simp[Cx, *]))
  have hc17:=bp hb17
  refine Az (Dv (len:=4) (sz:=1) (n:=1) (by kernel_rfl) rfl rfl rfl rfl ?_)
  refine l_ (h:=BH (h:=Ah (h:=m_ (h:=?_))))
  refine Ar false rfl rfl (fun hb18=>?_) (fun hb18=>?_)
  ·have hc18:=bp hb18
   refine A3 (h:=A3 (h:=A3 (h:=AZ (h:=e_ (Bx (h:=w_ (a_ (h:=e_ (A4 (AX (A7 (?_))))))))))))
   refine AB ?_
   first|(exfalso;first|contradiction|omega)|(exact vi (by simp[Cx, *]))
  have hc18:=bp hb18
  refine Az (Dv (len:=4) (sz:=1) (n:=1) (by kernel_rfl) rfl rfl rfl rfl ?_)
  refine l_ (h:=CG (h:=Ah (h:=e_ (?_))))
  refine A8 rfl (fun hb19=>?_) (fun hb19=>?_)
  ·have hc19:=bp hb19
   refine w_ (a_ (h:=e_ (A4 (AX (A7 (?_))))))
   refine AB ?_
   first|(exfalso;first|contradiction|omega)|(exact vi (by simp[Cx, *]))
  have hc19:=bp hb19
  refine B4 (As (t_ (w_ (a_ (h:=e_ (A4 (?_)))))))
  refine AB ?_
  first|(exfalso;first|contradiction|omega)|(exact vi (by simp[Cx, *]))
 have hc15:=bp hb15
 refine w_ (AW (h:=a_ (h:=e_ (?_))))
 refine A8 rfl (fun hb20=>?_) (fun hb20=>?_)
 ·have hc20:=bp hb20
  refine w_ (m_ (h:=k_ (h:=f_ (h:=f_ (h:=l_ (h:=BS (h:=e_ (?_))))))))
  refine A8 rfl (fun hb21=>?_) (fun hb21=>?_)
  ·have hc21:=bp hb21
   refine w_ (a_ (h:=e_ (A4 (AX (A7 (?_))))))
   refine AB ?_
   first|(exfalso;first|contradiction|omega)|(exact vi (by simp[Cx, *]))
  have hc21:=bp hb21
  refine B4 (As (t_ (w_ (a_ (h:=e_ (A4 (?_)))))))
  refine AB ?_
  first|(exfalso;first|contradiction|omega)|(exact vi (by simp[Cx, *]))
 have hc20:=bp hb20
 refine w_ (AW (h:=a_ (h:=e_ (?_))))
 refine A8 rfl (fun hb22=>?_) (fun hb22=>?_)
 ·have hc22:=bp hb22
  refine w_ (?_)
  refine A6 rfl (Dv (len:=4) (sz:=1) (n:=0) (by kernel_rfl) rfl rfl rfl rfl ?_)
  refine l_ (h:=BH (h:=e_ (?_)))
  refine A8 rfl (fun hb23=>?_) (fun hb23=>?_)
  ·have hc23:=bp hb23
   refine w_ (a_ (h:=e_ (A4 (AX (A7 (?_))))))
   refine AB ?_
   first|(exfalso;first|contradiction|omega)|(exact vi (by simp[Cx, *]))
  have hc23:=bp hb23
  refine B4 (As (t_ (w_ (a_ (h:=e_ (A4 (?_)))))))
  refine AB ?_
  first|(exfalso;first|contradiction|omega)|(exact vi (by simp[Cx, *]))
 have hc22:=bp hb22
 refine B4 (As (t_ (w_ (a_ (h:=e_ (A4 (?_)))))))
 refine AB ?_
 first|(exfalso;first|contradiction|omega)|(exact vi (by simp[Cx, *]))
end
def GL(n:Int):Int:=IntKind.i64.wrap (0 - n)
def E5(s:Syst)(pid:Int)(c:Cal):Syst×Res:=
 if Da s.tab pid=false then(s,{F9 with exit:= -4})else if BU c≠0 then(s,{F9 with exit:= -22})
 else if(Fc s (Ax s.tab pid) c).2.2≠0 then(s,{F9 with exit:=GL (Fc s (Ax s.tab pid) c).2.2,items:=(Fc s (Ax s.tab pid) c).1})
 else if(D0 (EY s pid c)).2≠0 then(s,{F9 with exit:=GL (D0 (EY s pid c)).2,items:=(Fc s (Ax s.tab pid) c).1})
 else((D0 (EY s pid c)).1.s,(D0 (EY s pid c)).1.r)
def UO(R:Syst×Res):AV:= .tup [.agg (D1 R.1), .agg (EZ R.2)]
theorem dG{α:Type}{sz:Nat}{F:α→List AV}(hF:RowF sz F)(l:List α)(cap0 cap:Nat):((LB sz F l cap0).drop 0).take (l.length * sz)++List.replicate ((cap - l.length) * sz) .any=LB sz F l cap:=by
 unfold LB
 have h:=RS (cap:=cap0) (JM hF l)
 rw[List.length_map]at h
 rw[h]
 unfold Bz
 rw[List.length_map]
def Lg:List AV:=[.v (.slice none 0 0), .v (.slice none 0 0), .v (.int .i64 0), .v (.int .i64 0), .v (.slice none 0 0)]
def Lh:List AV:=[.v (.int .i64 0), .v (.int .i64 0), .v (.int .i64 0), .v (.slice none 0 0), .v (.slice none 0 0)]
def JP(r:Res)(I:AV):List AV:=[.v (.int .i64 r.exit), .v (.int .i64 r.child), .v (.int .i64 r.gone),I, .sl 7 (r.changes.map C1) none]
def GM(s:Syst)(pid:Int)(c:Cal):Wrk:=⟨s,Ax s.tab pid,c,[],F9⟩
theorem dH(s:Syst)(pid:Int)(c:Cal):LeA (.agg (D1 s++(BW (Ax s.tab pid)++(EU c++[.v (.slice none 0 0), .v (.int .i64 0), .v (.int .i64 0), .v (.int .i64 0), .v (.slice none 0 0), .v (.slice none 0 0)])))) (.agg (Ci (GM s pid c) (.v (.slice none 0 0)) (.v (.slice none 0 0)))):=by
 refine LeA.agg ?_
 repeat (first|exact LeL.nil|refine LeL.cons (LeA.refl _) ?_|refine LeL.cons (LeA.nil _) ?_)
theorem Q0(w:Wrk)(R:Df):(Bl w R).1.r.items.length=w.r.items.length:=by
 unfold Bl
 split<;>rfl
theorem dJ(w:Wrk)(R:Tab×Int):(DS w R).1.r.items.length=w.r.items.length:=by
 unfold DS
 split<;>rfl
theorem UP(w:Wrk)(i:Nat)(a:A9):(GG w i a).r.items.length=w.r.items.length:=List.length_modify ..
theorem dL(w:Wrk)(i:Nat)(r:Int):(Er w i r).r.items.length=w.r.items.length:=List.length_modify ..
theorem UQ(w:Wrk)(i:Nat)(n:Nod):(Cc w i n).1.r.items.length=w.r.items.length:=by
 unfold Cc
 split
 ·rw[UP,Q0]
 rfl
theorem UR(w:Wrk)(a:A9):(Gi w a).1.r.items.length=w.r.items.length:=by
 unfold Gi
 rw[dJ]
 rfl
theorem dM(w:Wrk):(C5 w).1.r.items.length=w.r.items.length:=by
 unfold C5
 repeat' split
 all_goals first|rfl|exact UQ _ _ _|exact UR _ _|exact(UR _ _).trans (UQ _ _ _)
theorem dO(w:Wrk)(R:Df)(x:A9):(GH w R x).1.r.items.length=w.r.items.length:=by
 unfold GH
 repeat' split
 all_goals first|rfl|exact Q0 _ _|exact(UP _ _ _).trans ((dL _ _ _).trans (Q0 _ _))
theorem dQ(w:Wrk):(Dm w).1.r.items.length=w.r.items.length:=by
 unfold Dm
 repeat' split
 all_goals first|rfl|exact dO _ _ _
theorem dR{w:Wrk}(h:w.c.num=6∨w.c.num=13):(D0 w).1.r.items.length=w.r.items.length:=by
 rcases h with h|h
 ·rw[D0,if_pos h];exact dM w
 rw[D0,if_neg (show¬w.c.num=6 by omega),if_neg (show¬w.c.num=8 by omega),if_neg (show¬(w.c.num=10∨w.c.num=12) by omega),if_pos h];exact dQ w
section
variable {P:Program}{ev:Operand→Option AV}{h:AH}{R:AV→AH→Prop}{d:Option Tmp}{ty:TypeId}{pos:String}{af:Array Edge}{gd:Option (Nat×Bool)}
theorem dS{T:TypeId}{x:Operand}{a:Int}(hx:ev x=some (.v (.int .i64 a)))(hR:R (.v (.int .i64 (GL a))) h):AStep P ⟨d, .unOp .neg T x,ty,pos,af,gd⟩ ev h R:=
 Ce (fun _ G w ec _ he=>⟨.int .i64 (GL a),by
  have h1:=he x (by simp[Op.operands]) _ hx
  simp only[rep]at h1
  simp[execOp,h1,Op.unary,Op.intArith,GL],by simp only[rep]⟩) hR
end
section
theorem dT(w:Wrk)(cap:Nat)(hv:SpcV w.s.spc)(hm:w.s.spc.mounts.length≤1000)(htb:TabB w.s.tab)(hnm:∀f∈w.found,f.name.size≤12)(h6:(w.c.num=6∧1≤w.found.length∧1≤w.r.items.length)∨(w.c.num=13∧2≤w.found.length∧2≤w.r.items.length)):ACall Tryz.prog 68 [.bp 0 0] [WA w cap,IB w cap] (fun r b t=>t=[]∧r= .v (.int .i64 (D0 w).2)∧b=[WA (D0 w).1 cap,IB (D0 w).1 cap]):=by
 have hps:w.s.tab.ps.length≤1000:=by have:=htb.few;omega
 refine enter Tryz.func68 rfl rfl rfl rfl rfl 2 rfl ?_
 refine w_ (a_ (h:=e_ (q_ (w_ (m_ (h:=k_ (h:=f_ (h:=f_ (h:=l_ (h:=e_ (Aj (w_ (AW (h:=a_ (h:=e_ (?_))))))))))))))))
 refine A8 rfl (fun hb1=>?_) (fun hb1=>?_)
 ·have hc1:=bp hb1
  obtain⟨f,hf⟩:∃f,w.found[0]?=some f:=⟨_,B9 (by omega)⟩
  obtain⟨x,hx⟩:∃x,w.r.items[0]?=some x:=⟨_,B9 (by omega)⟩
  have hact:D0 w=C5 w:=by rw[D0,if_pos hc1]
  refine w_ (m_ (h:=?_))
  refine A6 rfl (Cs [0,1] rfl (.cons _ _ _ _ _ rfl (LeA.refl _) .nil) (by decide) (.cons _ _ _ _ _ rfl rfl (.cons _ _ _ _ _ rfl (Fd BA _ _ _) .nil)) (cW w cap f x hv hm htb hf hx (by have:=hnm f (Am hf);omega)) ?_)
  rintro r bc tc ⟨rfl,rfl,rfl⟩
  refine⟨rfl,_,Gk rfl (C5 w).1 cap,?_⟩
  refine a_ (h:=e_ (A4 (AX (A7 (?_)))))
  refine De (r:= .v (.int .i64 (D0 w).2)) none (h5:=(by rw[hact];exact LeA.refl _)) (h6:=⟨rfl,rfl,?_⟩)
  rw[hact]
  rfl
 have hc1:=bp hb1
 refine w_ (AW (h:=a_ (h:=e_ (?_))))
 refine A8 rfl (fun hb2=>?_) (fun hb2=>?_)
 ·have hc2:=bp hb2
  exfalso;first|contradiction|omega
 have hc2:=bp hb2
 refine q_ (w_ (AW (h:=a_ (h:=e_ (?_)))))
 refine A8 rfl (fun hb3=>?_) (fun hb3=>?_)
 ·have hc3:=bp hb3
  exfalso;first|contradiction|omega
 have hc3:=bp hb3
 refine AQ (AW (h:=a_ (h:=e_ (?_))))
 refine A8 rfl (fun hb4=>?_) (fun hb4=>?_)
 ·have hc4:=bp hb4
  exfalso;first|contradiction|omega
 have hc4:=bp hb4
 refine w_ (AW (h:=a_ (h:=e_ (?_))))
 refine A8 rfl (fun hb5=>?_) (fun hb5=>?_)
 ·have hc5:=bp hb5
  obtain⟨f,hf⟩:∃f,w.found[0]?=some f:=⟨_,B9 (by omega)⟩
  obtain⟨g,hg⟩:∃f,w.found[1]?=some f:=⟨_,B9 (by omega)⟩
  obtain⟨x,hx⟩:∃x,w.r.items[0]?=some x:=⟨_,B9 (by omega)⟩
  obtain⟨x1,hx1⟩:∃x,w.r.items[1]?=some x:=⟨_,B9 (by omega)⟩
  have hact:D0 w=Dm w:=by rw[D0,if_neg (show¬w.c.num=6 by omega),if_neg (show¬w.c.num=8 by omega),if_neg (show¬(w.c.num=10∨w.c.num=12) by omega),if_pos hc5]
  refine w_ (m_ (h:=?_))
  refine A6 rfl (Cs [0,1] rfl (.cons _ _ _ _ _ rfl (LeA.refl _) .nil) (by decide) (.cons _ _ _ _ _ rfl rfl (.cons _ _ _ _ _ rfl (Fd BA _ _ _) .nil)) (d6 w cap f g x x1 hv hm hps hf hg hx hx1 (by have:=hnm f (Am hf);omega) (by have:=hnm g (Am hg);omega)) ?_)
  rintro r bc tc ⟨rfl,rfl,rfl⟩
  refine⟨rfl,_,Gk rfl (Dm w).1 cap,?_⟩
  refine a_ (h:=e_ (A4 (AX (A7 (?_)))))
  refine De (r:= .v (.int .i64 (D0 w).2)) none (h5:=(by rw[hact];exact LeA.refl _)) (h6:=⟨rfl,rfl,?_⟩)
  rw[hact]
  rfl
 have hc5:=bp hb5
 exfalso;first|contradiction|omega
theorem Q1(s:Syst)(pid:Int)(c:Cal)(hv:SpcV s.spc)(hm:s.spc.mounts.length≤1000)(ht:TabB s.tab)(hcp:c.paths.length≤1000)(hca:c.args.length≤1000)(h6:c.num=6∨c.num=13):AFn Tryz.prog 35 [.agg (D1 s), .v (.int .i64 pid), .agg (EU c)] (fun r=>r=UO (E5 s pid c)):=by
 have hsb:=hv.b hm
 obtain⟨W1,hW1⟩:∃W,W=EY s pid c:=⟨_,rfl⟩
 have hwf:=dD s pid c
 rw[←hW1]at hwf
 have hWs:W1.s=s:=by rw[hW1];rfl
 have hWc:W1.c=c:=by rw[hW1];rfl
 refine enter Tryz.func35 rfl rfl rfl rfl rfl 0 rfl ?_
 refine w_ (b_ (h:=b_ (h:=AY (h:=AY (h:=e_ (w_ (f_ (h:=l_ (h:=m_ (h:=?_))))))))))
 refine A6 rfl (AG (Tf s.tab pid ht) ?_)
 rintro r rfl
 refine m_ (h:=x_ (h:=x_ (h:=AY (h:=s_ (h:=a_ (h:=e_ (q_ (w_ (m_ (h:=BR (h:=e_ (?_))))))))))))
 refine A8 rfl (fun hb1=>?_) (fun hb1=>?_)
 ·have hc1:=bp hb1
  have hno:Da s.tab pid=false:=by simpa using hc1
  refine w_ (l_ (h:=?_))
  refine A6 rfl (AG (NM s hsb ht) ?_)
  rintro r rfl
  refine A6 rfl (Fl (y:= .agg (EZ {F9 with exit:= -4})) (DD ⟨rfl,rfl⟩) ?_)
  refine s_ (h:=s_ (h:=e_ (A4 (A7 (?_)))))
  refine AB ?_
  rw[E5,if_pos hno];rfl
 have hc1:=bp hb1
 have hno:¬Da s.tab pid=false:=by simpa using hc1
 refine AM (q_ (w_ (l_ (h:=?_))))
 refine A6 rfl (AG (ZX c hcp hca) ?_)
 rintro r rfl
 refine BS (h:=e_ (?_))
 refine A8 rfl (fun hb2=>?_) (fun hb2=>?_)
 ·have hc2:=bp hb2
  have hck:BU c≠0:=by simpa using hc2
  refine w_ (l_ (h:=?_))
  refine A6 rfl (AG (NM s hsb ht) ?_)
  rintro r rfl
  refine A6 rfl (Fl (y:= .agg (EZ {F9 with exit:= -22})) (DD ⟨rfl,rfl⟩) ?_)
  refine s_ (h:=s_ (h:=e_ (A4 (A7 (?_)))))
  refine AB ?_
  rw[E5,if_neg hno,if_pos hck];rfl
 have hc2:=bp hb2
 have hck:BU c=0:=by simpa using hc2
 obtain⟨hk1,hk2,hk3,hk4,hk5⟩:=dB hck
 have hargs:∀p∈(GM s pid c).c.args,p.size≤1000:=fun p hp=>by have:=hk5 p hp;omega
 have hpaths:∀p∈(GM s pid c).c.paths,p.size≤100000:=fun p hp=>by have:=hk4 p hp;omega
 have hpn:(c.num=6∧c.paths.length=1∧(CJ c).length=1)∨(c.num=13∧c.paths.length=2∧(CJ c).length=2):=by
  rcases h6 with h|h
  ·refine .inl ⟨h,?_,?_⟩
   ·rw[h]at hk1;have:(DR 6).2.2.1=1:=rfl;omega
   simp[CJ,h]
  refine .inr ⟨h,?_,?_⟩
  ·rw[h]at hk1;have:(DR 13).2.2.1=2:=rfl;omega
  simp[CJ,h]
 have hpp:(GM s pid c).c.paths.length=(CJ (GM s pid c).c).length:=by show c.paths.length=(CJ c).length;omega
 have hp0:0<(GM s pid c).c.paths.length:=by show 0<c.paths.length;omega
 have hzl:(c.paths.zip (CJ c)).length=c.paths.length:=by rw[List.length_zip];omega
 have hil0:0<W1.r.items.length:=by rw[hwf.2.2,hzl];omega
 refine AM (q_ (BL ([(0,D1 s),(1,EU c),(4,BW (Ax s.tab pid))]) 7 (h:=?_)))
 refine AE 0 (h:=?_)
 refine AE 2 (h:=?_)
 refine AE 3 (h:=?_)
 refine c_ 1 rfl (AG (NM s hsb ht) ?_)
 rintro r rfl
 refine o_ (h:=?_)
 refine Bj 4 rfl (fun _ hS=>Ef (y:= .agg (Ci (GM s pid c) (.v (.slice none 0 0)) (.v (.slice none 0 0)))) (DD ⟨rfl,rfl⟩) (dH s pid c) ⟨rfl,rfl⟩) ?_
 refine c_ 5 rfl (O0 rfl rfl (by repeat constructor) ?_)
 refine o_ (h:=B3 6 (h:=z_ (h:=t_ (?_))))
 refine BB (fun S=>∃cap,W1.r.items.length≤cap∧S=⟨look [(3, .bp 2 0),(6, .bp 3 0),(7, .bp 4 0),(10, .bp 0 0),(11, .v (.int .i64 (Fc s (Ax s.tab pid) c).2.2))],⟨[WA W1 cap,IB W1 cap,D1 s,Lg,Lh],[]⟩⟩) ?_ ?_
 ·skip
  refine AQ (m_ (h:=m_ (h:=?_)))
  refine A6 rfl (Dw 1 rfl (.cons _ _ _ _ _ rfl (LeA.of_eq rfl) .nil) (dF (GM s pid c) (.v (.slice none 0 0)) (.v (.slice none 0 0)) (fun h=>by have:c.num=9:=h;omega) hargs) ?_)
  rintro r rfl
  refine⟨rfl,?_⟩
  refine A6 rfl (Cs [5] rfl (.cons _ _ _ _ _ rfl (LeA.refl _) (.cons _ _ _ _ _ rfl (LeA.refl _) .nil)) (by decide) (.cons _ _ _ _ _ rfl rfl .nil) (cO (GM s pid c) (Cx (Ax s.tab pid) c) hv hm hpp (by show c.paths.length≤1000;omega) hp0 hpaths) ?_)
  rintro r bc tc ⟨rfl,cap,hcap,rfl,rfl⟩
  refine⟨rfl,_,dC (GM s pid c) _ _ cap _,?_⟩
  refine a_ (h:=AO (?_))
  refine AF ?_
  rw[hW1]
  exact⟨_,⟨cap,hcap,rfl⟩,Ej [5,6,0,2,3] (fun i hi=>absurd hi (Nat.not_lt_zero i)) (by decide) (.cons _ _ _ _ _ rfl rfl (.cons _ _ _ _ _ rfl (JN BA _ _ _) (.cons _ _ _ _ _ rfl rfl (.cons _ _ _ _ _ rfl rfl (.cons _ _ _ _ _ rfl rfl .nil))))) (by repeat (first|exact SubK.nil|refine SubK.cons _ _ _ _ rfl (LeA.refl _) ?_))⟩
 rintro S ⟨cap,hcap,rfl⟩
 refine w_ (m_ (h:=k_ (h:=f_ (h:=f_ (h:=l_ (h:=?_))))))
 refine A6 rfl (MT rfl rfl (SrcA.bs 1 0 _ cap _ rfl (by rw[show IB W1 cap=LB 13 CK W1.r.items cap from rfl,Pl BA hcap];omega)) hil0 (by rw[hwf.2.2,hzl];omega) ?_)
 rintro cap2 k bx2 hcp2 hs
 rw[show((IB W1 cap).drop 0).take (W1.r.items.length * 13)++List.replicate ((cap2 - W1.r.items.length) * 13) AV.any=LB 13 CK W1.r.items cap2 from dG BA _ cap cap2]at hs
 obtain⟨rfl,rfl⟩:k=5∧bx2=[_,_,_,_,_,_]:=hs.eq
 refine a_ (h:=e_ (?_))
 refine BB (fun S=>∃(W2:Wrk) (E2:Int),((¬(Fc s (Ax s.tab pid) c).2.2=0∧E2=(Fc s (Ax s.tab pid) c).2.2)∨((Fc s (Ax s.tab pid) c).2.2=0∧W2=(D0 W1).1∧E2=(D0 W1).2))∧S=⟨look [(3, .bp 2 0),(6, .bp 3 0),(7, .bp 4 0),(10, .bp 0 0),(11, .v (.int .i64 E2)),(12, .bs 5 0 13 W1.r.items.length cap2)],⟨[WA W2 cap,IB W2 cap,D1 s,Lg,Lh,LB 13 CK W1.r.items cap2],[]⟩⟩) ?_ ?_
 ·skip
  refine w_ (m_ (h:=AW (h:=e_ (?_))))
  refine A8 rfl (fun hb3=>?_) (fun hb3=>?_)
  ·have hc3:=bp hb3
   have he1:(Fc s (Ax s.tab pid) c).2.2=0:=by simpa using hc3
   refine AQ (m_ (h:=?_))
   refine A6 rfl (Cs [0,1] rfl (.cons _ _ _ _ _ rfl (LeA.refl _) .nil) (by decide) (.cons _ _ _ _ _ rfl rfl (.cons _ _ _ _ _ rfl (Fd BA _ _ _) .nil)) (dT W1 cap (by rw[hWs];exact hv) (by rw[hWs];exact hm) (by rw[hWs];exact ht) hwf.1 (by rw[hWc,hwf.2.1,hwf.2.2,hzl];omega)) ?_)
   rintro r bc tc ⟨rfl,rfl,rfl⟩
   refine⟨rfl,_,Gk rfl (D0 W1).1 cap,?_⟩
   refine a_ (h:=AO (?_))
   refine AF ?_
   exact⟨_,⟨(D0 W1).1,(D0 W1).2, .inr ⟨he1,rfl,rfl⟩,rfl⟩,Au 6 0 rfl rfl rfl (by simp[Aq,Ao,Ap,Bf BA,CD,WA,IB,Cd,D1,Lg,Lh]) ((by repeat (first|exact Sub.nil|refine Sub.cons _ _ _ rfl rfl ?_|refine Sub.any _ _ ?_|refine Sub.sl _ _ _ _ _ rfl ?_|refine Sub.slnil _ _ _ rfl ?_)))⟩
  have hc3:=bp hb3
  have he1:¬(Fc s (Ax s.tab pid) c).2.2=0:=by simpa using hc3
  refine B4 (?_)
  refine AF ?_
  first|exact⟨_,⟨(D0 W1).1,(D0 W1).2, .inr ⟨he1,rfl,rfl⟩,rfl⟩,Au 6 0 rfl rfl rfl (by simp[Aq,Ao,Ap,Bf BA,CD,WA,IB,Cd,D1,Lg,Lh]) ((by repeat (first|exact Sub.nil|refine Sub.cons _ _ _ rfl rfl ?_|refine Sub.any _ _ ?_|refine Sub.sl _ _ _ _ _ rfl ?_|refine Sub.slnil _ _ _ rfl ?_)))⟩|exact⟨_,⟨W1,_, .inl ⟨he1,rfl⟩,rfl⟩,Au 6 0 rfl rfl rfl (by simp[Aq,Ao,Ap,Bf BA,CD,WA,IB,Cd,D1,Lg,Lh]) ((by repeat (first|exact Sub.nil|refine Sub.cons _ _ _ rfl rfl ?_|refine Sub.any _ _ ?_|refine Sub.sl _ _ _ _ _ rfl ?_|refine Sub.slnil _ _ _ rfl ?_)))⟩
 rintro S ⟨W2,E2,hQ,rfl⟩
 refine q_ (w_ (m_ (h:=BS (h:=e_ (?_)))))
 refine A8 rfl (fun hb4=>?_) (fun hb4=>?_)
 ·have hc4:=bp hb4
  have he2:E2≠0:=by simpa using hc4
  have hrun:E5 s pid c=(s,{F9 with exit:=GL E2,items:=W1.r.items}):=by
   rw[E5,if_neg hno,if_neg (by simp[hck])]
   rcases hQ with⟨q1,q2⟩|⟨q1,q2,q3⟩
   ·rw[if_pos q1,←q2,hW1];rfl
   rw[if_neg (by simp[q1]),←hW1,←q3,if_pos he2,hW1];rfl
  refine BB (fun S=>S=⟨look [(6, .bp 0 0),(7, .bp 1 0)],⟨[D1 s,JP {F9 with exit:=GL E2} (.sl 13 (W1.r.items.map CK) none)],[]⟩⟩) ?_ ?_
  ·skip
   refine AQ (l_ (h:=?_))
   refine A6 rfl (AG (NM s hsb ht) ?_)
   rintro r rfl
   refine m_ (h:=?_)
   refine A6 rfl (dS rfl ?_)
   refine m_ (h:=?_)
   refine A6 rfl (Fl (y:= .agg (JP {F9 with exit:=GL E2} (.bs 5 0 13 W1.r.items.length cap2))) (DD ⟨rfl,rfl⟩) ?_)
   refine s_ (h:=s_ (h:=AO (?_)))
   refine AF ?_
   refine⟨_,rfl,(Ej [3,4,5] (rows:=[D1 s,JP {F9 with exit:=GL E2} (.bs 2 0 13 W1.r.items.length cap2),LB 13 CK W1.r.items cap2]) (l:=[(6, .bp 0 0),(7, .bp 1 0)]) (fun i hi=>absurd hi (Nat.not_lt_zero i)) (by decide) (.cons _ _ _ _ _ rfl rfl (.cons _ _ _ _ _ rfl rfl (.cons _ _ _ _ _ rfl (JN BA _ _ _) .nil))) (by repeat (first|exact SubK.nil|refine SubK.cons _ _ _ _ rfl (LeA.refl _) ?_))).trans (Ez 2 1 rfl (congrArg (fun x=>[D1 s,JP {F9 with exit:=GL E2} x]) (Pn BA rfl rfl hcp2)) (.cons _ _ _ _ rfl (LeA.refl _) (.cons _ _ _ _ rfl (LeA.refl _) .nil)))⟩
  rintro S rfl
  refine A4 (A7 (?_))
  refine Aw (r:=UO (E5 s pid c)) none (h5:=(by rw[hrun];exact(by repeat (first|exact LeA.refl _|exact LeA.nil _|exact LeL.refl _|refine LeA.agg ?_|refine LeA.tup ?_|exact LeL.nil|refine LeL.cons ?_ ?_|exact LeA.any _)))) (h6:=⟨rfl,rfl,rfl⟩)
 have hc4:=bp hb4
 have he2:E2=0:=by simpa using hc4
 have hlen2:W2.r.items.length≤cap:=by
  rcases hQ with⟨q1,q2⟩|⟨q1,q2,q3⟩
  ·exact absurd (q2.symm.trans he2) q1
  rw[q2,dR (by rw[hWc];exact h6)];exact hcap
 have hrun:E5 s pid c=(W2.s,W2.r):=by
  rcases hQ with⟨q1,q2⟩|⟨q1,q2,q3⟩
  ·exact absurd (q2.symm.trans he2) q1
  rw[E5,if_neg hno,if_neg (by simp[hck]),if_neg (by simp[q1]),←hW1,←q3,if_neg (by simp[he2]),q2]
 refine AM (?_)
 refine BB (fun S=>S=⟨look [(6, .bp 0 0),(7, .bp 1 0)],⟨[D1 W2.s,JP W2.r (.sl 13 (W2.r.items.map CK) none)],[]⟩⟩) ?_ ?_
 ·skip
  refine BL ([(0,WA W2 cap)]) 10 (h:=AN 0 (h:=BC 1 (h:=AK 2 (h:=AE 3 (h:=AN 4 (h:=BC 5 (h:=AK 6 (h:=AE 7 (h:=?_)))))))))
  refine B0 8 rfl (Ay rfl rfl rfl rfl rfl rfl (by repeat constructor) (by repeat constructor) ?_)
  refine o_ (h:=?_)
  refine B0 9 rfl (Ay rfl rfl rfl rfl rfl rfl (by repeat constructor) (by repeat constructor) ?_)
  refine o_ (h:=z_ (h:=?_))
  refine AF ?_
  refine⟨_,rfl,(Ej [3,4,1] (rows:=[D1 W2.s,JP W2.r (.bs 2 0 13 W2.r.items.length cap),LB 13 CK W2.r.items cap]) (l:=[(6, .bp 0 0),(7, .bp 1 0)]) (fun i hi=>absurd hi (Nat.not_lt_zero i)) (by decide) (.cons _ _ _ _ _ rfl rfl (.cons _ _ _ _ _ rfl rfl (.cons _ _ _ _ _ rfl (JN BA _ _ _) .nil))) (by repeat (first|exact SubK.nil|refine SubK.cons _ _ _ _ rfl (LeA.refl _) ?_))).trans (Ez 2 1 rfl (congrArg (fun x=>[D1 W2.s,JP W2.r x]) (Pn BA rfl rfl hlen2)) (.cons _ _ _ _ rfl (LeA.refl _) (.cons _ _ _ _ rfl (LeA.refl _) .nil)))⟩
 rintro S rfl
 refine A4 (?_)
 refine AB ?_
 rw[hrun];rfl
end
structure Wch where
 kind:Int
 dir:A9
 name:AD
 file:A9
deriving DecidableEq
def Ea:Wch:=⟨0,(0,0),⟨#[]⟩,(0,0)⟩
def BK(w:Wch):List AV:=[.v (.int .i64 w.kind), .v (.int .i64 w.dir.1), .v (.int .i64 w.dir.2), .v (.string w.name), .v (.int .i64 w.file.1), .v (.int .i64 w.file.2)]
def Eb(s:Spc)(a:A9):Bool:=Ai s.files a&&Bt s a.1
def FC(s:Spc)(k:Int)(p:AD):Wch×Int:=
 if(k≠1∧k≠2)∨DF p.data.toList=false then(Ea,22)
 else if(BV s (0,0) p (decide (k=2))).2≠0 then(Ea,(BV s (0,0) p (decide (k=2))).2)
 else if k=2 then
  (if(BV s (0,0) p true).1.ex=false then(Ea,2)else if Ai s.files (BV s (0,0) p true).1.file=false then(Ea,20)
  else(⟨k,(0,0),⟨#[]⟩,(BV s (0,0) p true).1.file⟩,0))
 else if(BV s (0,0) p false).1.name=⟨#[]⟩then(Ea,22)
 else(⟨k,(BV s (0,0) p false).1.dir,(BV s (0,0) p false).1.name,(AJ s.files (BV s (0,0) p false).1.dir (BV s (0,0) p false).1.name).1⟩,0)
def DL(s:Spc)(w:Wch):Bool:=
 if w.kind=1 then Eb s w.dir&&decide ((AJ s.files w.dir w.name).1=w.file)&&Cy w.name
 else if w.kind=2 then Eb s w.file&&decide (w.dir=(0,0))&&decide (w.name=⟨#[]⟩)else false
def CE(w:Wch):A9:=if w.kind=2 then w.file else w.dir
def EK(s:Spc)(w:Wch):Wch×Bool:=
 if(w.kind≠1∧w.kind≠2)∨Eb s (CE w)=false then(Ea,false)
 else if w.kind=1 then({w with file:=(AJ s.files w.dir w.name).1},true)else(w,true)
def Q2(w:Wch)(l:List DE):Wch:=if w.kind=1 then{w with file:=l.foldl (fun a c=>if c.1=w.dir∧c.2.1=w.name then c.2.2.2 else a) w.file}else w
def NO(w:Wch)(gone:Int)(l:List DE):Wch×Bool:=
 if(w.kind≠1∧w.kind≠2)∨(gone≠0∧gone=(CE w).1)∨((l.any fun c=>decide (c.2.2.1=CE w))=true∧(l.any fun c=>decide (c.2.2.2=CE w))=false)then(Ea,false)
 else(Q2 w l,true)
theorem JQ(a b:A9)(w:World):(binOp .eql 36 (.agg #[.int .i64 a.1, .int .i64 a.2]) (.agg #[.int .i64 b.1, .int .i64 b.2])).run Tryz.prog w= .ok (.bool (decide (a=b))) w:=Jj a.1 a.2 b.1 b.2 w
def Q3(R:Wch×Int):AV:= .tup [.agg (BK R.1), .v (.int .i64 R.2)]
def Li(R:Wch×Bool):AV:= .tup [.agg (BK R.1), .v (.bool R.2)]
theorem US(s:Spc)(k:Int)(p:AD)(F:Fnd×Int)(hF:BV s (0,0) p (decide (k=2))=F):FC s k p=if(k≠1∧k≠2)∨DF p.data.toList=false then(Ea,22)else if F.2≠0 then(Ea,F.2)
    else if k=2 then(if F.1.ex=false then(Ea,2)else if Ai s.files F.1.file=false then(Ea,20)else(⟨k,(0,0),⟨#[]⟩,F.1.file⟩,0))
    else if F.1.name=⟨#[]⟩then(Ea,22)else(⟨k,F.1.dir,F.1.name,(AJ s.files F.1.dir F.1.name).1⟩,0):=by
 unfold FC
 rw[hF]
 by_cases h:k=2
 ·rw[decide_eq_true h]at hF
  simp only[if_pos h,hF]
 rw[decide_eq_false h]at hF
 simp only[if_neg h,hF]
theorem dU{f:AR}{dir:A9}{name:AD}(h:(AJ f dir name).2≠0):(AJ f dir name).1=(0,0):=by
 unfold AJ at h ⊢
 split
 ·rfl
 rename_i n e
 rw[e]at h
 simp only at h
 split at h
 ·rename_i c
  rw[if_pos c]
  split
  ·rfl
  rename_i e2;rw[e2]at h;exact absurd rfl h
 rename_i c;rw[if_neg c]
section
theorem UT(s:AD)(hs:s.size≤60000):AFn Tryz.prog 51 [.v (.string s)] (fun r=>r= .v (.bool (DF s.data.toList))):=MJ (us:=[.string s]) fun w=>aS s w (by omega)
theorem NP(s:Spc)(a:A9)(hs:SpcB s):AFn Tryz.prog 60 [.agg (Al s), .agg (AA a)] (fun r=>r= .v (.bool (Eb s a))):=by
 refine enter Tryz.func60 rfl rfl rfl rfl rfl 0 rfl ?_
 refine w_ (b_ (h:=b_ (h:=a_ (h:=e_ (w_ (f_ (h:=l_ (h:=l_ (h:=?_)))))))))
 refine A6 rfl (AG (FQ s.files a hs.files) ?_)
 rintro r rfl
 refine m_ (h:=?_)
 refine Ar true rfl rfl (fun hb1=>?_) (fun hb1=>?_)
 ·have hc1:=bp hb1
  refine l_ (h:=f_ (h:=l_ (h:=?_)))
  refine Az (AG (MZ s a.1 hs) ?_)
  rintro r rfl
  refine AZ (h:=a_ (h:=e_ (A4 (?_))))
  refine AB ?_
  first|(exfalso;first|contradiction|omega)|(exact vb (by simp[Eb, *]))
 have hc1:=bp hb1
 refine A3 (h:=A3 (h:=A3 (h:=A3 (h:=Ah (h:=a_ (h:=e_ (A4 (?_))))))))
 refine AB ?_
 first|(exfalso;first|contradiction|omega)|(exact vb (by simp[Eb, *]))
theorem UU(s:Spc)(a:A9)(hs:SpcB s):AFn Tryz.prog 54 [.agg (Al s), .agg (AA a)] (fun r=>r= .v (.bool (Ai s.files a))):=by
 refine enter Tryz.func54 rfl rfl rfl rfl rfl 0 rfl ?_
 refine w_ (b_ (h:=b_ (h:=a_ (h:=e_ (w_ (f_ (h:=l_ (h:=l_ (h:=?_)))))))))
 refine A6 rfl (AG (G9 s.files a hs.files) ?_)
 rintro r rfl
 refine m_ (h:=x_ (h:=x_ (h:=AY (h:=s_ (h:=a_ (h:=e_ (w_ (m_ (h:=m_ (h:=?_))))))))))
 refine Ar true rfl rfl (fun hb1=>?_) (fun hb1=>?_)
 ·have hc1:=bp hb1
  refine f_ (h:=l_ (h:=AW (h:=AZ (h:=a_ (h:=e_ (A4 (?_)))))))
  refine AB ?_
  first|(exfalso;first|contradiction|omega)|(exact vb (by simp[FP, *]))
 have hc1:=bp hb1
 refine A3 (h:=A3 (h:=A3 (h:=Ah (h:=a_ (h:=e_ (A4 (?_)))))))
 refine AB ?_
 first|(exfalso;first|contradiction|omega)|(exact vb (by simp[FP, *]))
theorem NQ(s:Spc)(a:A9)(hs:SpcB s):AFn Tryz.prog 58 [.agg (Al s), .agg (AA a)] (fun r=>r= .v (.bool (Eb s a))):=by
 refine enter Tryz.func58 rfl rfl rfl rfl rfl 0 rfl ?_
 refine w_ (b_ (h:=b_ (h:=a_ (h:=e_ (w_ (l_ (h:=l_ (h:=?_))))))))
 refine A6 rfl (AG (UU s a hs) ?_)
 rintro r rfl
 refine m_ (h:=?_)
 refine Ar true rfl rfl (fun hb1=>?_) (fun hb1=>?_)
 ·have hc1:=bp hb1
  refine l_ (h:=f_ (h:=l_ (h:=?_)))
  refine Az (AG (RN s a.1 hs) ?_)
  rintro r rfl
  refine AZ (h:=a_ (h:=e_ (A4 (?_))))
  refine AB ?_
  first|(exfalso;first|contradiction|omega)|(exact vb (by simp[Eb, *]))
 have hc1:=bp hb1
 refine A3 (h:=A3 (h:=A3 (h:=A3 (h:=Ah (h:=a_ (h:=e_ (A4 (?_))))))))
 refine AB ?_
 first|(exfalso;first|contradiction|omega)|(exact vb (by simp[Eb, *]))
theorem Q4(s:Spc)(a:A9)(name:AD)(hs:SpcB s):AFn Tryz.prog 53 [.agg (Al s), .agg (AA a), .v (.string name)] (fun r=>r= .agg (AA (AJ s.files a name).1)):=by
 refine enter Tryz.func53 rfl rfl rfl rfl rfl 0 rfl ?_
 refine w_ (b_ (h:=b_ (h:=AY (h:=e_ (w_ (f_ (h:=l_ (h:=l_ (h:=m_ (h:=?_))))))))))
 refine A6 rfl (AG (Pv s.files a name hs.files) ?_)
 rintro r rfl
 refine m_ (h:=x_ (h:=x_ (h:=AY (h:=s_ (h:=a_ (h:=e_ (q_ (w_ (m_ (h:=BS (h:=e_ (?_))))))))))))
 refine A8 rfl (fun hb1=>?_) (fun hb1=>?_)
 ·have hc1:=bp hb1
  refine w_ (AT (h:=s_ (h:=e_ (A4 (A7 (?_))))))
  refine AB ?_
  rw[dU (by simpa using hc1)]
  rfl
 have hc1:=bp hb1
 refine AM (w_ (l_ (h:=s_ (h:=e_ (A4 (?_))))))
 refine AB ?_
 rfl
theorem Q5(w:Wch)(hk:w.kind=1∨w.kind=2):AFn Tryz.prog 59 [.agg (BK w)] (fun r=>r= .agg (AA (CE w))):=by
 refine enter Tryz.func59 rfl rfl rfl rfl rfl 0 rfl ?_
 refine w_ (b_ (h:=AY (h:=e_ (q_ (w_ (f_ (h:=l_ (h:=AW (h:=e_ (?_))))))))))
 refine A8 rfl (fun hb1=>?_) (fun hb1=>?_)
 ·have hc1:=bp hb1
  refine w_ (f_ (h:=l_ (h:=s_ (h:=e_ (A4 (A7 (?_)))))))
  refine AB ?_
  rw[CE,if_neg (by omega)]
  rfl
 have hc1:=bp hb1
 refine AM (w_ (f_ (h:=l_ (h:=s_ (h:=e_ (A4 (?_)))))))
 refine AB ?_
 rw[CE,if_pos (by omega)]
 rfl
theorem Q6(s:Spc)(k:Int)(p:AD)(hv:SpcV s)(hm:s.mounts.length≤1000)(hp:p.size≤50000):AFn Tryz.prog 18 [.agg (Al s), .v (.int .i64 k), .v (.string p)] (fun r=>r=Q3 (FC s k p)):=by
 have hsb:=hv.b hm
 obtain⟨F,hF⟩:∃F,BV s (0,0) p (decide (k=2))=F:=⟨_,rfl⟩
 have hw:=US s k p F hF
 have hfind:AFn Tryz.prog 56 [.agg (Al s), .agg (AA (0,0)), .v (.string p), .v (.bool (decide (k=2)))] (fun r=>r= .tup [.agg (Av F.1), .v (.int .i64 F.2)]):=by rw[←hF];exact UA s (0,0) p _ (hv.n hm) hv (by omega)
 refine enter Tryz.func18 rfl rfl rfl rfl rfl 0 rfl ?_
 refine w_ (b_ (h:=AY (h:=a_ (h:=e_ (q_ (?_))))))
 refine BB (fun S=>S=⟨look [(1, .v (.int .i64 k)),(2, .v (.string p)),(3, .bp 0 0),(6, .bp 1 0),(22, .v (.bool ((!decide (k=1)&& !decide (k=2))|| !DF p.data.toList)))],⟨[Al s,[.v (.int .i64 0), .v (.int .i64 0), .v (.int .i64 0), .v (.string ⟨#[]⟩), .v (.int .i64 0), .v (.int .i64 0)]],[]⟩⟩) ?_ ?_
 ·skip
  refine AQ (m_ (h:=BS (h:=m_ (h:=?_))))
  refine Ar true rfl rfl (fun hb1=>?_) (fun hb1=>?_)
  ·have hc1:=bp hb1
   refine m_ (h:=BS (h:=AZ (h:=m_ (h:=?_))))
   refine Ar false rfl rfl (fun hb2=>?_) (fun hb2=>?_)
   ·have hc2:=bp hb2
    refine A3 (h:=A3 (h:=A3 (h:=AZ (h:=AO (?_)))))
    refine AF ?_
    exact⟨_,rfl,CX 2 0 rfl⟩
   have hc2:=bp hb2
   refine m_ (h:=?_)
   refine Az (AG (TE p hp) ?_)
   rintro r rfl
   refine BR (h:=Ah (h:=AO (?_)))
   refine AF ?_
   exact⟨_,rfl,CX 2 0 rfl⟩
  have hc1:=bp hb1
  refine A3 (h:=A3 (h:=Ah (h:=m_ (h:=m_ (h:=?_)))))
  refine Az (AG (TE p hp) ?_)
  rintro r rfl
  refine BR (h:=Ah (h:=AO (?_)))
  refine AF ?_
  exact⟨_,rfl,CX 2 0 rfl⟩
 rintro S rfl
 refine A8 rfl (fun hb3=>?_) (fun hb3=>?_)
 ·have hc3:=bp hb3
  have k1:(k≠1∧k≠2)∨DF p.data.toList=false:=by simpa using hc3
  refine w_ (AT (h:=s_ (h:=a_ (h:=e_ (A4 (A7 (?_)))))))
  refine AB ?_
  rw[hw,if_pos k1]
  rfl
 have hc3:=bp hb3
 have k1:¬((k≠1∧k≠2)∨DF p.data.toList=false):=by simpa using hc3
 refine AM (w_ (l_ (h:=AT (h:=m_ (h:=m_ (h:=AW (h:=?_)))))))
 refine A6 rfl (AG (hfind) ?_)
 rintro r rfl
 refine m_ (h:=x_ (h:=x_ (h:=AY (h:=s_ (h:=a_ (h:=e_ (q_ (w_ (m_ (h:=BS (h:=e_ (?_))))))))))))
 refine A8 rfl (fun hb4=>?_) (fun hb4=>?_)
 ·have hc4:=bp hb4
  have k2:F.2≠0:=by simpa using hc4
  refine w_ (AT (h:=m_ (h:=s_ (h:=a_ (h:=e_ (A4 (A7 (?_))))))))
  refine AB ?_
  rw[hw,if_neg k1,if_pos k2]
  rfl
 have hc4:=bp hb4
 have k2:¬F.2≠0:=by simpa using hc4
 refine AM (q_ (w_ (m_ (h:=AW (h:=e_ (?_))))))
 refine A8 rfl (fun hb5=>?_) (fun hb5=>?_)
 ·have hc5:=bp hb5
  have k3:k=2:=hc5
  refine q_ (w_ (f_ (h:=l_ (h:=BR (h:=e_ (?_))))))
  refine A8 rfl (fun hb6=>?_) (fun hb6=>?_)
  ·have hc6:=bp hb6
   have k4:F.1.ex=false:=by simpa using hc6
   refine w_ (AT (h:=s_ (h:=a_ (h:=e_ (A4 (A7 (A7 (?_))))))))
   refine AB ?_
   rw[hw,if_neg k1,if_neg k2,if_pos k3,if_pos k4]
   rfl
  have hc6:=bp hb6
  have k4:¬F.1.ex=false:=by simpa using hc6
  refine AM (q_ (w_ (f_ (h:=l_ (h:=f_ (h:=l_ (h:=?_)))))))
  refine A6 rfl (AG (FQ s.files F.1.file hsb.files) ?_)
  rintro r rfl
  refine BR (h:=e_ (?_))
  refine A8 rfl (fun hb7=>?_) (fun hb7=>?_)
  ·have hc7:=bp hb7
   have k5:Ai s.files F.1.file=false:=by simpa using hc7
   refine w_ (AT (h:=s_ (h:=a_ (h:=e_ (A4 (A7 (A7 (?_))))))))
   refine AB ?_
   rw[hw,if_neg k1,if_neg k2,if_pos k3,if_neg k4,if_pos k5]
   rfl
  have hc7:=bp hb7
  have k5:¬Ai s.files F.1.file=false:=by simpa using hc7
  refine AM (w_ (m_ (h:=f_ (h:=l_ (h:=AT (h:=s_ (h:=a_ (h:=e_ (A4 (A7 (?_)))))))))))
  refine AB ?_
  rw[hw,if_neg k1,if_neg k2,if_pos k3,if_neg k4,if_neg k5]
  rfl
 have hc5:=bp hb5
 have k3:¬k=2:=hc5
 refine AM (q_ (w_ (f_ (h:=l_ (h:=AW (h:=e_ (?_)))))))
 refine A8 rfl (fun hb8=>?_) (fun hb8=>?_)
 ·have hc8:=bp hb8
  have k6:F.1.name=⟨#[]⟩:=hc8
  refine w_ (AT (h:=s_ (h:=a_ (h:=e_ (A4 (A7 (?_)))))))
  refine AB ?_
  rw[hw,if_neg k1,if_neg k2,if_neg k3,if_pos k6]
  rfl
 have hc8:=bp hb8
 have k6:¬F.1.name=⟨#[]⟩:=hc8
 refine AM (w_ (f_ (h:=l_ (h:=f_ (h:=l_ (h:=f_ (h:=l_ (h:=?_))))))))
 refine A6 rfl (AG (FR s.files F.1.dir F.1.name hsb.files) ?_)
 rintro r rfl
 refine m_ (h:=x_ (h:=x_ (h:=AY (h:=s_ (h:=a_ (h:=e_ (w_ (m_ (h:=f_ (h:=l_ (h:=f_ (h:=l_ (h:=l_ (h:=AT (h:=s_ (h:=a_ (h:=e_ (A4 (?_)))))))))))))))))))
 refine AB ?_
 rw[hw,if_neg k1,if_neg k2,if_neg k3,if_neg k6]
 rfl
theorem dV(s:Spc)(k:Int)(p:AD)(hv:SpcV s)(hm:s.mounts.length≤1000)(hp:p.size≤50000):AFn Tryz.prog 17 [.agg (Al s), .v (.int .i64 k), .v (.string p)] (fun r=>r=Q3 (FC s k p)):=by
 have hsb:=hv.b hm
 obtain⟨F,hF⟩:∃F,BV s (0,0) p (decide (k=2))=F:=⟨_,rfl⟩
 have hw:=US s k p F hF
 have hfind:AFn Tryz.prog 52 [.agg (Al s), .agg (AA (0,0)), .v (.string p), .v (.bool (decide (k=2)))] (fun r=>r= .tup [.agg (Av F.1), .v (.int .i64 F.2)]):=by rw[←hF];exact bV s (0,0) p _ (hv.n hm) hv (by omega)
 refine enter Tryz.func17 rfl rfl rfl rfl rfl 0 rfl ?_
 refine w_ (b_ (h:=AY (h:=a_ (h:=e_ (q_ (?_))))))
 refine BB (fun S=>S=⟨look [(1, .v (.int .i64 k)),(2, .v (.string p)),(3, .bp 0 0),(6, .bp 1 0),(20, .v (.bool ((!decide (k=1)&& !decide (k=2))|| !DF p.data.toList)))],⟨[Al s,[.v (.int .i64 0), .v (.int .i64 0), .v (.int .i64 0), .v (.string ⟨#[]⟩), .v (.int .i64 0), .v (.int .i64 0)]],[]⟩⟩) ?_ ?_
 ·skip
  refine AQ (m_ (h:=BS (h:=m_ (h:=?_))))
  refine Ar true rfl rfl (fun hb1=>?_) (fun hb1=>?_)
  ·have hc1:=bp hb1
   refine m_ (h:=BS (h:=AZ (h:=m_ (h:=?_))))
   refine Ar false rfl rfl (fun hb2=>?_) (fun hb2=>?_)
   ·have hc2:=bp hb2
    refine A3 (h:=A3 (h:=A3 (h:=AZ (h:=AO (?_)))))
    refine AF ?_
    exact⟨_,rfl,CX 2 0 rfl⟩
   have hc2:=bp hb2
   refine m_ (h:=?_)
   refine Az (AG (UT p (by omega)) ?_)
   rintro r rfl
   refine BR (h:=Ah (h:=AO (?_)))
   refine AF ?_
   exact⟨_,rfl,CX 2 0 rfl⟩
  have hc1:=bp hb1
  refine A3 (h:=A3 (h:=Ah (h:=m_ (h:=m_ (h:=?_)))))
  refine Az (AG (UT p (by omega)) ?_)
  rintro r rfl
  refine BR (h:=Ah (h:=AO (?_)))
  refine AF ?_
  exact⟨_,rfl,CX 2 0 rfl⟩
 rintro S rfl
 refine A8 rfl (fun hb3=>?_) (fun hb3=>?_)
 ·have hc3:=bp hb3
  have k1:(k≠1∧k≠2)∨DF p.data.toList=false:=by simpa using hc3
  refine w_ (AT (h:=s_ (h:=a_ (h:=e_ (A4 (A7 (?_)))))))
  refine AB ?_
  rw[hw,if_pos k1]
  rfl
 have hc3:=bp hb3
 have k1:¬((k≠1∧k≠2)∨DF p.data.toList=false):=by simpa using hc3
 refine AM (w_ (l_ (h:=AT (h:=m_ (h:=m_ (h:=AW (h:=?_)))))))
 refine A6 rfl (AG (hfind) ?_)
 rintro r rfl
 refine m_ (h:=x_ (h:=x_ (h:=AY (h:=s_ (h:=a_ (h:=e_ (q_ (w_ (m_ (h:=BS (h:=e_ (?_))))))))))))
 refine A8 rfl (fun hb4=>?_) (fun hb4=>?_)
 ·have hc4:=bp hb4
  have k2:F.2≠0:=by simpa using hc4
  refine w_ (AT (h:=m_ (h:=s_ (h:=a_ (h:=e_ (A4 (A7 (?_))))))))
  refine AB ?_
  rw[hw,if_neg k1,if_pos k2]
  rfl
 have hc4:=bp hb4
 have k2:¬F.2≠0:=by simpa using hc4
 refine AM (q_ (w_ (m_ (h:=AW (h:=e_ (?_))))))
 refine A8 rfl (fun hb5=>?_) (fun hb5=>?_)
 ·have hc5:=bp hb5
  have k3:¬k=2:=by omega
  refine q_ (w_ (f_ (h:=l_ (h:=AW (h:=e_ (?_))))))
  refine A8 rfl (fun hb6=>?_) (fun hb6=>?_)
  ·have hc6:=bp hb6
   have k6:F.1.name=⟨#[]⟩:=hc6
   refine w_ (AT (h:=s_ (h:=a_ (h:=e_ (A4 (A7 (A7 (?_))))))))
   refine AB ?_
   rw[hw,if_neg k1,if_neg k2,if_neg k3,if_pos k6]
   rfl
  have hc6:=bp hb6
  have k6:¬F.1.name=⟨#[]⟩:=hc6
  refine AM (q_ (BL ([(0,Al s),(2,Av F.1)]) 14 (h:=AN 0 (h:=AK 1 (h:=?_)))))
  refine AE 2 (h:=?_)
  refine AK 3 (h:=?_)
  refine AE 4 (h:=?_)
  refine AE 5 (h:=?_)
  refine AK 6 (h:=?_)
  refine AE 7 (h:=?_)
  refine AK 8 (h:=?_)
  refine AE 9 (h:=?_)
  refine c_ 10 rfl (AG (Q4 s F.1.dir F.1.name hsb) ?_)
  rintro r rfl
  refine o_ (h:=Fj 11 (h:=?_))
  refine B0 12 rfl (Ay rfl rfl rfl rfl rfl rfl (by repeat constructor) (by repeat constructor) ?_)
  refine o_ (h:=B3 13 (h:=z_ (h:=t_ (A4 (A7 (?_))))))
  refine AB ?_
  rw[hw,if_neg k1,if_neg k2,if_neg k3,if_neg k6]
  rfl
 have hc5:=bp hb5
 have k3:k=2:=by simp at k1;omega
 refine AM (q_ (w_ (f_ (h:=l_ (h:=BR (h:=e_ (?_)))))))
 refine A8 rfl (fun hb7=>?_) (fun hb7=>?_)
 ·have hc7:=bp hb7
  have k4:F.1.ex=false:=by simpa using hc7
  refine w_ (AT (h:=s_ (h:=a_ (h:=e_ (A4 (A7 (?_)))))))
  refine AB ?_
  rw[hw,if_neg k1,if_neg k2,if_pos k3,if_pos k4]
  rfl
 have hc7:=bp hb7
 have k4:¬F.1.ex=false:=by simpa using hc7
 refine AM (q_ (w_ (l_ (h:=f_ (h:=l_ (h:=?_))))))
 refine A6 rfl (AG (UU s F.1.file hsb) ?_)
 rintro r rfl
 refine BR (h:=e_ (?_))
 refine A8 rfl (fun hb8=>?_) (fun hb8=>?_)
 ·have hc8:=bp hb8
  have k5:Ai s.files F.1.file=false:=by simpa using hc8
  refine w_ (AT (h:=s_ (h:=a_ (h:=e_ (A4 (A7 (?_)))))))
  refine AB ?_
  rw[hw,if_neg k1,if_neg k2,if_pos k3,if_neg k4,if_pos k5]
  rfl
 have hc8:=bp hb8
 have k5:¬Ai s.files F.1.file=false:=by simpa using hc8
 refine AM (w_ (m_ (h:=f_ (h:=l_ (h:=AT (h:=s_ (h:=a_ (h:=e_ (A4 (?_))))))))))
 refine AB ?_
 rw[hw,if_neg k1,if_neg k2,if_pos k3,if_neg k4,if_neg k5]
 rfl
theorem dW(s:Spc)(w:Wch)(hs:SpcB s)(hn:w.name.size≤100000):AFn Tryz.prog 26 [.agg (Al s), .agg (BK w)] (fun r=>r= .v (.bool (DL s w))):=by
 refine enter Tryz.func26 rfl rfl rfl rfl rfl 0 rfl ?_
 refine w_ (b_ (h:=b_ (h:=a_ (h:=e_ (q_ (w_ (f_ (h:=l_ (h:=e_ (Aj (w_ (AW (h:=a_ (h:=e_ (?_)))))))))))))))
 refine A8 rfl (fun hb1=>?_) (fun hb1=>?_)
 ·have hc1:=bp hb1
  refine w_ (f_ (h:=l_ (h:=f_ (h:=l_ (h:=f_ (h:=l_ (h:=?_)))))))
  refine A6 rfl (AG (FR s.files w.dir w.name hs.files) ?_)
  rintro r rfl
  refine m_ (h:=x_ (h:=x_ (h:=AY (h:=s_ (h:=a_ (h:=e_ (w_ (l_ (h:=f_ (h:=l_ (h:=?_)))))))))))
  refine A6 rfl (AG (NP s w.dir hs) ?_)
  rintro r rfl
  refine m_ (h:=?_)
  refine Ar true rfl rfl (fun hb2=>?_) (fun hb2=>?_)
  ·have hc2:=bp hb2
   refine l_ (h:=f_ (h:=l_ (h:=?_)))
   refine Az (EN rfl rfl (by repeat constructor) (by repeat constructor) (fun W=>JQ (AJ s.files w.dir w.name).1 w.file W) (by kernel_rfl) ?_)
   refine AZ (h:=m_ (h:=?_))
   refine Ar true rfl rfl (fun hb3=>?_) (fun hb3=>?_)
   ·have hc3:=bp hb3
    refine f_ (h:=l_ (h:=?_))
    refine Az (AG (MY w.name hn) ?_)
    rintro r rfl
    refine AZ (h:=a_ (h:=e_ (A4 (AX (A7 (?_))))))
    refine AB ?_
    first|(exfalso;first|contradiction|omega)|(exact vb (by simp[DL, *]))
   have hc3:=bp hb3
   refine A3 (h:=A3 (h:=A3 (h:=Ah (h:=a_ (h:=e_ (A4 (AX (A7 (?_)))))))))
   refine AB ?_
   first|(exfalso;first|contradiction|omega)|(exact vb (by simp[DL, *]))
  have hc2:=bp hb2
  refine A3 (h:=A3 (h:=A3 (h:=A3 (h:=Ah (h:=m_ (h:=A3 (h:=A3 (h:=A3 (h:=Ah (h:=a_ (h:=e_ (A4 (AX (A7 (?_)))))))))))))))
  refine AB ?_
  first|(exfalso;first|contradiction|omega)|(exact vb (by simp[DL, *]))
 have hc1:=bp hb1
 refine w_ (AW (h:=a_ (h:=e_ (?_))))
 refine A8 rfl (fun hb4=>?_) (fun hb4=>?_)
 ·have hc4:=bp hb4
  refine w_ (l_ (h:=f_ (h:=l_ (h:=?_))))
  refine A6 rfl (AG (NP s w.file hs) ?_)
  rintro r rfl
  refine m_ (h:=?_)
  refine Ar true rfl rfl (fun hb5=>?_) (fun hb5=>?_)
  ·have hc5:=bp hb5
   refine f_ (h:=l_ (h:=AT (h:=?_)))
   refine Az (EN rfl rfl (by repeat constructor) (by repeat constructor) (fun W=>JQ w.dir (0,0) W) (by kernel_rfl) ?_)
   refine AZ (h:=m_ (h:=?_))
   refine Ar true rfl rfl (fun hb6=>?_) (fun hb6=>?_)
   ·have hc6:=bp hb6
    refine f_ (h:=l_ (h:=AW (h:=AZ (h:=a_ (h:=e_ (A4 (AX (A7 (?_)))))))))
    refine AB ?_
    first|(exfalso;first|contradiction|omega)|(exact vb (by simp[DL, *]))
   have hc6:=bp hb6
   refine A3 (h:=A3 (h:=A3 (h:=Ah (h:=a_ (h:=e_ (A4 (AX (A7 (?_)))))))))
   refine AB ?_
   first|(exfalso;first|contradiction|omega)|(exact vb (by simp[DL, *]))
  have hc5:=bp hb5
  refine A3 (h:=A3 (h:=A3 (h:=A3 (h:=Ah (h:=m_ (h:=A3 (h:=A3 (h:=A3 (h:=Ah (h:=a_ (h:=e_ (A4 (AX (A7 (?_)))))))))))))))
  refine AB ?_
  first|(exfalso;first|contradiction|omega)|(exact vb (by simp[DL, *]))
 have hc4:=bp hb4
 refine B4 (As (t_ (w_ (a_ (h:=e_ (A4 (?_)))))))
 refine AB ?_
 first|(exfalso;first|contradiction|omega)|(exact vb (by simp[DL, *]))
theorem dY(s:Spc)(w:Wch)(hs:SpcB s):AFn Tryz.prog 19 [.agg (Al s), .agg (BK w)] (fun r=>r= .v (.bool (DL s w))):=by
 refine enter Tryz.func19 rfl rfl rfl rfl rfl 0 rfl ?_
 refine w_ (b_ (h:=b_ (h:=a_ (h:=e_ (q_ (w_ (f_ (h:=l_ (h:=e_ (Aj (w_ (AW (h:=a_ (h:=e_ (?_)))))))))))))))
 refine A8 rfl (fun hb1=>?_) (fun hb1=>?_)
 ·have hc1:=bp hb1
  refine q_ (DC 21 (h:=AK 0 (h:=AE 1 (h:=?_))))
  refine c_ 2 rfl (AG (Tr w.name) ?_)
  rintro r rfl
  refine o_ (h:=AN 3 (h:=?_))
  refine FK (j:=3) rfl (fun hb2=>?_) (fun hb2=>?_)
  ·have hc2:=bp hb2
   refine AE 4 (h:=AK 5 (h:=AE 6 (h:=?_)))
   refine c_ 7 rfl (AG (NQ s w.dir hs) ?_)
   rintro r rfl
   refine o_ (h:=F0 8 (h:=AN 9 (h:=?_)))
   refine FK (j:=9) rfl (fun hb3=>?_) (fun hb3=>?_)
   ·have hc3:=bp hb3
    refine AK 10 (h:=AE 11 (h:=AE 12 (h:=AK 13 (h:=AE 14 (h:=AK 15 (h:=AE 16 (h:=?_)))))))
    refine c_ 17 rfl (AG (Q4 s w.dir w.name hs) ?_)
    rintro r rfl
    refine o_ (h:=?_)
    refine E9 (i:=18) rfl (EN rfl rfl (by repeat constructor) (by repeat constructor) (fun W=>JQ w.file (AJ s.files w.dir w.name).1 W) (by kernel_rfl) ⟨rfl,rfl⟩) ?_
    refine F0 19 (h:=B3 20 (h:=z_ (h:=t_ (A4 (AX (A7 (?_)))))))
    refine AB ?_
    first|(exfalso;first|contradiction|omega)|(exact vb (by first|(simp[DL, *];done)|(simp[DL, *,eq_comm];done)))
   have hc3:=bp hb3
   refine B2 10 (h:=B2 11 (h:=B2 12 (h:=B2 13 (h:=B2 14 (h:=B2 15 (h:=B2 16 (h:=B2 17 (h:=B2 18 (h:=EC 19 (h:=B3 20 (h:=z_ (h:=t_ (A4 (AX (A7 (?_))))))))))))))))
   refine AB ?_
   first|(exfalso;first|contradiction|omega)|(exact vb (by first|(simp[DL, *];done)|(simp[DL, *,eq_comm];done)))
  have hc2:=bp hb2
  refine B2 4 (h:=B2 5 (h:=B2 6 (h:=B2 7 (h:=EC 8 (h:=AN 9 (h:=B2 10 (h:=B2 11 (h:=B2 12 (h:=B2 13 (h:=B2 14 (h:=B2 15 (h:=B2 16 (h:=B2 17 (h:=B2 18 (h:=EC 19 (h:=B3 20 (h:=z_ (h:=t_ (A4 (AX (A7 (?_))))))))))))))))))))))
  refine AB ?_
  first|(exfalso;first|contradiction|omega)|(exact vb (by first|(simp[DL, *];done)|(simp[DL, *,eq_comm];done)))
 have hc1:=bp hb1
 refine w_ (AW (h:=a_ (h:=e_ (?_))))
 refine A8 rfl (fun hb4=>?_) (fun hb4=>?_)
 ·have hc4:=bp hb4
  refine w_ (f_ (h:=l_ (h:=AT (h:=?_))))
  refine A6 rfl (EN rfl rfl (by repeat constructor) (by repeat constructor) (fun W=>JQ w.dir (0,0) W) (by kernel_rfl) ?_)
  refine m_ (h:=?_)
  refine Ar true rfl rfl (fun hb5=>?_) (fun hb5=>?_)
  ·have hc5:=bp hb5
   refine f_ (h:=l_ (h:=AW (h:=AZ (h:=m_ (h:=?_)))))
   refine Ar true rfl rfl (fun hb6=>?_) (fun hb6=>?_)
   ·have hc6:=bp hb6
    refine l_ (h:=f_ (h:=l_ (h:=?_)))
    refine Az (AG (NQ s w.file hs) ?_)
    rintro r rfl
    refine AZ (h:=a_ (h:=e_ (A4 (AX (A7 (?_))))))
    refine AB ?_
    first|(exfalso;first|contradiction|omega)|(exact vb (by first|(simp[DL, *];done)|(simp[DL, *,eq_comm];done)))
   have hc6:=bp hb6
   refine A3 (h:=A3 (h:=A3 (h:=A3 (h:=Ah (h:=a_ (h:=e_ (A4 (AX (A7 (?_))))))))))
   refine AB ?_
   first|(exfalso;first|contradiction|omega)|(exact vb (by first|(simp[DL, *];done)|(simp[DL, *,eq_comm];done)))
  have hc5:=bp hb5
  refine A3 (h:=A3 (h:=A3 (h:=Ah (h:=m_ (h:=A3 (h:=A3 (h:=A3 (h:=A3 (h:=Ah (h:=a_ (h:=e_ (A4 (AX (A7 (?_)))))))))))))))
  refine AB ?_
  first|(exfalso;first|contradiction|omega)|(exact vb (by first|(simp[DL, *];done)|(simp[DL, *,eq_comm];done)))
 have hc4:=bp hb4
 refine B4 (As (t_ (w_ (a_ (h:=e_ (A4 (?_)))))))
 refine AB ?_
 first|(exfalso;first|contradiction|omega)|(exact vb (by first|(simp[DL, *];done)|(simp[DL, *,eq_comm];done)))
end
def FD:List AV:=[.v (.int .i64 0), .v (.int .i64 0), .v (.int .i64 0), .v (.string ⟨#[]⟩), .v (.int .i64 0), .v (.int .i64 0)]
theorem UV{α:Type}{l:List α}{j:Nat}{x:α}(h:l[j]?=some x)(p:α→Bool):(l.take (j+1)).any p=((l.take j).any p||p x):=by
 rw[List.take_add_one,h,List.any_append]
 simp
def JR(w:Wch)(l:List DE):A9:=l.foldl (fun a c=>if c.1=w.dir∧c.2.1=w.name then c.2.2.2 else a) w.file
theorem UW{w:Wch}{l:List DE}{j:Nat}{c:DE}(h:l[j]?=some c):JR w (l.take (j+1))=if(decide (c.1=w.dir)&&decide (c.2.1=w.name))=true then c.2.2.2 else JR w (l.take j):=by
 unfold JR
 rw[List.take_add_one,h,List.foldl_append]
 simp
def Lj(w:Wch)(l:List DE):A9:=if w.kind=1 then JR w l else w.file
theorem dZ(w:Wch)(l:List DE):Q2 w l={w with file:=Lj w l}:=by
 unfold Q2 Lj JR
 split<;>rfl
def GN(w:Wch)(g:Int):Bool:=(!decide (w.kind=1)&& !decide (w.kind=2))||(!decide (g=0)&&decide (g=(CE w).1))
def Fx(w:Wch)(l:List DE):Bool:=l.any fun c=>decide (c.2.2.1=CE w)
def Fy(w:Wch)(l:List DE):Bool:=l.any fun c=>decide (c.2.2.2=CE w)
theorem UX{w:Wch}{l:List DE}{j:Nat}{c:DE}(h:l[j]?=some c):Fx w (l.take (j+1))=(Fx w (l.take j)||decide (c.2.2.1=CE w)):=UV h _
theorem UY{w:Wch}{l:List DE}{j:Nat}{c:DE}(h:l[j]?=some c):Fy w (l.take (j+1))=(Fy w (l.take j)||decide (c.2.2.2=CE w)):=UV h _
theorem eB(w:Wch)(g:Int)(l:List DE):NO w g l=if(GN w g||(Fx w l&& !Fy w l))=true then(Ea,false)else({w with file:=Lj w l},true):=by
 rw[←dZ]
 unfold NO
 have:((w.kind≠1∧w.kind≠2)∨(g≠0∧g=(CE w).1)∨((l.any fun c=>decide (c.2.2.1=CE w))=true∧(l.any fun c=>decide (c.2.2.2=CE w))=false))↔(GN w g||(Fx w l&& !Fy w l))=true:=by
  unfold GN Fx Fy
  simp[or_assoc]
 by_cases h:(GN w g||(Fx w l&& !Fy w l))=true
 ·rw[if_pos h,if_pos (this.2 h)]
 rw[if_neg h,if_neg (fun k=>h (this.1 k))]
section
theorem UZ(s:Spc)(w:Wch)(hs:SpcB s):AFn Tryz.prog 25 [.agg (Al s), .agg (BK w)] (fun r=>r=Li (EK s w)):=by
 refine enter Tryz.func25 rfl rfl rfl rfl rfl 0 rfl ?_
 refine w_ (b_ (h:=b_ (h:=AY (h:=a_ (h:=e_ (w_ (f_ (h:=l_ (h:=AY (h:=s_ (h:=e_ (?_))))))))))))
 refine BB (fun S=>S=⟨look [(2, .bp 0 0),(3, .bp 1 0),(4, .bp 2 0),(6, .bp 3 0)],⟨[Al s,BK w,FD,AA (CE w)],[]⟩⟩) ?_ ?_
 ·skip
  refine w_ (f_ (h:=l_ (h:=AW (h:=e_ (?_)))))
  refine A8 rfl (fun hb1=>?_) (fun hb1=>?_)
  ·have hc1:=bp hb1
   have k0:w.kind=2:=hc1
   refine AQ (f_ (h:=l_ (h:=s_ (h:=AO (?_)))))
   refine AF ?_
   refine⟨_,rfl,?_⟩
   (rw[CE,if_pos k0];exact(wk 4 0))
  have hc1:=bp hb1
  have k0:¬w.kind=2:=hc1
  refine B4 (?_)
  refine AF ?_
  refine⟨_,rfl,?_⟩
  first|(rw[CE,if_pos k0];exact(wk 4 0))|(rw[CE,if_neg k0];exact(wk 4 0))
 rintro S rfl
 refine q_ (?_)
 refine BB (fun S=>S=⟨look [(2, .bp 0 0),(3, .bp 1 0),(4, .bp 2 0),(27, .v (.bool ((!decide (w.kind=1)&& !decide (w.kind=2))|| !Eb s (CE w))))],⟨[Al s,BK w,FD],[]⟩⟩) ?_ ?_
 ·skip
  refine AQ (f_ (h:=l_ (h:=BS (h:=m_ (h:=?_)))))
  refine Ar true rfl rfl (fun hb2=>?_) (fun hb2=>?_)
  ·have hc2:=bp hb2
   refine f_ (h:=l_ (h:=BS (h:=AZ (h:=m_ (h:=?_)))))
   refine Ar false rfl rfl (fun hb3=>?_) (fun hb3=>?_)
   ·have hc3:=bp hb3
    refine A3 (h:=A3 (h:=A3 (h:=A3 (h:=AZ (h:=AO (?_))))))
    refine AF ?_
    exact⟨_,rfl,CX 3 0 rfl⟩
   have hc3:=bp hb3
   refine l_ (h:=l_ (h:=?_))
   refine Az (AG (NP s (CE w) hs) ?_)
   rintro r rfl
   refine BR (h:=Ah (h:=AO (?_)))
   refine AF ?_
   exact⟨_,rfl,CX 3 0 rfl⟩
  have hc2:=bp hb2
  refine A3 (h:=A3 (h:=A3 (h:=Ah (h:=m_ (h:=l_ (h:=l_ (h:=?_)))))))
  refine Az (AG (NP s (CE w) hs) ?_)
  rintro r rfl
  refine BR (h:=Ah (h:=AO (?_)))
  refine AF ?_
  exact⟨_,rfl,CX 3 0 rfl⟩
 rintro S rfl
 refine A8 rfl (fun hb4=>?_) (fun hb4=>?_)
 ·have hc4:=bp hb4
  have k1:(w.kind≠1∧w.kind≠2)∨Eb s (CE w)=false:=by simpa using hc4
  refine w_ (AT (h:=s_ (h:=a_ (h:=e_ (A4 (A7 (?_)))))))
  refine AB ?_
  rw[EK,if_pos k1]
  rfl
 have hc4:=bp hb4
 have k1:¬((w.kind≠1∧w.kind≠2)∨Eb s (CE w)=false):=by simpa using hc4
 refine AM (q_ (w_ (f_ (h:=l_ (h:=AW (h:=e_ (?_)))))))
 refine A8 rfl (fun hb5=>?_) (fun hb5=>?_)
 ·have hc5:=bp hb5
  have k2:w.kind=1:=hc5
  refine AQ (f_ (h:=l_ (h:=f_ (h:=l_ (h:=f_ (h:=l_ (h:=?_)))))))
  refine A6 rfl (AG (FR s.files w.dir w.name hs.files) ?_)
  rintro r rfl
  refine m_ (h:=x_ (h:=x_ (h:=f_ (h:=s_ (h:=e_ (w_ (l_ (h:=s_ (h:=a_ (h:=e_ (A4 (?_))))))))))))
  refine AB ?_
  rw[EK,if_neg k1,if_pos k2]
  rfl
 have hc5:=bp hb5
 have k2:¬w.kind=1:=hc5
 refine AM (w_ (l_ (h:=s_ (h:=a_ (h:=e_ (A4 (?_)))))))
 refine AB ?_
 rw[EK,if_neg k1,if_neg k2]
 rfl
theorem Q7(s:Spc)(w:Wch)(hs:SpcB s):AFn Tryz.prog 24 [.agg (Al s), .agg (BK w)] (fun r=>r=Li (EK s w)):=by
 refine enter Tryz.func24 rfl rfl rfl rfl rfl 0 rfl ?_
 refine w_ (b_ (h:=b_ (h:=AY (h:=a_ (h:=e_ (q_ (?_)))))))
 refine BB (fun S=>S=⟨look [(2, .bp 0 0),(3, .bp 1 0),(4, .bp 2 0),(20, .v (.bool ((!decide (w.kind=1)&& !decide (w.kind=2))|| !Eb s (CE w))))],⟨[Al s,BK w,FD],[]⟩⟩) ?_ ?_
 ·skip
  refine DC 15 (h:=AK 0 (h:=AE 1 (h:=Jg 2 (h:=AN 3 (h:=?_)))))
  refine FK (j:=3) rfl (fun hb1=>?_) (fun hb1=>?_)
  ·have hc1:=bp hb1
   refine AK 4 (h:=AE 5 (h:=Jg 6 (h:=F0 7 (h:=AN 8 (h:=?_)))))
   refine FK (j:=8) rfl (fun hb2=>?_) (fun hb2=>?_)
   ·have hc2:=bp hb2
    refine B2 9 (h:=B2 10 (h:=B2 11 (h:=B2 12 (h:=B2 13 (h:=F0 14 (h:=z_ (h:=?_)))))))
    refine AF ?_
    exact⟨_,rfl,CX 3 0 rfl⟩
   have hc2:=bp hb2
   refine AE 9 (h:=AE 10 (h:=?_))
   refine c_ 11 rfl (AG (Q5 w (by omega)) ?_)
   rintro r rfl
   refine o_ (h:=?_)
   refine c_ 12 rfl (AG (NQ s (CE w) hs) ?_)
   rintro r rfl
   refine o_ (h:=OC 13 (h:=EC 14 (h:=z_ (h:=?_))))
   refine AF ?_
   exact⟨_,rfl,CX 3 0 rfl⟩
  have hc1:=bp hb1
  refine B2 4 (h:=B2 5 (h:=B2 6 (h:=EC 7 (h:=AN 8 (h:=AE 9 (h:=AE 10 (h:=?_)))))))
  refine c_ 11 rfl (AG (Q5 w (by omega)) ?_)
  rintro r rfl
  refine o_ (h:=?_)
  refine c_ 12 rfl (AG (NQ s (CE w) hs) ?_)
  rintro r rfl
  refine o_ (h:=OC 13 (h:=EC 14 (h:=z_ (h:=?_))))
  refine AF ?_
  exact⟨_,rfl,CX 3 0 rfl⟩
 rintro S rfl
 refine A8 rfl (fun hb3=>?_) (fun hb3=>?_)
 ·have hc3:=bp hb3
  have k1:(w.kind≠1∧w.kind≠2)∨Eb s (CE w)=false:=by simpa using hc3
  refine w_ (AT (h:=s_ (h:=a_ (h:=e_ (A4 (A7 (?_)))))))
  refine AB ?_
  rw[EK,if_pos k1]
  rfl
 have hc3:=bp hb3
 have k1:¬((w.kind≠1∧w.kind≠2)∨Eb s (CE w)=false):=by simpa using hc3
 refine AM (q_ (w_ (f_ (h:=l_ (h:=AW (h:=e_ (?_)))))))
 refine A8 rfl (fun hb4=>?_) (fun hb4=>?_)
 ·have hc4:=bp hb4
  have k2:w.kind=1:=hc4
  refine AQ (l_ (h:=f_ (h:=l_ (h:=f_ (h:=l_ (h:=?_))))))
  refine A6 rfl (AG (Q4 s w.dir w.name hs) ?_)
  rintro r rfl
  refine f_ (h:=s_ (h:=e_ (w_ (l_ (h:=s_ (h:=a_ (h:=e_ (A4 (?_)))))))))
  refine AB ?_
  rw[EK,if_neg k1,if_pos k2]
  rfl
 have hc4:=bp hb4
 have k2:¬w.kind=1:=hc4
 refine AM (w_ (l_ (h:=s_ (h:=a_ (h:=e_ (A4 (?_)))))))
 refine AB ?_
 rw[EK,if_neg k1,if_neg k2]
 rfl
theorem eC(w:Wch)(r:Res)(hl:r.changes.length≤1000):AFn Tryz.prog 33 [.agg (BK w), .agg (EZ r)] (fun x=>x=Li (NO w r.gone r.changes)):=by
 rw[eB]
 refine enter Tryz.func33 rfl rfl rfl rfl rfl 0 rfl ?_
 refine w_ (b_ (h:=b_ (h:=AY (h:=a_ (h:=e_ (q_ (?_)))))))
 refine BB (fun S=>S=⟨look [(2, .bp 0 0),(3, .bp 1 0),(4, .bp 2 0),(20, .v (.bool (!decide (w.kind=1)&& !decide (w.kind=2))))],⟨[BK w,EZ r,FD],[]⟩⟩) ?_ ?_
 ·skip
  refine AQ (f_ (h:=l_ (h:=BS (h:=m_ (h:=?_)))))
  refine Ar true rfl rfl (fun hb1=>?_) (fun hb1=>?_)
  ·have hc1:=bp hb1
   refine f_ (h:=l_ (h:=BS (h:=AZ (h:=AO (?_)))))
   refine AF ?_
   exact⟨_,rfl,CX 3 0 rfl⟩
  have hc1:=bp hb1
  refine A3 (h:=A3 (h:=A3 (h:=Ah (h:=AO (?_)))))
  refine AF ?_
  exact⟨_,rfl,CX 3 0 rfl⟩
 rintro S rfl
 refine A8 rfl (fun hb2=>?_) (fun hb2=>?_)
 ·have hc2:=bp hb2
  have k1:(GN w r.gone||(Fx w r.changes&& !Fy w r.changes))=true:=by simp[GN]at hc2 ⊢;simp[hc2]
  refine w_ (AT (h:=s_ (h:=a_ (h:=e_ (A4 (A7 (?_)))))))
  refine AB ?_
  rw[if_pos k1]
  rfl
 have hc2:=bp hb2
 have k0:w.kind=1∨w.kind=2:=by simp at hc2;omega
 refine AM (w_ (l_ (h:=?_)))
 refine A6 rfl (AG (Q5 w k0) ?_)
 rintro r rfl
 refine AY (h:=s_ (h:=e_ (q_ (?_))))
 refine BB (fun S=>S=⟨look [(2, .bp 0 0),(3, .bp 1 0),(4, .bp 2 0),(6, .bp 3 0),(33, .v (.bool (!decide (r.gone=0)&&decide (r.gone=(CE w).1))))],⟨[BK w,EZ r,FD,AA (CE w)],[]⟩⟩) ?_ ?_
 ·skip
  refine AQ (f_ (h:=l_ (h:=BS (h:=m_ (h:=?_)))))
  refine Ar true rfl rfl (fun hb3=>?_) (fun hb3=>?_)
  ·have hc3:=bp hb3
   refine f_ (h:=l_ (h:=f_ (h:=l_ (h:=AW (h:=AZ (h:=AO (?_)))))))
   refine AF ?_
   exact⟨_,rfl,CX 4 0 rfl⟩
  have hc3:=bp hb3
  refine A3 (h:=A3 (h:=A3 (h:=A3 (h:=A3 (h:=Ah (h:=AO (?_)))))))
  refine AF ?_
  exact⟨_,rfl,CX 4 0 rfl⟩
 rintro S rfl
 refine A8 rfl (fun hb4=>?_) (fun hb4=>?_)
 ·have hc4:=bp hb4
  have k1:(GN w r.gone||(Fx w r.changes&& !Fy w r.changes))=true:=by unfold GN;rw[hb4];simp
  refine w_ (AT (h:=s_ (h:=a_ (h:=e_ (A4 (A7 (?_)))))))
  refine AB ?_
  rw[if_pos k1]
  rfl
 have hc4:=bp hb4
 have k1:GN w r.gone=false:=by unfold GN;rw[hb4];rcases k0 with h|h<;>simp[h]
 refine AM (w_ (a_ (h:=a_ (h:=e_ (q_ (w_ (f_ (h:=l_ (h:=n_ (h:=m_ (h:=e_ (Aj (?_)))))))))))))
 refine Bg (fun m S=>∃j:Nat,j≤r.changes.length∧m=r.changes.length - j∧S=⟨look [(2, .bp 0 0),(3, .bp 1 0),(4, .bp 2 0),(6, .bp 3 0),(7, .v (.bool (Fx w (r.changes.take j)))),(8, .v (.bool (Fy w (r.changes.take j)))),(36, .sl 7 (r.changes.map C1) none),(37, .v (.int .i64 ((r.changes.map C1).length:Int))),(38, .v (.int .i64 (j:Int)))],⟨[BK w,EZ r,FD,AA (CE w)],[]⟩⟩) (r.changes.length) ((wk 4 0)) (⟨0,Nat.zero_le _,rfl,rfl⟩) ?_
 rintro m S ⟨j,hj,rfl,rfl⟩
 refine w_ (BH (h:=e_ (q_ (?_))))
 refine A8 rfl (fun hb5=>?_) (fun hb5=>?_)
 ·have hc5:=bp hb5
  obtain⟨hlt,c,hy,hrow, -⟩:=Ca C1 hc5
  refine AM (q_ (Aj (w_ (i_ (h:=l_ (h:=AY (h:=s_ (h:=e_ (?_)))))))))
  refine BB (fun S=>S=⟨look [(2, .bp 0 0),(3, .bp 1 0),(4, .bp 2 0),(6, .bp 3 0),(7, .v (.bool (Fx w (r.changes.take j)||decide (c.2.2.1=CE w)))),(8, .v (.bool (Fy w (r.changes.take j)))),(10, .bp 4 0),(36, .sl 7 (r.changes.map C1) none),(37, .v (.int .i64 ((r.changes.map C1).length:Int))),(38, .v (.int .i64 (j:Int)))],⟨[BK w,EZ r,FD,AA (CE w),C1 c],[]⟩⟩) ?_ ?_
  ·skip
   refine AQ (m_ (h:=m_ (h:=?_)))
   refine Ar false rfl rfl (fun hb6=>?_) (fun hb6=>?_)
   ·have hc6:=bp hb6
    refine A3 (h:=A3 (h:=A3 (h:=A3 (h:=AZ (h:=a_ (h:=AO (?_)))))))
    refine AF ?_
    exact⟨_,rfl,CX 5 0 rfl⟩
   have hc6:=bp hb6
   refine f_ (h:=l_ (h:=l_ (h:=?_)))
   refine Az (EN rfl rfl (by repeat constructor) (by repeat constructor) (fun W=>JQ c.2.2.1 (CE w) W) (by kernel_rfl) ?_)
   refine Ah (h:=a_ (h:=AO (?_)))
   refine AF ?_
   exact⟨_,rfl,CX 5 0 rfl⟩
  rintro S rfl
  refine AQ (m_ (h:=m_ (h:=?_)))
  refine Ar false rfl rfl (fun hb7=>?_) (fun hb7=>?_)
  ·have hc7:=bp hb7
   refine A3 (h:=A3 (h:=A3 (h:=A3 (h:=AZ (h:=a_ (h:=AO (As (t_ (AQ (B6 (h:=m_ (h:=AO (?_)))))))))))))
   refine AF ?_
   refine⟨_,_,?_,⟨j+1,by omega,rfl,rfl⟩,?_⟩
   ·omega
   rw[UX hy,UY hy]
   exact CX 4 0 rfl
  have hc7:=bp hb7
  refine f_ (h:=l_ (h:=l_ (h:=?_)))
  refine Az (EN rfl rfl (by repeat constructor) (by repeat constructor) (fun W=>JQ c.2.2.2 (CE w) W) (by kernel_rfl) ?_)
  refine Ah (h:=a_ (h:=AO (As (t_ (AQ (B6 (h:=m_ (h:=AO (?_)))))))))
  refine AF ?_
  refine⟨_,_,?_,⟨j+1,by omega,rfl,rfl⟩,?_⟩
  ·omega
  rw[UX hy,UY hy]
  exact CX 4 0 rfl
 have hc5:=bp hb5
 have e:=Cn C1 hj hc5
 subst e
 rw[List.take_length]
 refine BM (Ak (Ak (BN (t_ (q_ (?_))))))
 refine BB (fun S=>S=⟨look [(2, .bp 0 0),(3, .bp 1 0),(4, .bp 2 0),(61, .v (.bool (Fx w r.changes&& !Fy w r.changes)))],⟨[BK w,EZ r,FD],[]⟩⟩) ?_ ?_
 ·skip
  refine AQ (m_ (h:=m_ (h:=?_)))
  refine Ar true rfl rfl (fun hb8=>?_) (fun hb8=>?_)
  ·have hc8:=bp hb8
   refine m_ (h:=BR (h:=AZ (h:=AO (?_))))
   refine AF ?_
   exact⟨_,rfl,CX 3 0 rfl⟩
  have hc8:=bp hb8
  refine A3 (h:=A3 (h:=Ah (h:=AO (?_))))
  refine AF ?_
  exact⟨_,rfl,CX 3 0 rfl⟩
 rintro S rfl
 refine A8 rfl (fun hb9=>?_) (fun hb9=>?_)
 ·have hc9:=bp hb9
  refine w_ (AT (h:=s_ (h:=a_ (h:=e_ (A4 (A7 (?_)))))))
  refine AB ?_
  rw[if_pos (by simp[*])]
  rfl
 have hc9:=bp hb9
 refine AM (q_ (w_ (f_ (h:=l_ (h:=AW (h:=e_ (?_)))))))
 refine A8 rfl (fun hb10=>?_) (fun hb10=>?_)
 ·have hc10:=bp hb10
  have k3:w.kind=1:=hc10
  refine w_ (f_ (h:=l_ (h:=n_ (h:=m_ (h:=e_ (Aj (?_)))))))
  refine Bg (fun m S=>∃j:Nat,j≤r.changes.length∧m=r.changes.length - j∧S=⟨look [(2, .bp 0 0),(3, .bp 1 0),(4, .bp 2 0),(67, .sl 7 (r.changes.map C1) none),(68, .v (.int .i64 ((r.changes.map C1).length:Int))),(69, .v (.int .i64 (j:Int)))],⟨[BK {w with file:=JR w (r.changes.take j)},EZ r,FD],[]⟩⟩) (r.changes.length) ((wk 3 0)) (⟨0,Nat.zero_le _,rfl,rfl⟩) ?_
  rintro m S ⟨j,hj,rfl,rfl⟩
  refine w_ (BH (h:=e_ (q_ (?_))))
  refine A8 rfl (fun hb11=>?_) (fun hb11=>?_)
  ·have hc11:=bp hb11
   obtain⟨hlt,c,hy,hrow, -⟩:=Ca C1 hc11
   refine AM (q_ (Aj (w_ (i_ (h:=l_ (h:=AY (h:=s_ (h:=e_ (?_)))))))))
   refine BB (fun S=>S=⟨look [(2, .bp 0 0),(3, .bp 1 0),(4, .bp 2 0),(12, .bp 3 0),(67, .sl 7 (r.changes.map C1) none),(68, .v (.int .i64 ((r.changes.map C1).length:Int))),(69, .v (.int .i64 (j:Int))),(84, .v (.bool (decide (c.1=w.dir)&&decide (c.2.1=w.name))))],⟨[BK {w with file:=JR w (r.changes.take j)},EZ r,FD,C1 c],[]⟩⟩) ?_ ?_
   ·skip
    refine AQ (f_ (h:=l_ (h:=f_ (h:=l_ (h:=?_)))))
    refine A6 rfl (EN rfl rfl (by repeat constructor) (by repeat constructor) (fun W=>JQ c.1 w.dir W) (by kernel_rfl) ?_)
    refine m_ (h:=?_)
    refine Ar true rfl rfl (fun hb12=>?_) (fun hb12=>?_)
    ·have hc12:=bp hb12
     refine f_ (h:=l_ (h:=f_ (h:=l_ (h:=AW (h:=AZ (h:=AO (?_)))))))
     refine AF ?_
     exact⟨_,rfl,CX 4 0 rfl⟩
    have hc12:=bp hb12
    refine A3 (h:=A3 (h:=A3 (h:=A3 (h:=A3 (h:=Ah (h:=AO (?_)))))))
    refine AF ?_
    exact⟨_,rfl,CX 4 0 rfl⟩
   rintro S rfl
   refine A8 rfl (fun hb13=>?_) (fun hb13=>?_)
   ·have hc13:=bp hb13
    refine AQ (f_ (h:=l_ (h:=f_ (h:=s_ (h:=AO (As (t_ (AQ (B6 (h:=m_ (h:=AO (?_))))))))))))
    refine AF ?_
    refine⟨_,_,?_,⟨j+1,by omega,rfl,rfl⟩,?_⟩
    ·omega
    rw[UW hy]
    (rw[if_pos ‹(decide (c.1=w.dir)&&decide (c.2.1=w.name))=true›];exact Au 3 0 rfl rfl rfl rfl ((by repeat (first|exact Sub.nil|refine Sub.cons _ _ _ rfl rfl ?_|refine Sub.any _ _ ?_|refine Sub.sl _ _ _ _ _ rfl ?_|refine Sub.slnil _ _ _ rfl ?_))))
   have hc13:=bp hb13
   refine B4 (As (t_ (AQ (B6 (h:=m_ (h:=AO (?_)))))))
   refine AF ?_
   refine⟨_,_,?_,⟨j+1,by omega,rfl,rfl⟩,?_⟩
   ·omega
   rw[UW hy]
   first|(rw[if_pos ‹(decide (c.1=w.dir)&&decide (c.2.1=w.name))=true›];exact Au 3 0 rfl rfl rfl rfl ((by repeat (first|exact Sub.nil|refine Sub.cons _ _ _ rfl rfl ?_|refine Sub.any _ _ ?_|refine Sub.sl _ _ _ _ _ rfl ?_|refine Sub.slnil _ _ _ rfl ?_))))|(rw[if_neg (by simp[*])];exact Au 3 0 rfl rfl rfl rfl ((by repeat (first|exact Sub.nil|refine Sub.cons _ _ _ rfl rfl ?_|refine Sub.any _ _ ?_|refine Sub.sl _ _ _ _ _ rfl ?_|refine Sub.slnil _ _ _ rfl ?_))))
  have hc11:=bp hb11
  have e:=Cn C1 hj hc11
  subst e
  rw[List.take_length]
  refine BM (Ak (Ak (BN (t_ (w_ (l_ (h:=s_ (h:=a_ (h:=e_ (A4 (?_)))))))))))
  refine AB ?_
  rw[if_neg (by simp[*]),Lj,if_pos k3]
  rfl
 have hc10:=bp hb10
 have k3:¬w.kind=1:=hc10
 refine AM (w_ (l_ (h:=s_ (h:=a_ (h:=e_ (A4 (?_)))))))
 refine AB ?_
 rw[if_neg (by simp[*]),Lj,if_neg k3]
 rfl
end
section
theorem eD(l:List Int)(a:Nat)(ha:a≤100000000000):Eg Tryz.prog 15 l a [] 4 (fun r=>∃s:ByteArray,r= .v (.string s)∧s.size≤60):=by
 refine enter Tryz.func15 rfl rfl rfl rfl rfl 1 rfl ?_
 refine w_ (a_ (h:=e_ (w_ (a_ (h:=e_ (q_ (w_ (m_ (h:=Bh (h:=?_))))))))))
 refine A6 rfl (BG 0 (hc:=JH l _ _ (fun z=>decide (1≤z∧z≤3)) (by omega) (by rfl) (by rfl) (by rfl)) (hR:=?_))
 rintro r a1 ha1 ⟨k1,rfl,p1⟩
 refine⟨rfl,_,(by repeat constructor),?_⟩
 obtain⟨hz1,hz2⟩:=of_decide_eq_true p1
 obtain⟨m,rfl⟩:=Int.eq_ofNat_of_zero_le (show 0≤k1 by omega)
 refine a_ (h:=e_ (Aj (?_)))
 refine Bg (fun n s=>∃(j a1:Nat) (t:ByteArray),j≤m∧n=j∧a1≤a+1+(m - j)∧t.size≤2 * (m - j)∧s=⟨look [(0, .bp 0 0),(3, .v (.string t)),(4, .v (.int .i64 (j:Int)))],⟨[DN l a1],[]⟩⟩) (m) ((wk 1 0)) (⟨m,a1,⟨#[]⟩,by omega,rfl,by omega,by rw[Nat.sub_self];exact Nat.le_refl 0,rfl⟩) ?_
 rintro n s ⟨j,b1,t,hj,hn,hb1,ht,rfl⟩
 subst n
 refine q_ (w_ (m_ (h:=CG (h:=e_ (?_)))))
 refine A8 rfl (fun hb1=>?_) (fun hb1=>?_)
 ·have hc1:=bp hb1
  refine AM (q_ (Aj (AQ (m_ (h:=m_ (h:=Bh (h:=?_)))))))
  refine A6 rfl (BG 0 (hc:=LV l _ _ (fun s=>decide (s.size≤1)) (by omega) (by rfl) (by rfl) (by rfl)) (hR:=?_))
  rintro r a2 ha2 ⟨k2,rfl,p2⟩
  refine⟨rfl,_,(by repeat constructor),?_⟩
  have hw:=of_decide_eq_true p2
  refine A6 rfl (E8 rfl rfl (by show 1+k2.size≤_;omega) ?_)
  refine A6 rfl (E8 rfl rfl (by have e:=ByteArray.size_append (a:=⟨#[47]⟩) (b:=k2);have:(⟨#[47]⟩:ByteArray).size=1:=rfl;omega) ?_)
  refine a_ (h:=AO (As (t_ (AQ (m_ (h:=OD (h:=a_ (h:=AO (?_)))))))))
  refine AF ?_
  obtain⟨j,rfl⟩:∃i,j=i+1:=⟨j - 1,by omega⟩
  refine⟨_,_,?_,⟨j,_,_,by omega,rfl,?_,?_,rfl⟩,Au 1 0 rfl rfl rfl rfl (by repeat (first|exact Sub.nil|refine Sub.cons _ _ _ rfl rfl ?_|(apply Sub.of;(focus exact rfl);(focus exact LeA.of_eq (vi (by omega)));(focus exact rfl))))⟩
  ·omega
  ·omega
  have e:=ByteArray.size_append (a:=⟨#[47]⟩) (b:=k2)
  have e2:=ByteArray.size_append (a:=t) (b:=⟨#[47]⟩++k2)
  have:(⟨#[47]⟩:ByteArray).size=1:=rfl
  omega
 have hc1:=bp hb1
 refine BM (Ak (Ak (BN (t_ (w_ (m_ (h:=a_ (h:=e_ (A4 (?_))))))))))
 refine Aw none (h5:=(LeA.refl _)) (h6:=⟨_,rfl,rfl,b1,by omega,rfl,t,rfl,by omega⟩)
end
end Go.Proofs.YtbglbmnhgbgelaaGreatDoor
