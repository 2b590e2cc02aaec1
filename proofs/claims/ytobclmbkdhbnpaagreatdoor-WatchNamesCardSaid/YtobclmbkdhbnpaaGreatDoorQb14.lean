/-
  Part 14 of the proof of WatchNamesP: what the statement's proof uses of the texts in wip/tpl.
-/
import Derived.Test.YtobclmbkdhbnpaaGreatDoorQb13
open Go.Proofs.Tryz (prog)
set_option maxRecDepth 10000
set_option maxHeartbeats 4000000
set_option linter.unusedVariables false
set_option linter.unusedSimpArgs false
namespace Go.Proofs.YtobclmbkdhbnpaaGreatDoor
open Go.RowKit
theorem bB{s:Spc}{fl:Bool}{p:AB}{ps:List AB}{a:A6}{lk:Nat}{τ:Lk}(h:CG s fl p ps a lk= .inr τ):τ.name.size≤12:=by
 unfold CG at h;split at h
 ·cases h
 split at h
 ·cases h
 rename_i h2
 repeat' split at h
 all_goals first|(cases h;done)|(injection h with h;subst h;first|exact BC 12|exact Nat.le_of_not_lt h2)
theorem bC{s:Spc}{fl:Bool}:∀(k:Nat) (σ:Lk),σ.name.size≤12→(Fj s fl k σ).2.name.size≤12:=by
 intro k
 induction k with
 |zero=>intro σ h;exact h
 |succ k ih=>
   intro σ h;unfold Fj
   cases σ.ps with
   |nil=>exact h
   |cons p ps=>
     simp only
     cases hs:CG s fl p ps σ.file σ.links with
     |inl e=>exact BC 12
     |inr τ=>exact ih _ (bB hs)
theorem Ts(s:Spc)(st:A6)(p:AB)(fl:Bool):(BY s st p fl).1.name.size≤12:=by
 unfold BY;generalize (if Cg p=true then DW s else st)=d
 repeat' split
 all_goals first|exact BC 12|exact bC _ _ (BC 12)
theorem bD{s:Spc}{cwd:A6}{fl:Bool}{X:List Itm×List Fnd×Int}{g:AB×Int}(h:∀f∈X.2.1,f.name.size≤12):(∀f∈(E4 s cwd fl X g).2.1,f.name.size≤12)∧(E4 s cwd fl X g).1.length=X.1.length+1∧(E4 s cwd fl X g).2.1.length=X.2.1.length+1:=by
 unfold E4;split
 ·split
  ·refine⟨fun f hf=>?_,by simp,by simp⟩;rcases List.mem_append.1 hf with hf|hf
   ·exact h f hf
   rw[List.mem_singleton.1 hf];exact Ts _ _ _ _
  refine⟨fun f hf=>?_,by simp,by simp⟩;rcases List.mem_append.1 hf with hf|hf
  ·exact h f hf
  rw[List.mem_singleton.1 hf];exact Ts _ _ _ _
 refine⟨fun f hf=>?_,by simp,by simp⟩;rcases List.mem_append.1 hf with hf|hf
 ·exact h f hf
 rw[List.mem_singleton.1 hf];exact BC 12
theorem bF(s:Spc)(cwd:A6)(fl:Bool)(e:Int):∀(l:List (AB×Int)),(∀f∈(Gj s cwd fl l e).2.1,f.name.size≤12)∧(Gj s cwd fl l e).1.length=l.length∧(Gj s cwd fl l e).2.1.length=l.length:=by
 have key:∀(l:List (AB×Int)) (X:List Itm×List Fnd×Int),(∀f∈X.2.1,f.name.size≤12)→(∀f∈(l.foldl (E4 s cwd fl) X).2.1,f.name.size≤12)∧(l.foldl (E4 s cwd fl) X).1.length=X.1.length+l.length∧(l.foldl (E4 s cwd fl) X).2.1.length=X.2.1.length+l.length:=by
  intro l
  induction l with
  |nil=>intro X h;exact⟨h,rfl,rfl⟩
  |cons g l ih=>
    intro X h;obtain⟨h1,h2,h3⟩:=bD (s:=s) (cwd:=cwd) (fl:=fl) (g:=g) h;obtain⟨k1,k2,k3⟩:=ih _ h1;rw[List.foldl_cons];refine⟨k1,?_,?_⟩
    ·rw[k2,h2,List.length_cons];omega
    rw[k3,h3,List.length_cons];omega
 intro l;have:=key l ([],[],e) (fun f hf=>by cases hf);refine⟨this.1,by rw[Gj,this.2.1];simp,by rw[Gj,this.2.2];simp⟩
theorem bG{c:Cal}(h:BZ c=0):(c.paths.length:Int)=(Dc c.num).2.2.1∧(Dc c.num).2.2.2.1≤(c.args.length:Int)∧(c.args.length:Int)≤(Dc c.num).2.2.2.2∧(∀p∈c.paths,p.size≤128)∧∀p∈c.args,p.size≤64:=by
 unfold BZ at h;split at h
 ·exact absurd h (by decide)
 split at h
 ·exact absurd h (by decide)
 split at h
 ·exact absurd h (by decide)
 rename_i h3;split at h
 ·exact absurd h (by decide)
 rename_i h4;split at h
 ·exact absurd h (by decide)
 rename_i h5;refine⟨by omega,by omega,by omega,fun p hp=>?_,fun p hp=>?_⟩
 ·refine Nat.le_of_not_lt fun hl=>h4 (List.any_eq_true.2 ⟨p,hp,decide_eq_true hl⟩)
 refine Nat.le_of_not_lt fun hl=>h5 (List.any_eq_true.2 ⟨p,hp,decide_eq_true hl⟩)
theorem bH{c0 c1 c2 c3 c4 c5:List AV}(w:Wrk)(rows:List (List AV))(n cap:Nat)(L:List Itm):Back [c0,c1,c2,c3,c4,c5] [5] [Ch w (.sl 8 rows none) (.bs 1 0 13 n cap),LB 13 Bm L cap] [c0,c1,c2,c3,c4,Ch w (.sl 8 rows none) (.bs 6 0 13 n cap),LB 13 Bm L cap]:=by
 have:=PG (bx:=[c0,c1,c2,c3,c4,c5]) (is:=[5]) (bc:=[Ch w (.sl 8 rows none) (.bs 1 0 13 n cap),LB 13 Bm L cap]) (by simp) (by simp) (by simp);have e2:Cs (De [5] [c0,c1,c2,c3,c4,c5].length) (LB 13 Bm L cap)=LB 13 Bm L cap:=FU B3 _ _ _
 have hb:DK [c0,c1,c2,c3,c4,c5] (De [5] [c0,c1,c2,c3,c4,c5].length) [5] [Ch w (.sl 8 rows none) (.bs 1 0 13 n cap),LB 13 Bm L cap]=[c0,c1,c2,c3,c4,Ch w (.sl 8 rows none) (.bs 6 0 13 n cap),LB 13 Bm L cap]:=by
  unfold DK;unfold DK;rw[List.map_cons,e2];rfl
 rw[hb]at this;exact this
theorem bJ(s:Syst)(pid:Int)(c:Cal):(∀f∈(Ec s pid c).found,f.name.size≤12)∧(Ec s pid c).found.length=(c.paths.zip (CJ c)).length∧(Ec s pid c).r.items.length=(c.paths.zip (CJ c)).length:=by
 obtain⟨h1,h2,h3⟩:=bF s.spc (At s.tab pid).cwd (CK c) (Cy (At s.tab pid) c) (c.paths.zip (CJ c));exact⟨h1,h3,h2⟩
section
theorem bK(w:Wrk)(F I:AV)(h9:w.c.num=9→0<w.c.args.length)(hsz:∀p∈w.c.args,p.size≤1000):AFn prog 63 [.fp (Ch w F I)] (fun r=>r= .v (.int .i64 (Cy w.p w.c))):=by
 have hol:(w.p.opens.map Hg).length=w.p.opens.length:=List.length_map _;refine enter Tryz.func63 rfl rfl rfl rfl rfl 0 rfl ?_;refine w_ (a_ (h:=e_ (w_ (m_ (h:=k_ (h:=f_ (h:=f_ (h:=l_ (h:=Ak (h:=s_ (h:=e_ (q_ (w_ (m_ (h:=k_ (h:=f_ (h:=f_ (h:=l_ (h:=e_ (Ap (w_ (Ah (h:=a_ (h:=?_))))))))))))))))))))))));refine e_ (?_);refine AA rfl (fun hb1=>?_) (fun hb1=>?_)
 ·have hc1:=bp hb1;refine q_ (w_ (?_));refine A8 rfl (E6 (len:=4) (sz:=1) (n:=0) (by kernel_rfl) rfl rfl rfl rfl ?_);refine l_ (h:=BQ (h:=m_ (h:=?_)));refine Aw false rfl rfl (fun hb2=>?_) (fun hb2=>?_)
  ·have hc2:=bp hb2;refine A3 (h:=A3 (h:=A3 (h:=AY (h:=m_ (h:=A3 (h:=A3 (h:=A3 (h:=A3 (h:=AY (h:=m_ (h:=A3 (h:=A3 (h:=A3 (h:=A3 (h:=AY (h:=e_ (CD (h:=w_ (a_ (h:=e_ (A4 (A9 (Ab (?_))))))))))))))))))))))));refine A9 (?_);refine AD ?_
   first|(exfalso;first|contradiction|omega)|(exact vi (by simp[Cy, *]))
  have hc2:=bp hb2;refine Ax (E6 (len:=4) (sz:=1) (n:=0) (by kernel_rfl) rfl rfl rfl rfl ?_);refine l_ (h:=Co (h:=Aj (h:=m_ (h:=?_))));refine Aw false rfl rfl (fun hb3=>?_) (fun hb3=>?_)
  ·have hc3:=bp hb3;refine A3 (h:=A3 (h:=A3 (h:=A3 (h:=AY (h:=m_ (h:=A3 (h:=A3 (h:=A3 (h:=A3 (h:=AY (h:=e_ (CD (h:=w_ (a_ (h:=e_ (A4 (A9 (Ab (A9 (?_))))))))))))))))))));refine AD ?_
   first|(exfalso;first|contradiction|omega)|(exact vi (by simp[Cy, *]))
  have hc3:=bp hb3;refine Ax (E6 (len:=4) (sz:=1) (n:=0) (by kernel_rfl) rfl rfl rfl rfl ?_);refine l_ (h:=Dz (h:=Ah (h:=Aj (h:=m_ (h:=?_)))));refine Aw false rfl rfl (fun hb4=>?_) (fun hb4=>?_)
  ·have hc4:=bp hb4;refine A3 (h:=A3 (h:=A3 (h:=A3 (h:=AY (h:=e_ (CD (h:=w_ (a_ (h:=e_ (A4 (A9 (Ab (A9 (?_))))))))))))));refine AD ?_
   first|(exfalso;first|contradiction|omega)|(exact vi (by simp[Cy, *]))
  have hc4:=bp hb4;refine Ax (E6 (len:=4) (sz:=1) (n:=1) (by kernel_rfl) rfl rfl rfl rfl ?_);refine l_ (h:=?_);refine Ax (AN (PJ w.c.a1) ?_);rintro r rfl;refine Bt (h:=Aj (h:=e_ (?_)));refine AA rfl (fun hb5=>?_) (fun hb5=>?_)
  ·have hc5:=bp hb5;refine w_ (a_ (h:=e_ (A4 (A9 (Ab (A9 (?_)))))));refine AD ?_
   first|(exfalso;first|contradiction|omega)|(exact vi (by simp[Cy, *]))
  have hc5:=bp hb5;refine AO (w_ (m_ (h:=k_ (h:=f_ (h:=f_ (h:=l_ (h:=n_ (h:=Fz (h:=e_ (?_))))))))));refine AA rfl (fun hb6=>?_) (fun hb6=>?_)
  ·have hc6:=bp hb6;have h8:8≤(w.p.opens.length:Int):=by rw[List.length_map]at hc6;exact hc6
   refine w_ (a_ (h:=e_ (A4 (Ab (A9 (?_))))));refine AD ?_
   first|(exfalso;first|contradiction|omega)|(exact vi (by simp[Cy, *]))
  have hc6:=bp hb6;have h8:¬8≤(w.p.opens.length:Int):=by rw[List.length_map]at hc6;exact hc6
  refine BH (Ay (t_ (w_ (a_ (h:=e_ (A4 (?_)))))));refine AD ?_
  first|(exfalso;first|contradiction|omega)|(exact vi (by simp[Cy, *]))
 have hc1:=bp hb1;refine w_ (Ah (h:=a_ (h:=e_ (?_))));refine AA rfl (fun hb7=>?_) (fun hb7=>?_)
 ·have hc7:=bp hb7;obtain⟨a0,ha0⟩:∃a,w.c.args[0]?=some a:=⟨_,BG (h9 hc7)⟩;have harg:(w.c.args.map Eu)[0]?=some (Eu a0):=by rw[List.getElem?_map,ha0];rfl
  have hag:Ju w.c=a0:=by unfold Ju;rw[List.headD_eq_head?_getD,List.head?_eq_getElem?,ha0];rfl
  have hsa:=hsz a0 (Au ha0);refine q_ (w_ (m_ (h:=k_ (h:=f_ (h:=f_ (h:=l_ (h:=?_)))))));refine A8 rfl (DZ (n:=0) rfl rfl rfl harg ?_);refine l_ (h:=Ah (h:=e_ (?_)));refine AA rfl (fun hb8=>?_) (fun hb8=>?_)
  ·have hc8:=bp hb8;refine w_ (a_ (h:=e_ (A4 (A9 (Ab (A9 (?_)))))));refine AD ?_
   first|(exfalso;first|contradiction|omega)|(exact vi (by simp[Cy, *]))
  have hc8:=bp hb8;refine AO (w_ (a_ (h:=e_ (Ap (?_)))));refine By (fun m s=>∃j:Nat,j≤a0.size∧m=a0.size - j∧(∀(i:Nat) (h:i<a0.data.toList.length),i<j→a0.data.toList[i]≠0)∧s=⟨look [(0, .fp (Ch w F I)),(4, .v (.int .i64 (j:Int)))],⟨[],[]⟩⟩) (a0.size) ((wk 0 0)) (⟨0,BC _,rfl,fun i h1 h2=>by omega,rfl⟩) ?_;rintro m s ⟨j,hj,rfl,hz,rfl⟩;refine q_ (w_ (m_ (h:=m_ (h:=k_ (h:=f_ (h:=f_ (h:=l_ (h:=?_))))))));refine A8 rfl (DZ (n:=0) rfl rfl rfl harg ?_);refine l_ (h:=n_ (h:=BQ (h:=e_ (?_))));refine AA rfl (fun hb9=>?_) (fun hb9=>?_)
  ·have hc9:=bp hb9;have hlt:j<a0.size:=by omega
   refine AO (q_ (Ap (w_ (m_ (h:=k_ (h:=f_ (h:=f_ (h:=l_ (h:=?_)))))))));refine A8 rfl (DZ (n:=0) rfl rfl rfl harg ?_);refine l_ (h:=m_ (h:=?_));refine A8 rfl (GY (n:=j) Tryz.underlying9 rfl rfl rfl hlt ?_);refine Ah (h:=e_ (?_));refine AA rfl (fun hb10=>?_) (fun hb10=>?_)
   ·have hc10:=bp hb10
    have hany:(a0.data.toList.any fun b=>decide (b=0))=true:=by
     rw[List.any_eq_true];refine⟨a0.data.toList[j]'(by simpa using hlt),List.getElem_mem _,?_⟩;have h00:a0[j].toNat=0:=by have:=hc10;omega
     simp;exact UInt8.toNat_inj.1 h00
    refine w_ (a_ (h:=e_ (A4 (Ab (A9 (A9 (Ab (Ab (A9 (?_))))))))));refine AD ?_
    first|(exfalso;first|contradiction|omega)|(exact vi (by simp[Cy, *]))
   have hc10:=bp hb10
   have hne:a0.data.toList[j]'(by simpa using hlt)≠0:=by
    intro e;have h00:¬a0[j].toNat=0:=by have:=hc10;omega
    simp at e;exact h00 (congrArg UInt8.toNat e)
   refine BH (Ay (t_ (AX (m_ (h:=BB (h:=a_ (h:=AT (?_))))))));refine AG ?_
   refine⟨_,_,?_,⟨j+1,by omega,rfl,(fun i h1 h2=>by
    by_cases e:i=j
    ·subst e;exact hne
    exact hz i h1 (by omega)),rfl⟩,(wk 0 0)⟩
   omega
  have hc9:=bp hb9
  have hany:(a0.data.toList.any fun b=>decide (b=0))=false:=by
   rw[List.any_eq_false];intro b hb;obtain⟨i,hi,rfl⟩:=List.mem_iff_getElem.1 hb;have:=hz i hi (by have hl:=Lib.size_eq a0;omega)
   simpa using this
  refine Ba (Ao (Ao (Bb (Ay (t_ (w_ (a_ (h:=e_ (A4 (?_))))))))));refine AD ?_
  first|(exfalso;first|contradiction|omega)|(exact vi (by simp[Cy, *]))
 have hc7:=bp hb7;refine q_ (w_ (Ah (h:=a_ (h:=e_ (?_)))));refine AA rfl (fun hb11=>?_) (fun hb11=>?_)
 ·have hc11:=bp hb11;refine AO (CD (h:=w_ (?_)));refine A8 rfl (E6 (len:=4) (sz:=1) (n:=0) (by kernel_rfl) rfl rfl rfl rfl ?_);refine l_ (h:=?_);refine A8 rfl (AN (PJ w.c.a0) ?_);rintro r rfl;refine Bt (h:=e_ (?_));refine AA rfl (fun hb12=>?_) (fun hb12=>?_)
  ·have hc12:=bp hb12;refine w_ (a_ (h:=e_ (A4 (Ab (A9 (?_))))));refine AD ?_
   first|(exfalso;first|contradiction|omega)|(exact vi (by simp[Cy, *]))
  have hc12:=bp hb12;refine BH (Ay (t_ (w_ (a_ (h:=e_ (A4 (?_)))))));refine AD ?_
  first|(exfalso;first|contradiction|omega)|(exact vi (by simp[Cy, *]))
 have hc11:=bp hb11;refine AX (Ah (h:=a_ (h:=e_ (?_))));refine AA rfl (fun hb13=>?_) (fun hb13=>?_)
 ·have hc13:=bp hb13;refine w_ (?_);refine A8 rfl (E6 (len:=4) (sz:=1) (n:=0) (by kernel_rfl) rfl rfl rfl rfl ?_);refine l_ (h:=?_);refine A8 rfl (AN (PJ w.c.a0) ?_);rintro r rfl;refine Bt (h:=e_ (?_));refine AA rfl (fun hb14=>?_) (fun hb14=>?_)
  ·have hc14:=bp hb14;refine w_ (a_ (h:=e_ (A4 (Ab (A9 (?_))))));refine AD ?_
   first|(exfalso;first|contradiction|omega)|(exact vi (by simp[Cy, *]))
  have hc14:=bp hb14;refine BH (Ay (t_ (w_ (a_ (h:=e_ (A4 (?_)))))));refine AD ?_
  first|(exfalso;first|contradiction|omega)|(exact vi (by simp[Cy, *]))
 have hc13:=bp hb13;refine w_ (Ah (h:=a_ (h:=e_ (?_))));refine AA rfl (fun hb15=>?_) (fun hb15=>?_)
 ·have hc15:=bp hb15;refine w_ (?_);refine A8 rfl (E6 (len:=4) (sz:=1) (n:=0) (by kernel_rfl) rfl rfl rfl rfl ?_);refine l_ (h:=BQ (h:=m_ (h:=?_)));refine Aw false rfl rfl (fun hb16=>?_) (fun hb16=>?_)
  ·have hc16:=bp hb16;refine A3 (h:=A3 (h:=A3 (h:=AY (h:=m_ (h:=A3 (h:=A3 (h:=A3 (h:=AY (h:=m_ (h:=A3 (h:=A3 (h:=A3 (h:=AY (h:=e_ (CD (h:=w_ (a_ (h:=e_ (A4 (Ab (A9 (?_))))))))))))))))))))));refine AD ?_
   first|(exfalso;first|contradiction|omega)|(exact vi (by simp[Cy, *]))
  have hc16:=bp hb16;refine Ax (E6 (len:=4) (sz:=1) (n:=0) (by kernel_rfl) rfl rfl rfl rfl ?_);refine l_ (h:=Co (h:=Aj (h:=m_ (h:=?_))));refine Aw false rfl rfl (fun hb17=>?_) (fun hb17=>?_)
  ·have hc17:=bp hb17;refine A3 (h:=A3 (h:=A3 (h:=AY (h:=m_ (h:=A3 (h:=A3 (h:=A3 (h:=AY (h:=e_ (CD (h:=w_ (a_ (h:=e_ (A4 (Ab (A9 (?_)))))))))))))))));refine AD ?_
   first|(exfalso;first|contradiction|omega)|(exact vi (by simp[Cy, *]))
  have hc17:=bp hb17;refine Ax (E6 (len:=4) (sz:=1) (n:=1) (by kernel_rfl) rfl rfl rfl rfl ?_);refine l_ (h:=BQ (h:=Aj (h:=m_ (h:=?_))));refine Aw false rfl rfl (fun hb18=>?_) (fun hb18=>?_)
  ·have hc18:=bp hb18;refine A3 (h:=A3 (h:=A3 (h:=AY (h:=e_ (CD (h:=w_ (a_ (h:=e_ (A4 (Ab (A9 (?_))))))))))));refine AD ?_
   first|(exfalso;first|contradiction|omega)|(exact vi (by simp[Cy, *]))
  have hc18:=bp hb18;refine Ax (E6 (len:=4) (sz:=1) (n:=1) (by kernel_rfl) rfl rfl rfl rfl ?_);refine l_ (h:=Co (h:=Aj (h:=e_ (?_))));refine AA rfl (fun hb19=>?_) (fun hb19=>?_)
  ·have hc19:=bp hb19;refine w_ (a_ (h:=e_ (A4 (Ab (A9 (?_))))));refine AD ?_
   first|(exfalso;first|contradiction|omega)|(exact vi (by simp[Cy, *]))
  have hc19:=bp hb19;refine BH (Ay (t_ (w_ (a_ (h:=e_ (A4 (?_)))))));refine AD ?_
  first|(exfalso;first|contradiction|omega)|(exact vi (by simp[Cy, *]))
 have hc15:=bp hb15;refine w_ (Ah (h:=a_ (h:=e_ (?_))));refine AA rfl (fun hb20=>?_) (fun hb20=>?_)
 ·have hc20:=bp hb20;refine w_ (m_ (h:=k_ (h:=f_ (h:=f_ (h:=l_ (h:=Bf (h:=e_ (?_))))))));refine AA rfl (fun hb21=>?_) (fun hb21=>?_)
  ·have hc21:=bp hb21;refine w_ (a_ (h:=e_ (A4 (Ab (A9 (?_))))));refine AD ?_
   first|(exfalso;first|contradiction|omega)|(exact vi (by simp[Cy, *]))
  have hc21:=bp hb21;refine BH (Ay (t_ (w_ (a_ (h:=e_ (A4 (?_)))))));refine AD ?_
  first|(exfalso;first|contradiction|omega)|(exact vi (by simp[Cy, *]))
 have hc20:=bp hb20;refine w_ (Ah (h:=a_ (h:=e_ (?_))));refine AA rfl (fun hb22=>?_) (fun hb22=>?_)
 ·have hc22:=bp hb22;refine w_ (?_);refine A8 rfl (E6 (len:=4) (sz:=1) (n:=0) (by kernel_rfl) rfl rfl rfl rfl ?_);refine l_ (h:=BQ (h:=e_ (?_)));refine AA rfl (fun hb23=>?_) (fun hb23=>?_)
  ·have hc23:=bp hb23;refine w_ (a_ (h:=e_ (A4 (Ab (A9 (?_))))));refine AD ?_
   first|(exfalso;first|contradiction|omega)|(exact vi (by simp[Cy, *]))
  have hc23:=bp hb23;refine BH (Ay (t_ (w_ (a_ (h:=e_ (A4 (?_)))))));refine AD ?_
  first|(exfalso;first|contradiction|omega)|(exact vi (by simp[Cy, *]))
 have hc22:=bp hb22;refine BH (Ay (t_ (w_ (a_ (h:=e_ (A4 (?_)))))));refine AD ?_
 first|(exfalso;first|contradiction|omega)|(exact vi (by simp[Cy, *]))
end
def GK(n:Int):Int:=IntKind.i64.wrap (0 - n)
def ED(s:Syst)(pid:Int)(c:Cal):Syst×Res:=
 if Dh s.tab pid=false then(s,{FD with exit:= -4})else if BZ c≠0 then(s,{FD with exit:= -22})
 else if(FT s (At s.tab pid) c).2.2≠0 then(s,{FD with exit:=GK (FT s (At s.tab pid) c).2.2,items:=(FT s (At s.tab pid) c).1})
 else if(D4 (Ec s pid c)).2≠0 then(s,{FD with exit:=GK (D4 (Ec s pid c)).2,items:=(FT s (At s.tab pid) c).1})
 else((D4 (Ec s pid c)).1.s,(D4 (Ec s pid c)).1.r)
def Tt(R:Syst×Res):AV:= .tup [.agg (CB R.1), .agg (Ed R.2)]
theorem bL{α:Type}{sz:Nat}{F:α→List AV}(hF:RowF sz F)(l:List α)(cap0 cap:Nat):((LB sz F l cap0).drop 0).take (l.length * sz)++List.replicate ((cap - l.length) * sz) .any=LB sz F l cap:=by
 unfold LB;have h:=Qs (cap:=cap0) (JH hF l);rw[List.length_map]at h;rw[h];unfold C3;rw[List.length_map]
def Jz:List AV:=[.v (.slice none 0 0), .v (.slice none 0 0), .v (.int .i64 0), .v (.int .i64 0), .v (.slice none 0 0)]
def K0:List AV:=[.v (.int .i64 0), .v (.int .i64 0), .v (.int .i64 0), .v (.slice none 0 0), .v (.slice none 0 0)]
def JK(r:Res)(I:AV):List AV:=[.v (.int .i64 r.exit), .v (.int .i64 r.child), .v (.int .i64 r.gone),I, .sl 7 (r.changes.map C2) none]
def GL(s:Syst)(pid:Int)(c:Cal):Wrk:=⟨s,At s.tab pid,c,[],FD⟩
theorem bM(s:Syst)(pid:Int)(c:Cal):LeA (.agg (CB s++(BW (At s.tab pid)++(E5 c++[.v (.slice none 0 0), .v (.int .i64 0), .v (.int .i64 0), .v (.int .i64 0), .v (.slice none 0 0), .v (.slice none 0 0)])))) (.agg (Ch (GL s pid c) (.v (.slice none 0 0)) (.v (.slice none 0 0)))):=by
 refine LeA.agg ?_
 repeat (first|exact LeL.nil|refine LeL.cons (AM _) ?_|refine LeL.cons (LeA.nil _) ?_)
theorem PS(w:Wrk)(R:Df):(Bu w R).1.r.items.length=w.r.items.length:=by
 unfold Bu;split<;>rfl
theorem bO(w:Wrk)(R:Tab×Int):(Dd w R).1.r.items.length=w.r.items.length:=by
 unfold Dd;split<;>rfl
theorem Tu(w:Wrk)(i:Nat)(a:A6):(GF w i a).r.items.length=w.r.items.length:=List.length_modify ..
theorem bQ(w:Wrk)(i:Nat)(r:Int):(Es w i r).r.items.length=w.r.items.length:=List.length_modify ..
theorem Tv(w:Wrk)(i:Nat)(n:Nod):(CW w i n).1.r.items.length=w.r.items.length:=by
 unfold CW;split
 ·rw[Tu,PS]
 rfl
theorem Tw(w:Wrk)(a:A6):(Gm w a).1.r.items.length=w.r.items.length:=by
 unfold Gm;rw[bO];rfl
theorem bR(w:Wrk):(C4 w).1.r.items.length=w.r.items.length:=by
 unfold C4
 repeat' split
 all_goals first|rfl|exact Tv _ _ _|exact Tw _ _|exact(Tw _ _).trans (Tv _ _ _)
theorem bS(w:Wrk)(R:Df)(x:A6):(GG w R x).1.r.items.length=w.r.items.length:=by
 unfold GG
 repeat' split
 all_goals first|rfl|exact PS _ _|exact(Tu _ _ _).trans ((bQ _ _ _).trans (PS _ _))
theorem bT(w:Wrk):(Dv w).1.r.items.length=w.r.items.length:=by
 unfold Dv
 repeat' split
 all_goals first|rfl|exact bS _ _ _
theorem bU{w:Wrk}(h:w.c.num=6∨w.c.num=13):(D4 w).1.r.items.length=w.r.items.length:=by
 rcases h with h|h
 ·rw[D4,if_pos h];exact bR w
 rw[D4,if_neg (show¬w.c.num=6 by omega),if_neg (show¬w.c.num=8 by omega),if_neg (show¬(w.c.num=10∨w.c.num=12) by omega),if_pos h];exact bT w
section
variable {P:Program}{ev:Operand→Option AV}{h:AH}{R:AV→AH→Prop}{d:Option Tmp}{ty:TypeId}{pos:String}{af:Array Edge}{gd:Option (Nat×Bool)}
theorem bV{T:TypeId}{x:Operand}{a:Int}(hx:ev x=some (.v (.int .i64 a)))(hR:R (.v (.int .i64 (GK a))) h):AStep P ⟨d, .unOp .neg T x,ty,pos,af,gd⟩ ev h R:=
 CU (fun _ G w ec _ he=>⟨.int .i64 (GK a),by
  have h1:=he x (by simp[Op.operands]) _ hx;simp only[rep]at h1
  simp[execOp,h1,Op.unary,Op.intArith,GK],by simp only[rep]⟩) hR
end
section
theorem bW(w:Wrk)(cap:Nat)(hv:SpcV w.s.spc)(hm:w.s.spc.mounts.length≤1000)(htb:TabB w.s.tab)(hnm:∀f∈w.found,f.name.size≤12)(h6:(w.c.num=6∧1≤w.found.length∧1≤w.r.items.length)∨(w.c.num=13∧2≤w.found.length∧2≤w.r.items.length)):ACall prog 64 [.bp 0 0] [WA w cap,IB w cap] (fun r b t=>t=[]∧r= .v (.int .i64 (D4 w).2)∧b=[WA (D4 w).1 cap,IB (D4 w).1 cap]):=by
 have hps:w.s.tab.ps.length≤1000:=by have:=htb.few;omega
 refine enter Tryz.func64 rfl rfl rfl rfl rfl 2 rfl ?_;refine w_ (a_ (h:=e_ (q_ (w_ (m_ (h:=k_ (h:=f_ (h:=f_ (h:=l_ (h:=e_ (Ap (w_ (Ah (h:=a_ (h:=e_ (?_))))))))))))))));refine AA rfl (fun hb1=>?_) (fun hb1=>?_)
 ·have hc1:=bp hb1;obtain⟨f,hf⟩:∃f,w.found[0]?=some f:=⟨_,BG (by omega)⟩;obtain⟨x,hx⟩:∃x,w.r.items[0]?=some x:=⟨_,BG (by omega)⟩;have hact:D4 w=C4 w:=by rw[D4,if_pos hc1]
  refine w_ (m_ (h:=?_));refine A8 rfl (DN [0,1] rfl (.cons _ _ _ _ _ rfl (AM _) .nil) (by decide) (.cons _ _ _ _ _ rfl rfl (.cons _ _ _ _ _ rfl (FU B3 _ _ _) .nil)) (b7 w cap f x hv hm htb hf hx (by have:=hnm f (Au hf);omega)) ?_);rintro r bc tc ⟨rfl,rfl,rfl⟩;refine⟨rfl,_,Gp rfl (C4 w).1 cap,?_⟩;refine a_ (h:=e_ (A4 (Ab (A9 (?_)))));refine Dm (r:= .v (.int .i64 (D4 w).2)) none (h5:=(by rw[hact];exact AM _)) (h6:=⟨rfl,rfl,?_⟩);rw[hact];rfl
 have hc1:=bp hb1;refine w_ (Ah (h:=a_ (h:=e_ (?_))));refine AA rfl (fun hb2=>?_) (fun hb2=>?_)
 ·have hc2:=bp hb2;exfalso;first|contradiction|omega
 have hc2:=bp hb2;refine q_ (w_ (Ah (h:=a_ (h:=e_ (?_)))));refine AA rfl (fun hb3=>?_) (fun hb3=>?_)
 ·have hc3:=bp hb3;exfalso;first|contradiction|omega
 have hc3:=bp hb3;refine AX (Ah (h:=a_ (h:=e_ (?_))));refine AA rfl (fun hb4=>?_) (fun hb4=>?_)
 ·have hc4:=bp hb4;exfalso;first|contradiction|omega
 have hc4:=bp hb4;refine w_ (Ah (h:=a_ (h:=e_ (?_))));refine AA rfl (fun hb5=>?_) (fun hb5=>?_)
 ·have hc5:=bp hb5;obtain⟨f,hf⟩:∃f,w.found[0]?=some f:=⟨_,BG (by omega)⟩;obtain⟨g,hg⟩:∃f,w.found[1]?=some f:=⟨_,BG (by omega)⟩;obtain⟨x,hx⟩:∃x,w.r.items[0]?=some x:=⟨_,BG (by omega)⟩;obtain⟨x1,hx1⟩:∃x,w.r.items[1]?=some x:=⟨_,BG (by omega)⟩;have hact:D4 w=Dv w:=by rw[D4,if_neg (show¬w.c.num=6 by omega),if_neg (show¬w.c.num=8 by omega),if_neg (show¬(w.c.num=10∨w.c.num=12) by omega),if_pos hc5]
  refine w_ (m_ (h:=?_));refine A8 rfl (DN [0,1] rfl (.cons _ _ _ _ _ rfl (AM _) .nil) (by decide) (.cons _ _ _ _ _ rfl rfl (.cons _ _ _ _ _ rfl (FU B3 _ _ _) .nil)) (bA w cap f g x x1 hv hm hps hf hg hx hx1 (by have:=hnm f (Au hf);omega) (by have:=hnm g (Au hg);omega)) ?_);rintro r bc tc ⟨rfl,rfl,rfl⟩;refine⟨rfl,_,Gp rfl (Dv w).1 cap,?_⟩;refine a_ (h:=e_ (A4 (Ab (A9 (?_)))));refine Dm (r:= .v (.int .i64 (D4 w).2)) none (h5:=(by rw[hact];exact AM _)) (h6:=⟨rfl,rfl,?_⟩);rw[hact];rfl
 have hc5:=bp hb5;exfalso;first|contradiction|omega
theorem PT(s:Syst)(pid:Int)(c:Cal)(hv:SpcV s.spc)(hm:s.spc.mounts.length≤1000)(ht:TabB s.tab)(hcp:c.paths.length≤1000)(hca:c.args.length≤1000)(h6:c.num=6∨c.num=13):AFn prog 30 [.agg (CB s), .v (.int .i64 pid), .agg (E5 c)] (fun r=>r=Tt (ED s pid c)):=by
 have hsb:=hv.b hm;obtain⟨W1,hW1⟩:∃W,W=Ec s pid c:=⟨_,rfl⟩;have hwf:=bJ s pid c;rw[←hW1]at hwf;have hWs:W1.s=s:=by rw[hW1];rfl
 have hWc:W1.c=c:=by rw[hW1];rfl
 refine enter Tryz.func30 rfl rfl rfl rfl rfl 0 rfl ?_;refine w_ (b_ (h:=b_ (h:=Ak (h:=Ak (h:=e_ (w_ (f_ (h:=l_ (h:=m_ (h:=?_))))))))));refine A8 rfl (AN (T7 s.tab pid ht) ?_);rintro r rfl;refine m_ (h:=x_ (h:=x_ (h:=Ak (h:=s_ (h:=a_ (h:=e_ (q_ (w_ (m_ (h:=Bt (h:=e_ (?_))))))))))));refine AA rfl (fun hb1=>?_) (fun hb1=>?_)
 ·have hc1:=bp hb1;have hno:Dh s.tab pid=false:=by simpa using hc1
  refine w_ (l_ (h:=?_));refine A8 rfl (AN (My s hsb ht) ?_);rintro r rfl;refine A8 rfl (Em (y:= .agg (Ed {FD with exit:= -4})) (D8 ⟨rfl,rfl⟩) ?_);refine s_ (h:=s_ (h:=e_ (A4 (A9 (?_)))));refine AD ?_;rw[ED,if_pos hno];rfl
 have hc1:=bp hb1;have hno:¬Dh s.tab pid=false:=by simpa using hc1
 refine AO (q_ (w_ (l_ (h:=?_))));refine A8 rfl (AN (Yw c hcp hca) ?_);rintro r rfl;refine Bf (h:=e_ (?_));refine AA rfl (fun hb2=>?_) (fun hb2=>?_)
 ·have hc2:=bp hb2;have hck:BZ c≠0:=by simpa using hc2
  refine w_ (l_ (h:=?_));refine A8 rfl (AN (My s hsb ht) ?_);rintro r rfl;refine A8 rfl (Em (y:= .agg (Ed {FD with exit:= -22})) (D8 ⟨rfl,rfl⟩) ?_);refine s_ (h:=s_ (h:=e_ (A4 (A9 (?_)))));refine AD ?_;rw[ED,if_neg hno,if_pos hck];rfl
 have hc2:=bp hb2;have hck:BZ c=0:=by simpa using hc2
 obtain⟨hk1,hk2,hk3,hk4,hk5⟩:=bG hck;have hargs:∀p∈(GL s pid c).c.args,p.size≤1000:=fun p hp=>by have:=hk5 p hp;omega
 have hpaths:∀p∈(GL s pid c).c.paths,p.size≤100000:=fun p hp=>by have:=hk4 p hp;omega
 have hpn:(c.num=6∧c.paths.length=1∧(CJ c).length=1)∨(c.num=13∧c.paths.length=2∧(CJ c).length=2):=by
  rcases h6 with h|h
  ·refine .inl ⟨h,?_,?_⟩
   ·rw[h]at hk1;have:(Dc 6).2.2.1=1:=rfl;omega
   simp[CJ,h]
  refine .inr ⟨h,?_,?_⟩
  ·rw[h]at hk1;have:(Dc 13).2.2.1=2:=rfl;omega
  simp[CJ,h]
 have hpp:(GL s pid c).c.paths.length=(CJ (GL s pid c).c).length:=by show c.paths.length=(CJ c).length;omega
 have hp0:0<(GL s pid c).c.paths.length:=by show 0<c.paths.length;omega
 have hzl:(c.paths.zip (CJ c)).length=c.paths.length:=by rw[List.length_zip];omega
 have hil0:0<W1.r.items.length:=by rw[hwf.2.2,hzl];omega
 refine AO (q_ (Bo ([(0,CB s),(1,E5 c),(4,BW (At s.tab pid))]) 7 (h:=?_)))
 first|refine AF 0 (h:=?_)|refine B5 0 rfl (fun _ hS=>Cv (row:=CB s) rfl (kb hS rfl) (BK rfl) rfl ⟨rfl,rfl⟩) ?_|refine B5 0 rfl (fun _ hS=>Cv (row:=E5 c) rfl (kb hS rfl) (BK rfl) rfl ⟨rfl,rfl⟩) ?_|refine B5 0 rfl (fun _ hS=>Cv (row:=BW (At s.tab pid)) rfl (kb hS rfl) (BK rfl) rfl ⟨rfl,rfl⟩) ?_
 first|refine AF 2 (h:=?_)|refine B5 2 rfl (fun _ hS=>Cv (row:=CB s) rfl (kb hS rfl) (BK rfl) rfl ⟨rfl,rfl⟩) ?_|refine B5 2 rfl (fun _ hS=>Cv (row:=E5 c) rfl (kb hS rfl) (BK rfl) rfl ⟨rfl,rfl⟩) ?_|refine B5 2 rfl (fun _ hS=>Cv (row:=BW (At s.tab pid)) rfl (kb hS rfl) (BK rfl) rfl ⟨rfl,rfl⟩) ?_
 first|refine AF 3 (h:=?_)|refine B5 3 rfl (fun _ hS=>Cv (row:=CB s) rfl (kb hS rfl) (BK rfl) rfl ⟨rfl,rfl⟩) ?_|refine B5 3 rfl (fun _ hS=>Cv (row:=E5 c) rfl (kb hS rfl) (BK rfl) rfl ⟨rfl,rfl⟩) ?_|refine B5 3 rfl (fun _ hS=>Cv (row:=BW (At s.tab pid)) rfl (kb hS rfl) (BK rfl) rfl ⟨rfl,rfl⟩) ?_
 refine c_ 1 rfl (AN (My s hsb ht) ?_);rintro r rfl;refine o_ (h:=?_);refine B5 4 rfl (fun _ hS=>F1 (y:= .agg (Ch (GL s pid c) (.v (.slice none 0 0)) (.v (.slice none 0 0)))) (D8 ⟨rfl,rfl⟩) (bM s pid c) ⟨rfl,rfl⟩) ?_
 first|refine c_ 5 rfl (Nd rfl rfl (by repeat constructor) ?_)|refine c_ 5 rfl (Nc rfl rfl (by repeat constructor) ?_)
 refine o_ (h:=BO 6 (h:=z_ (h:=t_ (?_))));refine BR (fun S=>∃cap,W1.r.items.length≤cap∧S=⟨look [(3, .bp 2 0),(6, .bp 3 0),(7, .bp 4 0),(10, .bp 0 0),(11, .v (.int .i64 (FT s (At s.tab pid) c).2.2))],⟨[WA W1 cap,IB W1 cap,CB s,Jz,K0],[]⟩⟩) ?_ ?_
 ·skip
  refine AX (m_ (h:=m_ (h:=?_)));refine A8 rfl (EJ 1 rfl (.cons _ _ _ _ _ rfl (LeA.of_eq rfl) .nil) (bK (GL s pid c) (.v (.slice none 0 0)) (.v (.slice none 0 0)) (fun h=>by have:c.num=9:=h;omega) hargs) ?_);rintro r rfl;refine⟨rfl,?_⟩;refine A8 rfl (DN [5] rfl (.cons _ _ _ _ _ rfl (AM _) (.cons _ _ _ _ _ rfl (AM _) .nil)) (by decide) (.cons _ _ _ _ _ rfl rfl .nil) (aW (GL s pid c) (Cy (At s.tab pid) c) hv hm hpp (by show c.paths.length≤1000;omega) hp0 hpaths) ?_);rintro r bc tc ⟨rfl,cap,hcap,rfl,rfl⟩;refine⟨rfl,_,bH (GL s pid c) _ _ cap _,?_⟩;refine a_ (h:=AT (?_));refine AG ?_;rw[hW1];exact⟨_,⟨cap,hcap,rfl⟩,E7 [5,6,0,2,3] (fun i hi=>absurd hi (Nat.not_lt_zero i)) (by decide) (.cons _ _ _ _ _ rfl rfl (.cons _ _ _ _ _ rfl (GH B3 _ _ _) (.cons _ _ _ _ _ rfl rfl (.cons _ _ _ _ _ rfl rfl (.cons _ _ _ _ _ rfl rfl .nil))))) (by repeat (first|exact SubK.nil|refine SubK.cons _ _ _ _ rfl (AM _) ?_))⟩
 rintro S ⟨cap,hcap,rfl⟩;refine w_ (m_ (h:=k_ (h:=f_ (h:=f_ (h:=l_ (h:=?_))))));refine A8 rfl (M7 rfl rfl (SrcA.bs 1 0 _ cap _ rfl (by rw[show IB W1 cap=LB 13 Bm W1.r.items cap from rfl,PC B3 hcap];omega)) hil0 (by rw[hwf.2.2,hzl];omega) ?_);rintro cap2 k bx2 hcp2 hs;rw[show((IB W1 cap).drop 0).take (W1.r.items.length * 13)++List.replicate ((cap2 - W1.r.items.length) * 13) AV.any=LB 13 Bm W1.r.items cap2 from bL B3 _ cap cap2]at hs;obtain⟨rfl,rfl⟩:k=5∧bx2=[_,_,_,_,_,_]:=hs.eq;refine a_ (h:=e_ (?_));refine BR (fun S=>∃(W2:Wrk) (E2:Int),((¬(FT s (At s.tab pid) c).2.2=0∧E2=(FT s (At s.tab pid) c).2.2)∨((FT s (At s.tab pid) c).2.2=0∧W2=(D4 W1).1∧E2=(D4 W1).2))∧S=⟨look [(3, .bp 2 0),(6, .bp 3 0),(7, .bp 4 0),(10, .bp 0 0),(11, .v (.int .i64 E2)),(12, .bs 5 0 13 W1.r.items.length cap2)],⟨[WA W2 cap,IB W2 cap,CB s,Jz,K0,LB 13 Bm W1.r.items cap2],[]⟩⟩) ?_ ?_
 ·skip
  refine w_ (m_ (h:=Ah (h:=e_ (?_))));refine AA rfl (fun hb3=>?_) (fun hb3=>?_)
  ·have hc3:=bp hb3;have he1:(FT s (At s.tab pid) c).2.2=0:=by simpa using hc3
   refine AX (m_ (h:=?_));refine A8 rfl (DN [0,1] rfl (.cons _ _ _ _ _ rfl (AM _) .nil) (by decide) (.cons _ _ _ _ _ rfl rfl (.cons _ _ _ _ _ rfl (FU B3 _ _ _) .nil)) (bW W1 cap (by rw[hWs];exact hv) (by rw[hWs];exact hm) (by rw[hWs];exact ht) hwf.1 (by rw[hWc,hwf.2.1,hwf.2.2,hzl];omega)) ?_);rintro r bc tc ⟨rfl,rfl,rfl⟩;refine⟨rfl,_,Gp rfl (D4 W1).1 cap,?_⟩;refine a_ (h:=AT (?_));refine AG ?_
   first|exact⟨_,⟨(D4 W1).1,(D4 W1).2, .inr ⟨he1,rfl,rfl⟩,rfl⟩,B4 6 0 rfl rfl rfl (by simp[Ai,Ac,Af,Bi B3,C5,WA,IB,CX,CB,Jz,K0]) ((by repeat (first|exact Sub.nil|refine B9 rfl rfl ?_|refine BD ?_|refine BE rfl ?_|refine BF rfl ?_)))⟩|exact⟨_,⟨W1,_, .inl ⟨he1,rfl⟩,rfl⟩,B4 6 0 rfl rfl rfl (by simp[Ai,Ac,Af,Bi B3,C5,WA,IB,CX,CB,Jz,K0]) ((by repeat (first|exact Sub.nil|refine B9 rfl rfl ?_|refine BD ?_|refine BE rfl ?_|refine BF rfl ?_)))⟩
  have hc3:=bp hb3;have he1:¬(FT s (At s.tab pid) c).2.2=0:=by simpa using hc3
  refine BH (?_);refine AG ?_
  first|exact⟨_,⟨(D4 W1).1,(D4 W1).2, .inr ⟨he1,rfl,rfl⟩,rfl⟩,B4 6 0 rfl rfl rfl (by simp[Ai,Ac,Af,Bi B3,C5,WA,IB,CX,CB,Jz,K0]) ((by repeat (first|exact Sub.nil|refine B9 rfl rfl ?_|refine BD ?_|refine BE rfl ?_|refine BF rfl ?_)))⟩|exact⟨_,⟨W1,_, .inl ⟨he1,rfl⟩,rfl⟩,B4 6 0 rfl rfl rfl (by simp[Ai,Ac,Af,Bi B3,C5,WA,IB,CX,CB,Jz,K0]) ((by repeat (first|exact Sub.nil|refine B9 rfl rfl ?_|refine BD ?_|refine BE rfl ?_|refine BF rfl ?_)))⟩
 rintro S ⟨W2,E2,hQ,rfl⟩;refine q_ (w_ (m_ (h:=Bf (h:=e_ (?_)))));refine AA rfl (fun hb4=>?_) (fun hb4=>?_)
 ·have hc4:=bp hb4;have he2:E2≠0:=by simpa using hc4
  have hrun:ED s pid c=(s,{FD with exit:=GK E2,items:=W1.r.items}):=by
   rw[ED,if_neg hno,if_neg (by simp[hck])];rcases hQ with⟨q1,q2⟩|⟨q1,q2,q3⟩
   ·rw[if_pos q1,←q2,hW1];rfl
   rw[if_neg (by simp[q1]),←hW1,←q3,if_pos he2,hW1];rfl
  refine BR (fun S=>S=⟨look [(6, .bp 0 0),(7, .bp 1 0)],⟨[CB s,JK {FD with exit:=GK E2} (.sl 13 (W1.r.items.map Bm) none)],[]⟩⟩) ?_ ?_
  ·skip
   refine AX (l_ (h:=?_));refine A8 rfl (AN (My s hsb ht) ?_);rintro r rfl;refine m_ (h:=?_);refine A8 rfl (bV rfl ?_);refine m_ (h:=?_);refine A8 rfl (Em (y:= .agg (JK {FD with exit:=GK E2} (.bs 5 0 13 W1.r.items.length cap2))) (D8 ⟨rfl,rfl⟩) ?_);refine s_ (h:=s_ (h:=AT (?_)));refine AG ?_;refine⟨_,rfl,(E7 [3,4,5] (rows:=[CB s,JK {FD with exit:=GK E2} (.bs 2 0 13 W1.r.items.length cap2),LB 13 Bm W1.r.items cap2]) (l:=[(6, .bp 0 0),(7, .bp 1 0)]) (fun i hi=>absurd hi (Nat.not_lt_zero i)) (by decide) (.cons _ _ _ _ _ rfl rfl (.cons _ _ _ _ _ rfl rfl (.cons _ _ _ _ _ rfl (GH B3 _ _ _) .nil))) (by repeat (first|exact SubK.nil|refine SubK.cons _ _ _ _ rfl (AM _) ?_))).trans (Fx 2 1 rfl (congrArg (fun x=>[CB s,JK {FD with exit:=GK E2} x]) (PF B3 rfl rfl hcp2)) (.cons _ _ _ _ rfl (AM _) (.cons _ _ _ _ rfl (AM _) .nil)))⟩
  rintro S rfl;refine A4 (A9 (?_));refine BS (r:=Tt (ED s pid c)) none (h5:=(by rw[hrun];exact(by repeat (first|exact AM _|exact LeA.nil _|exact LeL.refl _|refine LeA.agg ?_|refine LeA.tup ?_|exact LeL.nil|refine LeL.cons ?_ ?_|exact LeA.any _)))) (h6:=⟨rfl,rfl,rfl⟩)
 have hc4:=bp hb4;have he2:E2=0:=by simpa using hc4
 have hlen2:W2.r.items.length≤cap:=by
  rcases hQ with⟨q1,q2⟩|⟨q1,q2,q3⟩
  ·exact absurd (q2.symm.trans he2) q1
  rw[q2,bU (by rw[hWc];exact h6)];exact hcap
 have hrun:ED s pid c=(W2.s,W2.r):=by
  rcases hQ with⟨q1,q2⟩|⟨q1,q2,q3⟩
  ·exact absurd (q2.symm.trans he2) q1
  rw[ED,if_neg hno,if_neg (by simp[hck]),if_neg (by simp[q1]),←hW1,←q3,if_neg (by simp[he2]),q2]
 refine AO (?_);refine BR (fun S=>S=⟨look [(6, .bp 0 0),(7, .bp 1 0)],⟨[CB W2.s,JK W2.r (.sl 13 (W2.r.items.map Bm) none)],[]⟩⟩) ?_ ?_
 ·skip
  refine Bo ([(0,WA W2 cap)]) 10 (h:=AQ 0 (h:=BL 1 (h:=AJ 2 (h:=AF 3 (h:=AQ 4 (h:=BL 5 (h:=AJ 6 (h:=AF 7 (h:=?_)))))))));refine BA 8 rfl (B1 rfl rfl rfl rfl rfl rfl (by repeat constructor) (by repeat constructor) ?_);refine o_ (h:=?_);refine BA 9 rfl (B1 rfl rfl rfl rfl rfl rfl (by repeat constructor) (by repeat constructor) ?_);refine o_ (h:=z_ (h:=?_));refine AG ?_;refine⟨_,rfl,(E7 [3,4,1] (rows:=[CB W2.s,JK W2.r (.bs 2 0 13 W2.r.items.length cap),LB 13 Bm W2.r.items cap]) (l:=[(6, .bp 0 0),(7, .bp 1 0)]) (fun i hi=>absurd hi (Nat.not_lt_zero i)) (by decide) (.cons _ _ _ _ _ rfl rfl (.cons _ _ _ _ _ rfl rfl (.cons _ _ _ _ _ rfl (GH B3 _ _ _) .nil))) (by repeat (first|exact SubK.nil|refine SubK.cons _ _ _ _ rfl (AM _) ?_))).trans (Fx 2 1 rfl (congrArg (fun x=>[CB W2.s,JK W2.r x]) (PF B3 rfl rfl hlen2)) (.cons _ _ _ _ rfl (AM _) (.cons _ _ _ _ rfl (AM _) .nil)))⟩
 rintro S rfl;refine A4 (?_);refine AD ?_;rw[hrun];rfl
end
structure Wch where
 kind:Int
 dir:A6
 name:AB
 file:A6
deriving DecidableEq
def FH:Wch:=⟨0,(0,0),⟨#[]⟩,(0,0)⟩
def CL(w:Wch):List AV:=[.v (.int .i64 w.kind), .v (.int .i64 w.dir.1), .v (.int .i64 w.dir.2), .v (.string w.name), .v (.int .i64 w.file.1), .v (.int .i64 w.file.2)]
def JL(s:Spc)(a:A6):Bool:=Al s.files a&&Bz s a.1
def K1(s:Spc)(k:Int)(p:AB):Wch×Int:=
 if(k≠1∧k≠2)∨F8 p.data.toList=false then(FH,22)
 else if(BY s (0,0) p (decide (k=2))).2≠0 then(FH,(BY s (0,0) p (decide (k=2))).2)
 else if k=2 then
  (if(BY s (0,0) p true).1.ex=false then(FH,2)else if Al s.files (BY s (0,0) p true).1.file=false then(FH,20)
  else(⟨k,(0,0),⟨#[]⟩,(BY s (0,0) p true).1.file⟩,0))
 else if(BY s (0,0) p false).1.name=⟨#[]⟩then(FH,22)
 else(⟨k,(BY s (0,0) p false).1.dir,(BY s (0,0) p false).1.name,(AK s.files (BY s (0,0) p false).1.dir (BY s (0,0) p false).1.name).1⟩,0)
def LW(s:Spc)(a b:A6):Bool:=decide (a∈B8 s (BM s.files) b)
def CY(s:Spc)(w:Wch)(dir:A6)(name:AB)(file:A6):Bool:=
 if w.kind=1 then(decide (w.file≠(0,0))&&decide (file=w.file))||(decide (name≠⟨#[]⟩)&&decide (dir=w.dir)&&decide (name=w.name))
 else if w.kind=2 then LW s w.file dir||LW s w.file file else false
def Cz(w:Wch):A6:=if w.kind=2 then w.file else w.dir
def JM(s:Spc)(w:Wch):Wch×Bool:=
 if(w.kind≠1∧w.kind≠2)∨JL s (Cz w)=false then(FH,false)
 else if w.kind=1 then({w with file:=(AK s.files w.dir w.name).1},true)else(w,true)
def PU(w:Wch)(l:List DP):Wch:=if w.kind=1 then{w with file:=l.foldl (fun a c=>if c.1=w.dir∧c.2.1=w.name then c.2.2.2 else a) w.file}else w
def N0(w:Wch)(gone:Int)(l:List DP):Wch×Bool:=
 if(w.kind≠1∧w.kind≠2)∨(gone≠0∧gone=(Cz w).1)∨((l.any fun c=>decide (c.2.2.1=Cz w))=true∧(l.any fun c=>decide (c.2.2.2=Cz w))=false)then(FH,false)
 else(PU w l,true)
theorem K4(a b:A6)(w:World):(binOp .eql 33 (.agg #[.int .i64 a.1, .int .i64 a.2]) (.agg #[.int .i64 b.1, .int .i64 b.2])).run prog w= .ok (.bool (decide (a=b))) w:=Je a.1 a.2 b.1 b.2 w
theorem Tx(a b:A6)(w:World):(binOp .neq 33 (.agg #[.int .i64 a.1, .int .i64 a.2]) (.agg #[.int .i64 b.1, .int .i64 b.2])).run prog w= .ok (.bool (!decide (a=b))) w:=Nu a.1 a.2 b.1 b.2 w
def PV(R:Wch×Int):AV:= .tup [.agg (CL R.1), .v (.int .i64 R.2)]
def PW(R:Wch×Bool):AV:= .tup [.agg (CL R.1), .v (.bool R.2)]
theorem bY(s:Spc)(k:Int)(p:AB)(F:Fnd×Int)(hF:BY s (0,0) p (decide (k=2))=F):K1 s k p=if(k≠1∧k≠2)∨F8 p.data.toList=false then(FH,22)else if F.2≠0 then(FH,F.2)
    else if k=2 then(if F.1.ex=false then(FH,2)else if Al s.files F.1.file=false then(FH,20)else(⟨k,(0,0),⟨#[]⟩,F.1.file⟩,0))
    else if F.1.name=⟨#[]⟩then(FH,22)else(⟨k,F.1.dir,F.1.name,(AK s.files F.1.dir F.1.name).1⟩,0):=by
 unfold K1;rw[hF];by_cases h:k=2
 ·rw[decide_eq_true h]at hF;simp only[if_pos h,hF]
 rw[decide_eq_false h]at hF;simp only[if_neg h,hF]
theorem bZ{f:AR}{dir:A6}{name:AB}(h:(AK f dir name).2≠0):(AK f dir name).1=(0,0):=by
 unfold AK at h ⊢;split
 ·rfl
 rename_i n e;rw[e]at h;simp only at h;split at h
 ·rename_i c;rw[if_pos c];split
  ·rfl
  rename_i e2;rw[e2]at h;exact absurd rfl h
 rename_i c;rw[if_neg c]
section
theorem Ty(s:AB)(hs:s.size≤60000):AFn prog 52 [.v (.string s)] (fun r=>r= .v (.bool (F8 s.data.toList))):=M0 (us:=[.string s]) fun w=>Zf s w (by omega)
theorem PX(s:Spc)(a:A6)(hs:SpcB s):AFn prog 47 [.agg (As s), .agg (A7 a)] (fun r=>r= .v (.bool (Al s.files a))):=by
 refine enter Tryz.func47 rfl rfl rfl rfl rfl 0 rfl ?_;refine w_ (b_ (h:=b_ (h:=a_ (h:=e_ (w_ (f_ (h:=l_ (h:=l_ (h:=?_)))))))));refine A8 rfl (AN (G5 s.files a hs.files) ?_);rintro r rfl;refine m_ (h:=x_ (h:=x_ (h:=Ak (h:=s_ (h:=a_ (h:=e_ (w_ (m_ (h:=m_ (h:=?_))))))))));refine Aw true rfl rfl (fun hb1=>?_) (fun hb1=>?_)
 ·have hc1:=bp hb1;refine f_ (h:=l_ (h:=Ah (h:=AY (h:=a_ (h:=e_ (A4 (?_)))))));refine AD ?_
  first|(exfalso;first|contradiction|omega)|(exact vb (by simp[Fb, *]))
 have hc1:=bp hb1;refine A3 (h:=A3 (h:=A3 (h:=Aj (h:=a_ (h:=e_ (A4 (?_)))))));refine AD ?_
 first|(exfalso;first|contradiction|omega)|(exact vb (by simp[Fb, *]))
theorem Tz(s:Spc)(a:A6)(hs:SpcB s):AFn prog 44 [.agg (As s), .agg (A7 a)] (fun r=>r= .v (.bool (JL s a))):=by
 refine enter Tryz.func44 rfl rfl rfl rfl rfl 0 rfl ?_;refine w_ (b_ (h:=b_ (h:=a_ (h:=e_ (w_ (l_ (h:=l_ (h:=?_))))))));refine A8 rfl (AN (PX s a hs) ?_);rintro r rfl;refine m_ (h:=?_);refine Aw true rfl rfl (fun hb1=>?_) (fun hb1=>?_)
 ·have hc1:=bp hb1;refine l_ (h:=f_ (h:=l_ (h:=?_)));refine Ax (AN (Qo s a.1 hs) ?_);rintro r rfl;refine AY (h:=a_ (h:=e_ (A4 (?_))));refine AD ?_
  first|(exfalso;first|contradiction|omega)|(exact vb (by simp[JL, *]))
 have hc1:=bp hb1;refine A3 (h:=A3 (h:=A3 (h:=A3 (h:=Aj (h:=a_ (h:=e_ (A4 (?_))))))));refine AD ?_
 first|(exfalso;first|contradiction|omega)|(exact vb (by simp[JL, *]))
theorem U0(s:Spc)(a:A6)(name:AB)(hs:SpcB s):AFn prog 46 [.agg (As s), .agg (A7 a), .v (.string name)] (fun r=>r= .agg (A7 (AK s.files a name).1)):=by
 refine enter Tryz.func46 rfl rfl rfl rfl rfl 0 rfl ?_;refine w_ (b_ (h:=b_ (h:=Ak (h:=e_ (w_ (f_ (h:=l_ (h:=l_ (h:=m_ (h:=?_))))))))));refine A8 rfl (AN (PO s.files a name hs.files) ?_);rintro r rfl;refine m_ (h:=x_ (h:=x_ (h:=Ak (h:=s_ (h:=a_ (h:=e_ (q_ (w_ (m_ (h:=Bf (h:=e_ (?_))))))))))));refine AA rfl (fun hb1=>?_) (fun hb1=>?_)
 ·have hc1:=bp hb1;refine w_ (Aa (h:=s_ (h:=e_ (A4 (A9 (?_))))));refine AD ?_;rw[bZ (by simpa using hc1)];rfl
 have hc1:=bp hb1;refine AO (w_ (l_ (h:=s_ (h:=e_ (A4 (?_))))));refine AD ?_;rfl
theorem PY(w:Wch)(hk:w.kind=1∨w.kind=2):AFn prog 45 [.agg (CL w)] (fun r=>r= .agg (A7 (Cz w))):=by
 refine enter Tryz.func45 rfl rfl rfl rfl rfl 0 rfl ?_;refine w_ (b_ (h:=Ak (h:=e_ (q_ (w_ (f_ (h:=l_ (h:=Ah (h:=e_ (?_))))))))));refine AA rfl (fun hb1=>?_) (fun hb1=>?_)
 ·have hc1:=bp hb1;refine w_ (f_ (h:=l_ (h:=s_ (h:=e_ (A4 (A9 (?_)))))));refine AD ?_;rw[Cz,if_neg (by omega)];rfl
 have hc1:=bp hb1;refine AO (w_ (f_ (h:=l_ (h:=s_ (h:=e_ (A4 (?_)))))));refine AD ?_;rw[Cz,if_pos (by omega)];rfl
theorem U1(s:Spc)(k:Int)(p:AB)(hv:SpcV s)(hm:s.mounts.length≤1000)(hp:p.size≤50000):AFn prog 20 [.agg (As s), .v (.int .i64 k), .v (.string p)] (fun r=>r=PV (K1 s k p)):=by
 have hsb:=hv.b hm;obtain⟨F,hF⟩:∃F,BY s (0,0) p (decide (k=2))=F:=⟨_,rfl⟩;have hw:=bY s k p F hF;have hfind:AFn prog 53 [.agg (As s), .agg (A7 (0,0)), .v (.string p), .v (.bool (decide (k=2)))] (fun r=>r= .tup [.agg (Aq F.1), .v (.int .i64 F.2)]):=by rw[←hF];exact aG s (0,0) p _ (hv.n hm) hv (by omega)
 refine enter Tryz.func20 rfl rfl rfl rfl rfl 0 rfl ?_;refine w_ (b_ (h:=Ak (h:=a_ (h:=e_ (q_ (?_))))));refine BR (fun S=>S=⟨look [(1, .v (.int .i64 k)),(2, .v (.string p)),(3, .bp 0 0),(6, .bp 1 0),(20, .v (.bool ((!decide (k=1)&& !decide (k=2))|| !F8 p.data.toList)))],⟨[As s,[.v (.int .i64 0), .v (.int .i64 0), .v (.int .i64 0), .v (.string ⟨#[]⟩), .v (.int .i64 0), .v (.int .i64 0)]],[]⟩⟩) ?_ ?_
 ·skip
  refine AX (m_ (h:=Bf (h:=m_ (h:=?_))));refine Aw true rfl rfl (fun hb1=>?_) (fun hb1=>?_)
  ·have hc1:=bp hb1;refine m_ (h:=Bf (h:=AY (h:=m_ (h:=?_))));refine Aw false rfl rfl (fun hb2=>?_) (fun hb2=>?_)
   ·have hc2:=bp hb2;refine A3 (h:=A3 (h:=A3 (h:=AY (h:=AT (?_)))));refine AG ?_;exact⟨_,rfl,Cq 2 0 rfl⟩
   have hc2:=bp hb2;refine m_ (h:=?_);refine Ax (AN (Ty p (by omega)) ?_);rintro r rfl;refine Bt (h:=Aj (h:=AT (?_)));refine AG ?_;exact⟨_,rfl,Cq 2 0 rfl⟩
  have hc1:=bp hb1;refine A3 (h:=A3 (h:=Aj (h:=m_ (h:=m_ (h:=?_)))));refine Ax (AN (Ty p (by omega)) ?_);rintro r rfl;refine Bt (h:=Aj (h:=AT (?_)));refine AG ?_;exact⟨_,rfl,Cq 2 0 rfl⟩
 rintro S rfl;refine AA rfl (fun hb3=>?_) (fun hb3=>?_)
 ·have hc3:=bp hb3;have k1:(k≠1∧k≠2)∨F8 p.data.toList=false:=by simpa using hc3
  refine w_ (Aa (h:=s_ (h:=a_ (h:=e_ (A4 (A9 (?_)))))));refine AD ?_;rw[hw,if_pos k1];rfl
 have hc3:=bp hb3;have k1:¬((k≠1∧k≠2)∨F8 p.data.toList=false):=by simpa using hc3
 refine AO (w_ (l_ (h:=Aa (h:=m_ (h:=m_ (h:=Ah (h:=?_)))))));refine A8 rfl (AN (hfind) ?_);rintro r rfl;refine m_ (h:=x_ (h:=x_ (h:=Ak (h:=s_ (h:=a_ (h:=e_ (q_ (w_ (m_ (h:=Bf (h:=e_ (?_))))))))))));refine AA rfl (fun hb4=>?_) (fun hb4=>?_)
 ·have hc4:=bp hb4;have k2:F.2≠0:=by simpa using hc4
  refine w_ (Aa (h:=m_ (h:=s_ (h:=a_ (h:=e_ (A4 (A9 (?_))))))));refine AD ?_;rw[hw,if_neg k1,if_pos k2];rfl
 have hc4:=bp hb4;have k2:¬F.2≠0:=by simpa using hc4
 refine AO (q_ (w_ (m_ (h:=Ah (h:=e_ (?_))))));refine AA rfl (fun hb5=>?_) (fun hb5=>?_)
 ·have hc5:=bp hb5;have k3:¬k=2:=by omega
  refine q_ (w_ (f_ (h:=l_ (h:=Ah (h:=e_ (?_))))));refine AA rfl (fun hb6=>?_) (fun hb6=>?_)
  ·have hc6:=bp hb6;have k6:F.1.name=⟨#[]⟩:=hc6;refine w_ (Aa (h:=s_ (h:=a_ (h:=e_ (A4 (A9 (A9 (?_))))))));refine AD ?_;rw[hw,if_neg k1,if_neg k2,if_neg k3,if_pos k6];rfl
  have hc6:=bp hb6;have k6:¬F.1.name=⟨#[]⟩:=hc6;refine AO (q_ (Bo ([(0,As s),(2,Aq F.1)]) 14 (h:=AQ 0 (h:=AJ 1 (h:=?_)))))
  first|refine AF 2 (h:=?_)|refine B5 2 rfl (fun _ hS=>Cv (row:=As s) rfl (kb hS rfl) (BK rfl) rfl ⟨rfl,rfl⟩) ?_
  refine AJ 3 (h:=?_)
  first|refine AF 4 (h:=?_)|refine B5 4 rfl (fun _ hS=>Cv (row:=As s) rfl (kb hS rfl) (BK rfl) rfl ⟨rfl,rfl⟩) ?_
  first|refine AF 5 (h:=?_)|refine B5 5 rfl (fun _ hS=>Cv (row:=As s) rfl (kb hS rfl) (BK rfl) rfl ⟨rfl,rfl⟩) ?_
  refine AJ 6 (h:=?_)
  first|refine AF 7 (h:=?_)|refine B5 7 rfl (fun _ hS=>Cv (row:=As s) rfl (kb hS rfl) (BK rfl) rfl ⟨rfl,rfl⟩) ?_
  refine AJ 8 (h:=?_)
  first|refine AF 9 (h:=?_)|refine B5 9 rfl (fun _ hS=>Cv (row:=As s) rfl (kb hS rfl) (BK rfl) rfl ⟨rfl,rfl⟩) ?_
  refine c_ 10 rfl (AN (U0 s F.1.dir F.1.name hsb) ?_);rintro r rfl;refine o_ (h:=Fy 11 (h:=?_));refine BA 12 rfl (B1 rfl rfl rfl rfl rfl rfl (by repeat constructor) (by repeat constructor) ?_);refine o_ (h:=BO 13 (h:=z_ (h:=t_ (A4 (A9 (?_))))));refine AD ?_;rw[hw,if_neg k1,if_neg k2,if_neg k3,if_neg k6];rfl
 have hc5:=bp hb5;have k3:k=2:=by simp at k1;omega
 refine AO (q_ (w_ (f_ (h:=l_ (h:=Bt (h:=e_ (?_)))))));refine AA rfl (fun hb7=>?_) (fun hb7=>?_)
 ·have hc7:=bp hb7;have k4:F.1.ex=false:=by simpa using hc7
  refine w_ (Aa (h:=s_ (h:=a_ (h:=e_ (A4 (A9 (?_)))))));refine AD ?_;rw[hw,if_neg k1,if_neg k2,if_pos k3,if_pos k4];rfl
 have hc7:=bp hb7;have k4:¬F.1.ex=false:=by simpa using hc7
 refine AO (q_ (w_ (l_ (h:=f_ (h:=l_ (h:=?_))))));refine A8 rfl (AN (PX s F.1.file hsb) ?_);rintro r rfl;refine Bt (h:=e_ (?_));refine AA rfl (fun hb8=>?_) (fun hb8=>?_)
 ·have hc8:=bp hb8;have k5:Al s.files F.1.file=false:=by simpa using hc8
  refine w_ (Aa (h:=s_ (h:=a_ (h:=e_ (A4 (A9 (?_)))))));refine AD ?_;rw[hw,if_neg k1,if_neg k2,if_pos k3,if_neg k4,if_pos k5];rfl
 have hc8:=bp hb8;have k5:¬Al s.files F.1.file=false:=by simpa using hc8
 refine AO (w_ (m_ (h:=f_ (h:=l_ (h:=Aa (h:=s_ (h:=a_ (h:=e_ (A4 (?_))))))))));refine AD ?_;rw[hw,if_neg k1,if_neg k2,if_pos k3,if_neg k4,if_neg k5];rfl
end
def Hk:List AV:=[.v (.int .i64 0), .v (.int .i64 0), .v (.int .i64 0), .v (.string ⟨#[]⟩), .v (.int .i64 0), .v (.int .i64 0)]
theorem U2{α:Type}{l:List α}{j:Nat}{x:α}(h:l[j]?=some x)(p:α→Bool):(l.take (j+1)).any p=((l.take j).any p||p x):=by
 rw[List.take_add_one,h,List.any_append];simp
def JN(w:Wch)(l:List DP):A6:=l.foldl (fun a c=>if c.1=w.dir∧c.2.1=w.name then c.2.2.2 else a) w.file
theorem U3{w:Wch}{l:List DP}{j:Nat}{c:DP}(h:l[j]?=some c):JN w (l.take (j+1))=if(decide (c.1=w.dir)&&decide (c.2.1=w.name))=true then c.2.2.2 else JN w (l.take j):=by
 unfold JN;rw[List.take_add_one,h,List.foldl_append];simp
def LX(w:Wch)(l:List DP):A6:=if w.kind=1 then JN w l else w.file
theorem cA(w:Wch)(l:List DP):PU w l={w with file:=LX w l}:=by
 unfold PU LX JN;split<;>rfl
def GM(w:Wch)(g:Int):Bool:=(!decide (w.kind=1)&& !decide (w.kind=2))||(!decide (g=0)&&decide (g=(Cz w).1))
def Fn(w:Wch)(l:List DP):Bool:=l.any fun c=>decide (c.2.2.1=Cz w)
def Fo(w:Wch)(l:List DP):Bool:=l.any fun c=>decide (c.2.2.2=Cz w)
theorem U4{w:Wch}{l:List DP}{j:Nat}{c:DP}(h:l[j]?=some c):Fn w (l.take (j+1))=(Fn w (l.take j)||decide (c.2.2.1=Cz w)):=U2 h _
theorem U5{w:Wch}{l:List DP}{j:Nat}{c:DP}(h:l[j]?=some c):Fo w (l.take (j+1))=(Fo w (l.take j)||decide (c.2.2.2=Cz w)):=U2 h _
theorem cB(w:Wch)(g:Int)(l:List DP):N0 w g l=if(GM w g||(Fn w l&& !Fo w l))=true then(FH,false)else({w with file:=LX w l},true):=by
 rw[←cA];unfold N0
 have:((w.kind≠1∧w.kind≠2)∨(g≠0∧g=(Cz w).1)∨((l.any fun c=>decide (c.2.2.1=Cz w))=true∧(l.any fun c=>decide (c.2.2.2=Cz w))=false))↔(GM w g||(Fn w l&& !Fo w l))=true:=by
  unfold GM Fn Fo;simp[or_assoc]
 by_cases h:(GM w g||(Fn w l&& !Fo w l))=true
 ·rw[if_pos h,if_pos (this.2 h)]
 rw[if_neg h,if_neg (fun k=>h (this.1 k))]
section
theorem U6(s:Spc)(w:Wch)(hs:SpcB s):AFn prog 14 [.agg (As s), .agg (CL w)] (fun r=>r=PW (JM s w)):=by
 refine enter Tryz.func14 rfl rfl rfl rfl rfl 0 rfl ?_;refine w_ (b_ (h:=b_ (h:=Ak (h:=a_ (h:=e_ (q_ (?_)))))));refine BR (fun S=>S=⟨look [(2, .bp 0 0),(3, .bp 1 0),(4, .bp 2 0),(20, .v (.bool ((!decide (w.kind=1)&& !decide (w.kind=2))|| !JL s (Cz w))))],⟨[As s,CL w,Hk],[]⟩⟩) ?_ ?_
 ·skip
  refine Dp 15 (h:=AJ 0 (h:=AF 1 (h:=MA 2 (h:=AQ 3 (h:=?_)))));refine Gu (j:=3) rfl (fun hb1=>?_) (fun hb1=>?_)
  ·have hc1:=bp hb1;refine AJ 4 (h:=AF 5 (h:=MA 6 (h:=H4 7 (h:=AQ 8 (h:=?_)))));refine Gu (j:=8) rfl (fun hb2=>?_) (fun hb2=>?_)
   ·have hc2:=bp hb2;refine Be 9 (h:=Be 10 (h:=Be 11 (h:=Be 12 (h:=Be 13 (h:=H4 14 (h:=z_ (h:=?_)))))));refine AG ?_;exact⟨_,rfl,Cq 3 0 rfl⟩
   have hc2:=bp hb2;refine AF 9 (h:=AF 10 (h:=?_));refine c_ 11 rfl (AN (PY w (by omega)) ?_);rintro r rfl;refine o_ (h:=?_);refine c_ 12 rfl (AN (Tz s (Cz w) hs) ?_);rintro r rfl;refine o_ (h:=M9 13 (h:=FP 14 (h:=z_ (h:=?_))));refine AG ?_;exact⟨_,rfl,Cq 3 0 rfl⟩
  have hc1:=bp hb1;refine Be 4 (h:=Be 5 (h:=Be 6 (h:=FP 7 (h:=AQ 8 (h:=AF 9 (h:=AF 10 (h:=?_)))))));refine c_ 11 rfl (AN (PY w (by omega)) ?_);rintro r rfl;refine o_ (h:=?_);refine c_ 12 rfl (AN (Tz s (Cz w) hs) ?_);rintro r rfl;refine o_ (h:=M9 13 (h:=FP 14 (h:=z_ (h:=?_))));refine AG ?_;exact⟨_,rfl,Cq 3 0 rfl⟩
 rintro S rfl;refine AA rfl (fun hb3=>?_) (fun hb3=>?_)
 ·have hc3:=bp hb3;have k1:(w.kind≠1∧w.kind≠2)∨JL s (Cz w)=false:=by simpa using hc3
  refine w_ (Aa (h:=s_ (h:=a_ (h:=e_ (A4 (A9 (?_)))))));refine AD ?_;rw[JM,if_pos k1];rfl
 have hc3:=bp hb3;have k1:¬((w.kind≠1∧w.kind≠2)∨JL s (Cz w)=false):=by simpa using hc3
 refine AO (q_ (w_ (f_ (h:=l_ (h:=Ah (h:=e_ (?_)))))));refine AA rfl (fun hb4=>?_) (fun hb4=>?_)
 ·have hc4:=bp hb4;have k2:w.kind=1:=hc4;refine AX (l_ (h:=f_ (h:=l_ (h:=f_ (h:=l_ (h:=?_))))));refine A8 rfl (AN (U0 s w.dir w.name hs) ?_);rintro r rfl;refine f_ (h:=s_ (h:=e_ (w_ (l_ (h:=s_ (h:=a_ (h:=e_ (A4 (?_)))))))));refine AD ?_;rw[JM,if_neg k1,if_pos k2];rfl
 have hc4:=bp hb4;have k2:¬w.kind=1:=hc4;refine AO (w_ (l_ (h:=s_ (h:=a_ (h:=e_ (A4 (?_)))))));refine AD ?_;rw[JM,if_neg k1,if_neg k2];rfl
theorem cC(w:Wch)(r:Res)(hl:r.changes.length≤1000):AFn prog 31 [.agg (CL w), .agg (Ed r)] (fun x=>x=PW (N0 w r.gone r.changes)):=by
 rw[cB];refine enter Tryz.func31 rfl rfl rfl rfl rfl 0 rfl ?_;refine w_ (b_ (h:=b_ (h:=Ak (h:=a_ (h:=e_ (q_ (?_)))))));refine BR (fun S=>S=⟨look [(2, .bp 0 0),(3, .bp 1 0),(4, .bp 2 0),(20, .v (.bool (!decide (w.kind=1)&& !decide (w.kind=2))))],⟨[CL w,Ed r,Hk],[]⟩⟩) ?_ ?_
 ·skip
  refine AX (f_ (h:=l_ (h:=Bf (h:=m_ (h:=?_)))));refine Aw true rfl rfl (fun hb1=>?_) (fun hb1=>?_)
  ·have hc1:=bp hb1;refine f_ (h:=l_ (h:=Bf (h:=AY (h:=AT (?_)))));refine AG ?_;exact⟨_,rfl,Cq 3 0 rfl⟩
  have hc1:=bp hb1;refine A3 (h:=A3 (h:=A3 (h:=Aj (h:=AT (?_)))));refine AG ?_;exact⟨_,rfl,Cq 3 0 rfl⟩
 rintro S rfl;refine AA rfl (fun hb2=>?_) (fun hb2=>?_)
 ·have hc2:=bp hb2;have k1:(GM w r.gone||(Fn w r.changes&& !Fo w r.changes))=true:=by simp[GM]at hc2 ⊢;simp[hc2]
  refine w_ (Aa (h:=s_ (h:=a_ (h:=e_ (A4 (A9 (?_)))))));refine AD ?_;rw[if_pos k1];rfl
 have hc2:=bp hb2;have k0:w.kind=1∨w.kind=2:=by simp at hc2;omega
 refine AO (w_ (l_ (h:=?_)));refine A8 rfl (AN (PY w k0) ?_);rintro r rfl;refine Ak (h:=s_ (h:=e_ (q_ (?_))));refine BR (fun S=>S=⟨look [(2, .bp 0 0),(3, .bp 1 0),(4, .bp 2 0),(6, .bp 3 0),(33, .v (.bool (!decide (r.gone=0)&&decide (r.gone=(Cz w).1))))],⟨[CL w,Ed r,Hk,A7 (Cz w)],[]⟩⟩) ?_ ?_
 ·skip
  refine AX (f_ (h:=l_ (h:=Bf (h:=m_ (h:=?_)))));refine Aw true rfl rfl (fun hb3=>?_) (fun hb3=>?_)
  ·have hc3:=bp hb3;refine f_ (h:=l_ (h:=f_ (h:=l_ (h:=Ah (h:=AY (h:=AT (?_)))))));refine AG ?_;exact⟨_,rfl,Cq 4 0 rfl⟩
  have hc3:=bp hb3;refine A3 (h:=A3 (h:=A3 (h:=A3 (h:=A3 (h:=Aj (h:=AT (?_)))))));refine AG ?_;exact⟨_,rfl,Cq 4 0 rfl⟩
 rintro S rfl;refine AA rfl (fun hb4=>?_) (fun hb4=>?_)
 ·have hc4:=bp hb4;have k1:(GM w r.gone||(Fn w r.changes&& !Fo w r.changes))=true:=by unfold GM;rw[hb4];simp
  refine w_ (Aa (h:=s_ (h:=a_ (h:=e_ (A4 (A9 (?_)))))));refine AD ?_;rw[if_pos k1];rfl
 have hc4:=bp hb4;have k1:GM w r.gone=false:=by unfold GM;rw[hb4];rcases k0 with h|h<;>simp[h]
 refine AO (w_ (a_ (h:=a_ (h:=e_ (q_ (w_ (f_ (h:=l_ (h:=n_ (h:=m_ (h:=e_ (Ap (?_)))))))))))));refine By (fun m S=>∃j:Nat,j≤r.changes.length∧m=r.changes.length - j∧S=⟨look [(2, .bp 0 0),(3, .bp 1 0),(4, .bp 2 0),(6, .bp 3 0),(7, .v (.bool (Fn w (r.changes.take j)))),(8, .v (.bool (Fo w (r.changes.take j)))),(36, .sl 7 (r.changes.map C2) none),(37, .v (.int .i64 ((r.changes.map C2).length:Int))),(38, .v (.int .i64 (j:Int)))],⟨[CL w,Ed r,Hk,A7 (Cz w)],[]⟩⟩) (r.changes.length) ((wk 4 0)) (⟨0,BC _,rfl,rfl⟩) ?_;rintro m S ⟨j,hj,rfl,rfl⟩;refine w_ (BQ (h:=e_ (q_ (?_))));refine AA rfl (fun hb5=>?_) (fun hb5=>?_)
 ·have hc5:=bp hb5;obtain⟨hlt,c,hy,hrow, -⟩:=Cp C2 hc5;refine AO (q_ (Ap (w_ (i_ (h:=l_ (h:=Ak (h:=s_ (h:=e_ (?_)))))))));refine BR (fun S=>S=⟨look [(2, .bp 0 0),(3, .bp 1 0),(4, .bp 2 0),(6, .bp 3 0),(7, .v (.bool (Fn w (r.changes.take j)||decide (c.2.2.1=Cz w)))),(8, .v (.bool (Fo w (r.changes.take j)))),(10, .bp 4 0),(36, .sl 7 (r.changes.map C2) none),(37, .v (.int .i64 ((r.changes.map C2).length:Int))),(38, .v (.int .i64 (j:Int)))],⟨[CL w,Ed r,Hk,A7 (Cz w),C2 c],[]⟩⟩) ?_ ?_
  ·skip
   refine AX (m_ (h:=m_ (h:=?_)));refine Aw false rfl rfl (fun hb6=>?_) (fun hb6=>?_)
   ·have hc6:=bp hb6;refine A3 (h:=A3 (h:=A3 (h:=A3 (h:=AY (h:=a_ (h:=AT (?_)))))));refine AG ?_;exact⟨_,rfl,Cq 5 0 rfl⟩
   have hc6:=bp hb6;refine f_ (h:=l_ (h:=l_ (h:=?_)));refine Ax (EQ rfl rfl (by repeat constructor) (by repeat constructor) (fun W=>K4 c.2.2.1 (Cz w) W) (by kernel_rfl) ?_);refine Aj (h:=a_ (h:=AT (?_)));refine AG ?_;exact⟨_,rfl,Cq 5 0 rfl⟩
  rintro S rfl;refine AX (m_ (h:=m_ (h:=?_)));refine Aw false rfl rfl (fun hb7=>?_) (fun hb7=>?_)
  ·have hc7:=bp hb7;refine A3 (h:=A3 (h:=A3 (h:=A3 (h:=AY (h:=a_ (h:=AT (Ay (t_ (AX (BB (h:=m_ (h:=AT (?_)))))))))))));refine AG ?_;refine⟨_,_,?_,⟨j+1,by omega,rfl,rfl⟩,?_⟩
   ·omega
   rw[U4 hy,U5 hy];exact Cq 4 0 rfl
  have hc7:=bp hb7;refine f_ (h:=l_ (h:=l_ (h:=?_)));refine Ax (EQ rfl rfl (by repeat constructor) (by repeat constructor) (fun W=>K4 c.2.2.2 (Cz w) W) (by kernel_rfl) ?_);refine Aj (h:=a_ (h:=AT (Ay (t_ (AX (BB (h:=m_ (h:=AT (?_)))))))));refine AG ?_;refine⟨_,_,?_,⟨j+1,by omega,rfl,rfl⟩,?_⟩
  ·omega
  rw[U4 hy,U5 hy];exact Cq 4 0 rfl
 have hc5:=bp hb5;have e:=D0 C2 hj hc5;subst e;rw[List.take_length];refine Ba (Ao (Ao (Bb (t_ (q_ (?_))))));refine BR (fun S=>S=⟨look [(2, .bp 0 0),(3, .bp 1 0),(4, .bp 2 0),(61, .v (.bool (Fn w r.changes&& !Fo w r.changes)))],⟨[CL w,Ed r,Hk],[]⟩⟩) ?_ ?_
 ·skip
  refine AX (m_ (h:=m_ (h:=?_)));refine Aw true rfl rfl (fun hb8=>?_) (fun hb8=>?_)
  ·have hc8:=bp hb8;refine m_ (h:=Bt (h:=AY (h:=AT (?_))));refine AG ?_;exact⟨_,rfl,Cq 3 0 rfl⟩
  have hc8:=bp hb8;refine A3 (h:=A3 (h:=Aj (h:=AT (?_))));refine AG ?_;exact⟨_,rfl,Cq 3 0 rfl⟩
 rintro S rfl;refine AA rfl (fun hb9=>?_) (fun hb9=>?_)
 ·have hc9:=bp hb9;refine w_ (Aa (h:=s_ (h:=a_ (h:=e_ (A4 (A9 (?_)))))));refine AD ?_;rw[if_pos (by simp[*])];rfl
 have hc9:=bp hb9;refine AO (q_ (w_ (f_ (h:=l_ (h:=Ah (h:=e_ (?_)))))));refine AA rfl (fun hb10=>?_) (fun hb10=>?_)
 ·have hc10:=bp hb10;have k3:w.kind=1:=hc10;refine w_ (f_ (h:=l_ (h:=n_ (h:=m_ (h:=e_ (Ap (?_)))))));refine By (fun m S=>∃j:Nat,j≤r.changes.length∧m=r.changes.length - j∧S=⟨look [(2, .bp 0 0),(3, .bp 1 0),(4, .bp 2 0),(67, .sl 7 (r.changes.map C2) none),(68, .v (.int .i64 ((r.changes.map C2).length:Int))),(69, .v (.int .i64 (j:Int)))],⟨[CL {w with file:=JN w (r.changes.take j)},Ed r,Hk],[]⟩⟩) (r.changes.length) ((wk 3 0)) (⟨0,BC _,rfl,rfl⟩) ?_;rintro m S ⟨j,hj,rfl,rfl⟩;refine w_ (BQ (h:=e_ (q_ (?_))));refine AA rfl (fun hb11=>?_) (fun hb11=>?_)
  ·have hc11:=bp hb11;obtain⟨hlt,c,hy,hrow, -⟩:=Cp C2 hc11;refine AO (q_ (Ap (w_ (i_ (h:=l_ (h:=Ak (h:=s_ (h:=e_ (?_)))))))));refine BR (fun S=>S=⟨look [(2, .bp 0 0),(3, .bp 1 0),(4, .bp 2 0),(12, .bp 3 0),(67, .sl 7 (r.changes.map C2) none),(68, .v (.int .i64 ((r.changes.map C2).length:Int))),(69, .v (.int .i64 (j:Int))),(84, .v (.bool (decide (c.1=w.dir)&&decide (c.2.1=w.name))))],⟨[CL {w with file:=JN w (r.changes.take j)},Ed r,Hk,C2 c],[]⟩⟩) ?_ ?_
   ·skip
    refine AX (f_ (h:=l_ (h:=f_ (h:=l_ (h:=?_)))));refine A8 rfl (EQ rfl rfl (by repeat constructor) (by repeat constructor) (fun W=>K4 c.1 w.dir W) (by kernel_rfl) ?_);refine m_ (h:=?_);refine Aw true rfl rfl (fun hb12=>?_) (fun hb12=>?_)
    ·have hc12:=bp hb12;refine f_ (h:=l_ (h:=f_ (h:=l_ (h:=Ah (h:=AY (h:=AT (?_)))))));refine AG ?_;exact⟨_,rfl,Cq 4 0 rfl⟩
    have hc12:=bp hb12;refine A3 (h:=A3 (h:=A3 (h:=A3 (h:=A3 (h:=Aj (h:=AT (?_)))))));refine AG ?_;exact⟨_,rfl,Cq 4 0 rfl⟩
   rintro S rfl;refine AA rfl (fun hb13=>?_) (fun hb13=>?_)
   ·have hc13:=bp hb13;refine AX (f_ (h:=l_ (h:=f_ (h:=s_ (h:=AT (Ay (t_ (AX (BB (h:=m_ (h:=AT (?_))))))))))));refine AG ?_;refine⟨_,_,?_,⟨j+1,by omega,rfl,rfl⟩,?_⟩
    ·omega
    rw[U3 hy]
    first|(rw[if_pos ‹(decide (c.1=w.dir)&&decide (c.2.1=w.name))=true›];exact B4 3 0 rfl rfl rfl rfl ((by repeat (first|exact Sub.nil|refine B9 rfl rfl ?_|refine BD ?_|refine BE rfl ?_|refine BF rfl ?_))))|(rw[if_neg (by simp[*])];exact B4 3 0 rfl rfl rfl rfl ((by repeat (first|exact Sub.nil|refine B9 rfl rfl ?_|refine BD ?_|refine BE rfl ?_|refine BF rfl ?_))))
   have hc13:=bp hb13;refine BH (Ay (t_ (AX (BB (h:=m_ (h:=AT (?_)))))));refine AG ?_;refine⟨_,_,?_,⟨j+1,by omega,rfl,rfl⟩,?_⟩
   ·omega
   rw[U3 hy]
   first|(rw[if_pos ‹(decide (c.1=w.dir)&&decide (c.2.1=w.name))=true›];exact B4 3 0 rfl rfl rfl rfl ((by repeat (first|exact Sub.nil|refine B9 rfl rfl ?_|refine BD ?_|refine BE rfl ?_|refine BF rfl ?_))))|(rw[if_neg (by simp[*])];exact B4 3 0 rfl rfl rfl rfl ((by repeat (first|exact Sub.nil|refine B9 rfl rfl ?_|refine BD ?_|refine BE rfl ?_|refine BF rfl ?_))))
  have hc11:=bp hb11;have e:=D0 C2 hj hc11;subst e;rw[List.take_length];refine Ba (Ao (Ao (Bb (t_ (w_ (l_ (h:=s_ (h:=a_ (h:=e_ (A4 (?_)))))))))));refine AD ?_;rw[if_neg (by simp[*]),LX,if_pos k3];rfl
 have hc10:=bp hb10;have k3:¬w.kind=1:=hc10;refine AO (w_ (l_ (h:=s_ (h:=a_ (h:=e_ (A4 (?_)))))));refine AD ?_;rw[if_neg (by simp[*]),LX,if_neg k3];rfl
end
theorem U7{s:Spc}{a b:A6}(h:Al s.files b=false):decide (a∈B8 s (BM s.files) b)=false:=by
 have e:B8 s (BM s.files) b=[]:=by
  cases BM s.files with
  |zero=>rfl
  |succ k=>unfold B8;rw[h];rfl
 rw[e];rfl
section
variable {ev:Operand→Option AV}{h:AH}{R:AV→AH→Prop}{d:Option Tmp}{ty:TypeId}{pos:String}{af:Array Edge}{gd:Option (Nat×Bool)}
theorem cF{x ix:Operand}{a b:A6}(j:Nat)(hx:ev x=some (.agg [.v (.int .i64 a.1), .v (.int .i64 a.2), .v (.int .i64 b.1), .v (.int .i64 b.2)]))(hi:ev ix=some (.v (.int .i64 (j:Int))))(hj:j<2)(hR:R (.agg (A7 (if j=0 then a else b))) h):AStep prog ⟨d, .index 113 x ix,ty,pos,af,gd⟩ ev h R:=by
 refine CU (fun _ G w ec _ he=>?_) hR;have h1:=he x (by simp[Op.operands]) _ hx;have h2:=he ix (by simp[Op.operands]) _ hi;simp only[rep]at h1 h2;obtain⟨ys,h3,h4⟩:=h1;simp only[AP,rep]at h4;obtain⟨v1,q1,rfl,rfl,v2,q2,rfl,rfl,v3,q3,rfl,rfl,v4,q4,rfl,rfl,rfl⟩:=h4;have u1:=Tryz.underlying113;have u2:=Tryz.isAgg33;have u3:=Tryz.sizeOf33
 match j,hj with
 |0,_=>
   refine⟨.agg #[.int .i64 a.1, .int .i64 a.2],?_,by simp[rep,AP,A7]⟩;simp[execOp,h2,h3,Instr.index,asIntOf,part]
 |1,_=>
   refine⟨.agg #[.int .i64 b.1, .int .i64 b.2],?_,by simp[rep,AP,A7]⟩;simp[execOp,h2,h3,Instr.index,asIntOf,part]
end
theorem Ey{s:Spc}{w:Wch}{d f:A6}{n:AB}(hk:w.kind=1):CY s w d n f=((!decide (w.file=(0,0))&&decide (w.file=f))||(!decide (n=⟨#[]⟩)&&decide (d=w.dir)&&decide (n=w.name))):=by
 unfold CY;rw[if_pos hk];have e1:decide (w.file≠(0,0))= !decide (w.file=(0,0)):=by simp
 have e2:decide (n≠⟨#[]⟩)= !decide (n=⟨#[]⟩):=by simp
 have e3:decide (f=w.file)=decide (w.file=f):=decide_eq_decide.2 ⟨Eq.symm,Eq.symm⟩;rw[e1,e2,e3]
section
theorem N1(s:Spc)(w:Wch)(y:Itm)(hs:SpcB s):AFn prog 16 [.agg (As s), .agg (CL w), .agg (Bm y)] (fun r=>r= .v (.bool (CY s w y.dir y.name y.file))):=by
 refine enter Tryz.func16 rfl rfl rfl rfl rfl 0 rfl ?_;refine w_ (b_ (h:=b_ (h:=b_ (h:=a_ (h:=e_ (q_ (w_ (f_ (h:=l_ (h:=e_ (Ap (w_ (Ah (h:=a_ (h:=e_ (?_))))))))))))))));refine AA rfl (fun hb1=>?_) (fun hb1=>?_)
 ·have hc1:=bp hb1;refine q_ (?_);refine BR (fun S=>S=⟨look [(3, .bp 0 0),(4, .bp 1 0),(5, .bp 2 0),(23, .v (.bool (!decide (w.file=(0,0))&&decide (w.file=y.file))))],⟨[As s,CL w,Bm y],[]⟩⟩) ?_ ?_
  ·skip
   refine AX (f_ (h:=l_ (h:=Aa (h:=?_))));refine A8 rfl (EQ rfl rfl (by repeat constructor) (by repeat constructor) (fun W=>Tx w.file (0,0) W) (by kernel_rfl) ?_);refine m_ (h:=?_);refine Aw true rfl rfl (fun hb2=>?_) (fun hb2=>?_)
   ·have hc2:=bp hb2;refine f_ (h:=l_ (h:=f_ (h:=l_ (h:=?_))));refine Ax (EQ rfl rfl (by repeat constructor) (by repeat constructor) (fun W=>K4 w.file y.file W) (by kernel_rfl) ?_);refine AY (h:=AT (?_));refine AG ?_;exact⟨_,rfl,Cq 3 0 rfl⟩
   have hc2:=bp hb2;refine A3 (h:=A3 (h:=A3 (h:=A3 (h:=A3 (h:=Aj (h:=AT (?_)))))));refine AG ?_;exact⟨_,rfl,Cq 3 0 rfl⟩
  rintro S rfl;refine AA rfl (fun hb3=>?_) (fun hb3=>?_)
  ·have hc3:=bp hb3;refine w_ (a_ (h:=e_ (A4 (A9 (Ab (A9 (?_)))))));refine AD ?_
   first|(exfalso;first|contradiction|omega)|(exact vb (by first|(rw[Ey hc1,hc3];simp[*];done)|(rw[Ey hc1,hc3];rfl)|(have hj3:j=0∨j=1:=(by omega);rcases hj3 with rfl|rfl<;>simp_all [CY];done)|(simp[CY,hj1 (by omega),hj2 (by omega), *];done)|(simp[CY, *];done)))
  have hc3:=bp hb3;refine AO (w_ (f_ (h:=l_ (h:=Bf (h:=m_ (h:=?_))))));refine Aw true rfl rfl (fun hb4=>?_) (fun hb4=>?_)
  ·have hc4:=bp hb4;refine f_ (h:=l_ (h:=f_ (h:=l_ (h:=?_))));refine Ax (EQ rfl rfl (by repeat constructor) (by repeat constructor) (fun W=>K4 y.dir w.dir W) (by kernel_rfl) ?_);refine AY (h:=m_ (h:=?_));refine Aw true rfl rfl (fun hb5=>?_) (fun hb5=>?_)
   ·have hc5:=bp hb5;refine f_ (h:=l_ (h:=f_ (h:=l_ (h:=Ah (h:=AY (h:=a_ (h:=e_ (A4 (Ab (A9 (?_)))))))))));refine AD ?_
    first|(exfalso;first|contradiction|omega)|(exact vb (by first|(rw[Ey hc1,hc3];simp[*];done)|(rw[Ey hc1,hc3];rfl)|(have hj3:j=0∨j=1:=(by omega);rcases hj3 with rfl|rfl<;>simp_all [CY];done)|(simp[CY,hj1 (by omega),hj2 (by omega), *];done)|(simp[CY, *];done)))
   have hc5:=bp hb5;refine A3 (h:=A3 (h:=A3 (h:=A3 (h:=A3 (h:=Aj (h:=a_ (h:=e_ (A4 (Ab (A9 (?_)))))))))));refine AD ?_
   first|(exfalso;first|contradiction|omega)|(exact vb (by first|(rw[Ey hc1,hc3];simp[*];done)|(rw[Ey hc1,hc3];rfl)|(have hj3:j=0∨j=1:=(by omega);rcases hj3 with rfl|rfl<;>simp_all [CY];done)|(simp[CY,hj1 (by omega),hj2 (by omega), *];done)|(simp[CY, *];done)))
  have hc4:=bp hb4;refine A3 (h:=A3 (h:=A3 (h:=A3 (h:=A3 (h:=Aj (h:=m_ (h:=A3 (h:=A3 (h:=A3 (h:=A3 (h:=A3 (h:=Aj (h:=a_ (h:=e_ (A4 (Ab (A9 (?_))))))))))))))))));refine AD ?_
  first|(exfalso;first|contradiction|omega)|(exact vb (by first|(rw[Ey hc1,hc3];simp[*];done)|(rw[Ey hc1,hc3];rfl)|(have hj3:j=0∨j=1:=(by omega);rcases hj3 with rfl|rfl<;>simp_all [CY];done)|(simp[CY,hj1 (by omega),hj2 (by omega), *];done)|(simp[CY, *];done)))
 have hc1:=bp hb1;refine w_ (Ah (h:=a_ (h:=e_ (?_))));refine AA rfl (fun hb6=>?_) (fun hb6=>?_)
 ·have hc6:=bp hb6;refine w_ (f_ (h:=l_ (h:=f_ (h:=l_ (h:=Aa (h:=m_ (h:=e_ (Ap (?_)))))))));refine By (fun m S=>∃j:Nat,j≤2∧m=2 - j∧(0<j→LW s w.file y.dir=false)∧(1<j→LW s w.file y.file=false)∧S=⟨look [(3, .bp 0 0),(4, .bp 1 0),(5, .bp 2 0),(47, .agg [.v (.int .i64 y.dir.1), .v (.int .i64 y.dir.2), .v (.int .i64 y.file.1), .v (.int .i64 y.file.2)]),(48, .v (.int .i64 (j:Int)))],⟨[As s,CL w,Bm y],[]⟩⟩) (2) ((wk 3 0)) (⟨0,by omega,rfl,fun q=>by omega,fun q=>by omega,rfl⟩) ?_;rintro m S ⟨j,hj,rfl,hj1,hj2,rfl⟩;refine w_ (BQ (h:=e_ (q_ (?_))));refine AA rfl (fun hb7=>?_) (fun hb7=>?_)
  ·have hc7:=bp hb7;refine AO (q_ (Ap (?_)));refine BR (fun S=>∃z,z=(if j=0 then y.dir else y.file)∧S=⟨look [(3, .bp 0 0),(4, .bp 1 0),(5, .bp 2 0),(8, .bp 3 0),(47, .agg [.v (.int .i64 y.dir.1), .v (.int .i64 y.dir.2), .v (.int .i64 y.file.1), .v (.int .i64 y.file.2)]),(48, .v (.int .i64 (j:Int)))],⟨[As s,CL w,Bm y,A7 z],[]⟩⟩) ?_ ?_
   ·skip
    refine AX (?_);refine A8 rfl (cF j rfl rfl (by omega) ?_);refine Ak (h:=s_ (h:=AT (?_)));refine AG ?_;exact⟨_,⟨_,rfl,rfl⟩,B4 4 0 rfl rfl rfl rfl ((by repeat (first|exact Sub.nil|refine B9 rfl rfl ?_|refine BD ?_|refine BE rfl ?_|refine BF rfl ?_)))⟩
   rintro S ⟨z,hz,rfl⟩;refine BR (fun S=>S=⟨look [(3, .bp 0 0),(4, .bp 1 0),(5, .bp 2 0),(47, .agg [.v (.int .i64 y.dir.1), .v (.int .i64 y.dir.2), .v (.int .i64 y.file.1), .v (.int .i64 y.file.2)]),(48, .v (.int .i64 (j:Int))),(60, .v (.bool (LW s w.file z)))],⟨[As s,CL w,Bm y],[]⟩⟩) ?_ ?_
   ·skip
    refine AX (l_ (h:=l_ (h:=?_)));refine A8 rfl (AN (PX s z hs) ?_);rintro r rfl;refine m_ (h:=?_);refine Aw true rfl rfl (fun hb8=>?_) (fun hb8=>?_)
    ·have hc8:=bp hb8;refine l_ (h:=f_ (h:=l_ (h:=l_ (h:=?_))));refine Ax (AN (Xs s hs w.file z) ?_);rintro r rfl;refine AY (h:=AT (?_));refine AG ?_;refine⟨_,rfl,B4 3 0 rfl rfl rfl rfl (by repeat (first|exact Sub.nil|refine B9 rfl rfl ?_|(apply Sub.of;(focus exact rfl);(focus exact LeA.of_eq (vb (by first|rfl|exact(U7 ‹_›).symm)));(focus exact rfl))))⟩
    have hc8:=bp hb8;refine A3 (h:=A3 (h:=A3 (h:=A3 (h:=A3 (h:=Aj (h:=AT (?_)))))));refine AG ?_;refine⟨_,rfl,B4 3 0 rfl rfl rfl rfl (by repeat (first|exact Sub.nil|refine B9 rfl rfl ?_|(apply Sub.of;(focus exact rfl);(focus exact LeA.of_eq (vb (by first|rfl|exact(U7 ‹_›).symm)));(focus exact rfl))))⟩
   rintro S rfl;refine AA rfl (fun hb9=>?_) (fun hb9=>?_)
   ·have hc9:=bp hb9;refine w_ (a_ (h:=e_ (A4 (Ab (A9 (A9 (Ab (Ab (A9 (?_))))))))));refine AD ?_
    first|(exfalso;first|contradiction|omega)|(exact vb (by first|(rw[Ey hc1,hc3];simp[*];done)|(rw[Ey hc1,hc3];rfl)|(have hj3:j=0∨j=1:=(by omega);rcases hj3 with rfl|rfl<;>simp_all [CY];done)|(simp[CY,hj1 (by omega),hj2 (by omega), *];done)|(simp[CY, *];done)))
   have hc9:=bp hb9;refine BH (Ay (t_ (AX (BB (h:=m_ (h:=AT (?_)))))));refine AG ?_;have hj3:j=0∨j=1:=by omega
   refine⟨_,_,?_,⟨j+1,by omega,rfl,?_,?_,rfl⟩,B4 3 0 rfl rfl rfl rfl ((by repeat (first|exact Sub.nil|refine B9 rfl rfl ?_|refine BD ?_|refine BE rfl ?_|refine BF rfl ?_)))⟩
   ·omega
   ·intro _;rcases hj3 with rfl|rfl
    ·rw[if_pos rfl]at hz;rw[←hz];assumption
    exact hj1 (by omega)
   intro q;rcases hj3 with rfl|rfl
   ·omega
   rw[if_neg (by omega)]at hz;rw[←hz];assumption
  have hc7:=bp hb7;refine Ba (Ao (Ao (Bb (Ay (t_ (w_ (a_ (h:=e_ (A4 (?_))))))))));refine AD ?_
  first|(exfalso;first|contradiction|omega)|(exact vb (by first|(rw[Ey hc1,hc3];simp[*];done)|(rw[Ey hc1,hc3];rfl)|(have hj3:j=0∨j=1:=(by omega);rcases hj3 with rfl|rfl<;>simp_all [CY];done)|(simp[CY,hj1 (by omega),hj2 (by omega), *];done)|(simp[CY, *];done)))
 have hc6:=bp hb6;refine BH (Ay (t_ (w_ (a_ (h:=e_ (A4 (?_)))))));refine AD ?_
 first|(exfalso;first|contradiction|omega)|(exact vb (by first|(rw[Ey hc1,hc3];simp[*];done)|(rw[Ey hc1,hc3];rfl)|(have hj3:j=0∨j=1:=(by omega);rcases hj3 with rfl|rfl<;>simp_all [CY];done)|(simp[CY,hj1 (by omega),hj2 (by omega), *];done)|(simp[CY, *];done)))
end
def Bare(s:Spc):Prop:=FlsV s.files∧0<s.files.length∧s.mounts=[]
theorem Bare.v{s:Spc}(h:Bare s):SpcV s:=⟨h.1,h.2.1,fun i m hm=>by rw[h.2.2]at hm;cases hm⟩
theorem Bare.m{s:Spc}(h:Bare s):s.mounts.length≤1000:=by rw[h.2.2];exact BC _
theorem U8{w:Wrk}{R:Df}(h:Bare w.s.spc)(hR:JB w.s.spc.files R):Bare (Bu w R).1.s.spc:=by
 unfold Bu;split
 ·rename_i h0;obtain⟨k1,k2⟩:=hR h0;exact⟨k1,by show 0<R.1.length;rw[k2];exact h.2.1,h.2.2⟩
 exact h
theorem U9:TabB D3:=⟨BC _,(fun p hp=>by cases hp),by decide,by decide⟩
theorem cG{t:Tab}(ht:TabB t)(pid:Int)(a:A6)(fl:Int):TabB (EM t pid a fl).1:=by
 unfold EM;split
 ·exact U9
 split
 ·exact U9
 rename_i h8;refine⟨by simpa[Fl]using ht.few,fun p hp=>?_,ht.next,ht.nextS⟩;simp only[Fl,List.mem_map]at hp;obtain⟨x,hx,rfl⟩:=hp;split
 ·simp[Js];omega
 exact ht.opens x hx
theorem cH{w:Wrk}{R:Tab×Int}(h:TabB w.s.tab)(hR:TabB R.1):TabB (Dd w R).1.s.tab:=by
 unfold Dd;split
 ·exact hR
 exact h
theorem UA(w:Wrk)(R:Df):(Bu w R).1.s.tab=w.s.tab:=by
 unfold Bu;split<;>rfl
theorem cJ(w:Wrk)(R:Tab×Int):(Dd w R).1.s.spc=w.s.spc:=by
 unfold Dd;split<;>rfl
def EE(s:Syst):Prop:=Bare s.spc∧TabB s.tab
theorem UB{w:Wrk}{i:Nat}{n:Nod}(h:EE w.s):EE (CW w i n).1.s:=by
 unfold CW;split
 ·exact⟨U8 h.1 (Oo h.1.1 _ _ _),by show TabB (Bu w _).1.s.tab;rw[UA];exact h.2⟩
 exact h
theorem UC{w:Wrk}(h:EE w.s)(a:A6):EE (Gm w a).1.s:=by
 unfold Gm;exact⟨by rw[cJ];exact h.1,cH h.2 (cG h.2 _ _ _)⟩
theorem cK{w:Wrk}(h:EE w.s):EE (C4 w).1.s:=by
 unfold C4
 repeat' split
 all_goals first|with_reducible exact UB h|with_reducible exact UC h _|with_reducible exact UC (UB h) _|exact h
theorem cL{w:Wrk}{R:Df}{x:A6}(h:EE w.s)(hR:JB w.s.spc.files R):EE (GG w R x).1.s:=by
 have hf:EE (Bu w R).1.s:=⟨U8 h.1 hR,by rw[UA];exact h.2⟩;unfold GG
 repeat' split
 all_goals first|exact h|exact hf
theorem cM{w:Wrk}(h:EE w.s):EE (Dv w).1.s:=by
 have hf:FlsV w.s.spc.files:=h.1.1;unfold Dv
 repeat' split
 all_goals first|with_reducible exact cL h (SD hf _ _ _ _)|exact h
theorem PZ{s:Syst}{pid:Int}{c:Cal}(h:EE s)(h6:c.num=6∨c.num=13):EE (ED s pid c).1:=by
 have ha:EE (D4 (Ec s pid c)).1.s:=by
  rcases h6 with h6|h6
  ·rw[D4,if_pos (show(Ec s pid c).c.num=6 from h6)];exact cK h
  have h13:(Ec s pid c).c.num=13:=h6;rw[D4,if_neg (show¬(Ec s pid c).c.num=6 by omega),if_neg (show¬(Ec s pid c).c.num=8 by omega),if_neg (show¬((Ec s pid c).c.num=10∨(Ec s pid c).c.num=12) by omega),if_pos h13];exact cM h
 unfold ED
 repeat' split
 all_goals first|exact h|exact ha
theorem K5:EE (FE 1).1:=by
 have h:=XV (k:=1) (by decide) (by decide)
 have e:(FE 1).1=⟨⟨(E8 1).1,[]⟩,P9 (0,1)⟩:=by
  unfold FE;rw[if_neg (by decide)]
 rw[e];exact⟨⟨h.1,h.2,rfl⟩,⟨by decide,by decide,by decide,by decide⟩⟩
def K6(a:UInt8):AB:=⟨#[47,a]⟩
def GN(a:UInt8):Cal:=⟨6,6,420,0,0,[K6 a],[]⟩
def N2:Cal:=⟨13,0,0,0,0,[K6 98,K6 97],[]⟩
def K7:Syst:=(FE 1).1
def JO:Syst:=(ED K7 1 (GN 97)).1
def Gq:Syst:=(ED JO 1 (GN 98)).1
def K8:Syst:=(ED Gq 1 N2).1
def K9:Res:=(ED Gq 1 N2).2
def Gr:Wch:=(K1 Gq.spc 1 (K6 97)).1
def LY:Wch:=(JM K8.spc Gr).1
set_option maxRecDepth 100000 in
theorem UD:(K1 Gq.spc 1 (K6 97)).2=0∧Gr.file.2=2∧(JM K8.spc Gr).2=true∧N0 Gr K9.gone K9.changes=(LY,true)∧LY.file.2=3∧K9.changes.length≤1000∧Gr.name.size≤100∧(FE 1).2=0:=by decide+kernel
theorem N3:EE JO:=PZ K5 (.inl rfl)
theorem KA:EE Gq:=PZ N3 (.inl rfl)
theorem UE:EE K8:=PZ KA (.inr rfl)
def KC(x:Wch):List Value:=[.int .i64 x.kind, .int .i64 x.dir.1, .int .i64 x.dir.2, .string x.name, .int .i64 x.file.1, .int .i64 x.file.2]
set_option maxRecDepth 10000 in
set_option maxHeartbeats 1000000 in
theorem cO(op:BinOp)(x:Wch)(w:World)(h:op= .eql∨op= .neq):(binOp op 35 (.agg (KC x).toArray) (.agg (KC x).toArray)).run prog w= .ok (.bool (decide (op= .eql))) w:=by
 have u3:=Tryz.underlying3;have a3:=Tryz.isAgg3;have z3:=Tryz.sizeOf3;have u9:=Tryz.underlying9;have a9:=Tryz.isAgg9;have z9:=Tryz.sizeOf9;have u5:=Tryz.underlying33;have a5:=Tryz.isAgg33;have z5:=Tryz.sizeOf33;have hS:prog.underlying 35=some (.struct (prog.fieldsOf 35)):=by kernel_rfl
 have hp:prog.stoodInHeld 35=false:=by kernel_rfl
 have hSF:prog.underlying 33=some (.struct (prog.fieldsOf 33)):=by kernel_rfl
 have hpF:prog.stoodInHeld 33=false:=by kernel_rfl
 have eF:∀(d:Nat) (a b:Int) (w:World),(Op.equalIn (d+2) 33 (.agg #[.int .i64 a, .int .i64 b]) (.agg #[.int .i64 a, .int .i64 b])).run prog w= .ok true w:=by
  intro d a b w;rw[run_equalIn_agg w (d+1) 33 _ _ hSF hpF];simp only[Program.fieldsOf,Tryz.underlying33]
  go_simp
 have e:∀w,(Op.equalIn 10000 35 (.agg (KC x).toArray) (.agg (KC x).toArray)).run prog w= .ok true w:=by
  intro w;rw[show(10000:Nat)=9999+1 from rfl,run_equalIn_agg w 9999 35 _ _ hS hp];simp only[Program.fieldsOf,Tryz.underlying35,KC]
  go_simp
 rcases h with rfl|rfl
 ·rw[run_eql_struct,e];rfl
 rw[run_neq_struct,e];rfl
theorem UF(x:Wch):AllV (CL x) (KC x):=by repeat constructor
theorem cQ{ev:Operand→Option AV}{h:AH}{R:AV→AH→Prop}{d:Option Tmp}{ty:TypeId}{pos:String}{af:Array Edge}{gd:Option (Nat×Bool)}{yT:TypeId}{x y:Operand}(z:Wch)(hx:ev x=some (.agg (CL z)))(hy:ev y=some (.agg (CL z)))(hR:R (.v (.bool true)) h):AStep prog ⟨d, .binOp .eql 35 x y yT,ty,pos,af,gd⟩ ev h R:=
 EQ hx hy (UF z) (UF z) (fun w=>cO .eql z w (.inl rfl)) (by kernel_rfl) hR
section
theorem N4:AFn prog 11 [] (fun r=>r= .v (.bool true)):=by
 obtain⟨y1,y2,y3,y4,y5,y6,y7,y8⟩:=UD;have hnew:AFn prog 17 [.v (.int .i64 1)] (fun r=>r= .tup [.agg (CB K7), .v (.int .i64 0)]):=(Th 1).mono fun r hr=>by rw[hr,LV,y8];rfl
 have hr1:AFn prog 30 [.agg (CB K7), .v (.int .i64 1), .agg (E5 (GN 97))] (fun r=>r= .tup [.agg (CB JO), .agg (Ed (ED K7 1 (GN 97)).2)]):=PT _ _ _ K5.1.v K5.1.m K5.2 (by decide) (by decide) (.inl rfl);have hr2:AFn prog 30 [.agg (CB JO), .v (.int .i64 1), .agg (E5 (GN 98))] (fun r=>r= .tup [.agg (CB Gq), .agg (Ed (ED JO 1 (GN 98)).2)]):=PT _ _ _ N3.1.v N3.1.m N3.2 (by decide) (by decide) (.inl rfl);have hr3:AFn prog 30 [.agg (CB Gq), .v (.int .i64 1), .agg (E5 N2)] (fun r=>r= .tup [.agg (CB K8), .agg (Ed K9)]):=PT _ _ _ KA.1.v KA.1.m KA.2 (by decide) (by decide) (.inr rfl);have hpl:AFn prog 20 [.agg (As Gq.spc), .v (.int .i64 1), .v (.string (K6 97))] (fun r=>r= .tup [.agg (CL Gr), .v (.int .i64 0)]):=(U1 _ _ _ KA.1.v KA.1.m (by decide)).mono fun r hr=>by rw[hr,PV,y1];rfl
 have hfo:AFn prog 14 [.agg (As K8.spc), .agg (CL Gr)] (fun r=>r= .tup [.agg (CL LY), .v (.bool true)]):=(U6 _ _ (UE.1.v.b UE.1.m)).mono fun r hr=>by rw[hr,PW,y3];rfl
 have hch:AFn prog 31 [.agg (CL Gr), .agg (Ed K9)] (fun r=>r= .tup [.agg (CL LY), .v (.bool true)]):=(cC _ _ y6).mono fun r hr=>by rw[hr,y4];rfl
 obtain⟨W,hW⟩:∃W,W=Gr:=⟨_,rfl⟩;obtain⟨U,hU⟩:∃U,U=LY:=⟨_,rfl⟩;obtain⟨S0,hS0⟩:∃S,S=K7:=⟨_,rfl⟩;obtain⟨S1,hS1⟩:∃S,S=JO:=⟨_,rfl⟩;obtain⟨S2,hS2⟩:∃S,S=Gq:=⟨_,rfl⟩;obtain⟨S3,hS3⟩:∃S,S=K8:=⟨_,rfl⟩;obtain⟨R1,hR1⟩:∃R,R=(ED K7 1 (GN 97)).2:=⟨_,rfl⟩;obtain⟨R2,hR2⟩:∃R,R=(ED JO 1 (GN 98)).2:=⟨_,rfl⟩;obtain⟨R3,hR3⟩:∃R,R=K9:=⟨_,rfl⟩;rw[←hS0]at hnew;rw[←hR1,←hS1,←hS0]at hr1;rw[←hR2,←hS2,←hS1]at hr2;rw[←hR3,←hS3,←hS2]at hr3;rw[←hW,←hS2]at hpl;rw[←hU,←hW,←hS3]at hfo;rw[←hU,←hW,←hR3]at hch;rw[←hW]at y2;rw[←hU]at y5;clear hW hU hS0 hS1 hS2 hS3 hR1 hR2 hR3 y1 y3 y4 y6 y7 y8;refine enter Tryz.func11 rfl rfl rfl rfl rfl 0 rfl ?_;refine w_ (a_ (h:=e_ (w_ (?_))));refine A8 rfl (AN (hnew) ?_);rintro r rfl;refine m_ (h:=x_ (h:=x_ (h:=Ak (h:=s_ (h:=a_ (h:=e_ (w_ (l_ (h:=Aa (h:=CR (h:=?_)))))))))));refine A8 rfl (Em (y:= .agg (E5 (GN 97))) (D8 ⟨rfl,rfl⟩) ?_);refine A8 rfl (AN (hr1) ?_);rintro r rfl;refine m_ (h:=x_ (h:=x_ (h:=s_ (h:=e_ (w_ (l_ (h:=Aa (h:=CR (h:=?_)))))))));refine A8 rfl (Em (y:= .agg (E5 (GN 98))) (D8 ⟨rfl,rfl⟩) ?_);refine A8 rfl (AN (hr2) ?_);rintro r rfl;refine m_ (h:=x_ (h:=x_ (h:=s_ (h:=e_ (w_ (f_ (h:=l_ (h:=?_))))))));refine A8 rfl (AN (hpl) ?_);rintro r rfl;refine m_ (h:=x_ (h:=x_ (h:=Ak (h:=s_ (h:=a_ (h:=e_ (w_ (l_ (h:=CR (h:=?_))))))))));refine A8 rfl (Em (y:= .agg (E5 N2)) (D8 ⟨rfl,rfl⟩) ?_);refine A8 rfl (AN (hr3) ?_);rintro r rfl;refine m_ (h:=x_ (h:=x_ (h:=Ak (h:=Ak (h:=s_ (h:=s_ (h:=e_ (w_ (f_ (h:=l_ (h:=l_ (h:=?_))))))))))));refine A8 rfl (AN (hfo) ?_);rintro r rfl;refine m_ (h:=x_ (h:=x_ (h:=Ak (h:=s_ (h:=a_ (h:=e_ (w_ (l_ (h:=l_ (h:=?_))))))))));refine A8 rfl (AN (hch) ?_);rintro r rfl;refine m_ (h:=x_ (h:=x_ (h:=Ak (h:=s_ (h:=a_ (h:=e_ (w_ (m_ (h:=Ah (h:=m_ (h:=?_)))))))))));refine Aw true rfl rfl (fun hb1=>?_) (fun hb1=>?_)
 ·have hc1:=bp hb1;refine f_ (h:=f_ (h:=l_ (h:=Ah (h:=AY (h:=m_ (h:=?_))))));refine Aw true rfl rfl (fun hb2=>?_) (fun hb2=>?_)
  ·have hc2:=bp hb2;refine m_ (h:=AY (h:=m_ (h:=?_)));refine Aw true rfl rfl (fun hb3=>?_) (fun hb3=>?_)
   ·have hc3:=bp hb3;refine m_ (h:=AY (h:=m_ (h:=?_)));refine Aw true rfl rfl (fun hb4=>?_) (fun hb4=>?_)
    ·have hc4:=bp hb4;refine l_ (h:=l_ (h:=?_));refine Ax (cQ U rfl rfl ?_);refine AY (h:=m_ (h:=?_));refine Aw true rfl rfl (fun hb5=>?_) (fun hb5=>?_)
     ·have hc5:=bp hb5;refine f_ (h:=f_ (h:=l_ (h:=Ah (h:=AY (h:=a_ (h:=e_ (A4 (?_))))))));refine AD ?_
      first|rfl|(exfalso;first|contradiction|omega)|exact vb (by simp[y5])
     have hc5:=bp hb5;refine A3 (h:=A3 (h:=A3 (h:=A3 (h:=Aj (h:=a_ (h:=e_ (A4 (?_))))))));refine AD ?_
     first|rfl|(exfalso;first|contradiction|omega)|exact vb (by simp[y5])
    have hc4:=bp hb4;refine A3 (h:=A3 (h:=A3 (h:=Aj (h:=m_ (h:=A3 (h:=A3 (h:=A3 (h:=A3 (h:=Aj (h:=a_ (h:=e_ (A4 (?_)))))))))))));refine AD ?_
    first|rfl|(exfalso;first|contradiction|omega)|exact vb (by simp[y5])
   have hc3:=bp hb3;refine A3 (h:=Aj (h:=m_ (h:=A3 (h:=A3 (h:=A3 (h:=Aj (h:=m_ (h:=A3 (h:=A3 (h:=A3 (h:=A3 (h:=Aj (h:=a_ (h:=e_ (A4 (?_))))))))))))))));refine AD ?_
   first|rfl|(exfalso;first|contradiction|omega)|exact vb (by simp[y5])
  have hc2:=bp hb2;refine A3 (h:=Aj (h:=m_ (h:=A3 (h:=Aj (h:=m_ (h:=A3 (h:=A3 (h:=A3 (h:=Aj (h:=m_ (h:=A3 (h:=A3 (h:=A3 (h:=A3 (h:=Aj (h:=a_ (h:=e_ (A4 (?_)))))))))))))))))));refine AD ?_
  first|rfl|(exfalso;first|contradiction|omega)|exact vb (by simp[y5])
 have hc1:=bp hb1;refine A3 (h:=A3 (h:=A3 (h:=A3 (h:=Aj (h:=m_ (h:=A3 (h:=Aj (h:=m_ (h:=A3 (h:=Aj (h:=m_ (h:=A3 (h:=A3 (h:=A3 (h:=Aj (h:=m_ (h:=A3 (h:=A3 (h:=A3 (h:=A3 (h:=Aj (h:=a_ (h:=e_ (?_))))))))))))))))))))))));refine A4 (?_);refine AD ?_
 first|rfl|(exfalso;first|contradiction|omega)|exact vb (by simp[y5])
end
def Cc:A6:=(0,1)
def KD:Nod:=⟨0,1,420,0,0,0,⟨#[]⟩,[]⟩
def LZ:AR:=(FE 1).1.spc.files
def Pa:Df:=DU LZ Cc ⟨#[97]⟩ KD
def Ez:A6:=(0,2)
def GO(i:Nat):AB:=⟨#[98+UInt8.ofNat i]⟩
def Dx:Nat→AR
 |0=>Pa.1
 |i+1=>(DS (Dx i) Cc (GO i) Ez).1
def Ee:Wch:=⟨1,Cc,⟨#[97]⟩,Ez⟩
def JP(k:Nat):AR:=(EV (Dx k) Cc ⟨#[97]⟩).1
def GP:Wch:=⟨1,Cc,⟨#[97]⟩,(0,0)⟩
set_option maxRecDepth 100000 in
theorem UG:Pa.2=([(Cc,⟨#[97]⟩,(0,0),Ez)],0):=by decide+kernel
set_option maxRecDepth 100000 in
theorem UH:∀i<4,(DS (Dx i) Cc (GO i) Ez).2.2=0:=by decide+kernel
set_option maxRecDepth 100000 in
theorem UJ:∀i<5,(EV (Dx i) Cc ⟨#[97]⟩).2.2=0:=by decide+kernel
set_option maxRecDepth 100000 in
theorem cR:∀i<5,K1 ⟨Dx i,[]⟩ 1 ⟨#[47,97]⟩=(Ee,0):=by decide+kernel
set_option maxRecDepth 100000 in
theorem cT:∀i<5,JM ⟨JP i,[]⟩ Ee=(GP,true):=by decide+kernel
theorem cU(s:Spc)(i:Nat):CY s Ee Cc (GO i) Ez=true:=by simp[CY,Ee,Ez]
theorem cV(s:Spc):CY s GP Cc ⟨#[97]⟩ (0,0)=true:=by simp[CY,GP]
theorem cW(s:Spc):CY s GP Cc ⟨#[98]⟩ Ez=false:=by
 simp only[CY,GP,if_true];decide
theorem cY(s:Spc):CY s Ee Cc ⟨#[122]⟩ Cc=false:=by
 simp only[CY,Ee,if_true];decide
theorem UK:FlsV LZ:=K5.1.v.files
theorem JQ:∀i,i<5→FlsV (Dx i)∧0<(Dx i).length
 |0,_=>by
   have h:=Oo UK Cc ⟨#[97]⟩ KD (by have:=UG;show Pa.2.2=0;rw[this]);exact⟨h.1,by show 0<(DU LZ Cc ⟨#[97]⟩ KD).1.length;rw[h.2];exact K5.1.v.pos⟩
 |i+1,hi=>by
   obtain⟨h1,h2⟩:=JQ i (by omega);have h:=XM h1 Cc (GO i) Ez (UH i (by omega));exact⟨h.1,by show 0<(DS (Dx i) Cc (GO i) Ez).1.length;rw[h.2];exact h2⟩
theorem UL{f:AR}(h:FlsV f)(hp:0<f.length):SpcV ⟨f,[]⟩:=⟨h,hp,fun i m hi=>by simp at hi⟩
theorem UM{i:Nat}(hi:i<5):SpcV ⟨Dx i,[]⟩:=UL (JQ i hi).1 (JQ i hi).2
theorem cZ{i:Nat}(hi:i<5):SpcV ⟨JP i,[]⟩:=by
 have h:=XO (JQ i hi).1 Cc ⟨#[97]⟩ (UJ i hi);exact UL h.1 (by show 0<(EV (Dx i) Cc ⟨#[97]⟩).1.length;rw[h.2];exact(JQ i hi).2)
end Go.Proofs.YtobclmbkdhbnpaaGreatDoor
