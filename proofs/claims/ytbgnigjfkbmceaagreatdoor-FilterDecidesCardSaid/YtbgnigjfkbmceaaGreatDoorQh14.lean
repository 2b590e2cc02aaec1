/-
  Part 14 of the proof of FilterDecidesP: what the statement's proof uses of the texts in wip/tpl.
-/
import Derived.Test.YtbgnigjfkbmceaaGreatDoorQh13
open Go.Proofs.Tryz (prog)
set_option maxRecDepth 10000
set_option maxHeartbeats 4000000
set_option linter.unusedVariables false
set_option linter.unusedSimpArgs false
namespace Go.Proofs.YtbgnigjfkbmceaaGreatDoor
open Go.RowKit
theorem mM{s:Spc}{fl:Bool}{p:AF}{ps:List AF}{a:AD}{lk:Nat}{τ:Lk}(h:DX s fl p ps a lk= .inr τ):τ.name.size≤12:=by
 unfold DX at h;split at h
 ·cases h
 split at h
 ·cases h
 rename_i h2
 repeat' split at h
 all_goals first|(cases h;done)|(injection h with h;subst h;first|exact BE 12|exact Nat.le_of_not_lt h2)
theorem mN{s:Spc}{fl:Bool}:∀(k:Nat) (σ:Lk),σ.name.size≤12→(L9 s fl k σ).2.name.size≤12:=by
 intro k
 induction k with
 |zero=>intro σ h;exact h
 |succ k ih=>
   intro σ h;unfold L9
   cases σ.ps with
   |nil=>exact h
   |cons p ps=>
     simp only
     cases hs:DX s fl p ps σ.file σ.links with
     |inl e=>exact BE 12
     |inr τ=>exact ih _ (mM hs)
theorem Z3(s:Spc)(st:AD)(p:AF)(fl:Bool):(C9 s st p fl).1.name.size≤12:=by
 unfold C9;generalize (if J1 p=true then J2 s else st)=d
 repeat' split
 all_goals first|exact BE 12|exact mN _ _ (BE 12)
theorem mO{s:Spc}{cwd:AD}{fl:Bool}{X:List Itm×List Fnd×Int}{g:AF×Int}(h:∀f∈X.2.1,f.name.size≤12):(∀f∈(J3 s cwd fl X g).2.1,f.name.size≤12)∧(J3 s cwd fl X g).1.length=X.1.length+1∧(J3 s cwd fl X g).2.1.length=X.2.1.length+1:=by
 unfold J3;split
 ·split
  ·refine⟨fun f hf=>?_,by simp,by simp⟩;rcases List.mem_append.1 hf with hf|hf
   ·exact h f hf
   rw[List.mem_singleton.1 hf];exact Z3 _ _ _ _
  refine⟨fun f hf=>?_,by simp,by simp⟩;rcases List.mem_append.1 hf with hf|hf
  ·exact h f hf
  rw[List.mem_singleton.1 hf];exact Z3 _ _ _ _
 refine⟨fun f hf=>?_,by simp,by simp⟩;rcases List.mem_append.1 hf with hf|hf
 ·exact h f hf
 rw[List.mem_singleton.1 hf];exact BE 12
theorem mP(s:Spc)(cwd:AD)(fl:Bool)(e:Int):∀(l:List (AF×Int)),(∀f∈(Ld s cwd fl l e).2.1,f.name.size≤12)∧(Ld s cwd fl l e).1.length=l.length∧(Ld s cwd fl l e).2.1.length=l.length:=by
 have key:∀(l:List (AF×Int)) (X:List Itm×List Fnd×Int),(∀f∈X.2.1,f.name.size≤12)→(∀f∈(l.foldl (J3 s cwd fl) X).2.1,f.name.size≤12)∧(l.foldl (J3 s cwd fl) X).1.length=X.1.length+l.length∧(l.foldl (J3 s cwd fl) X).2.1.length=X.2.1.length+l.length:=by
  intro l
  induction l with
  |nil=>intro X h;exact⟨h,rfl,rfl⟩
  |cons g l ih=>
    intro X h;obtain⟨h1,h2,h3⟩:=mO (s:=s) (cwd:=cwd) (fl:=fl) (g:=g) h;obtain⟨k1,k2,k3⟩:=ih _ h1;rw[List.foldl_cons];refine⟨k1,?_,?_⟩
    ·rw[k2,h2,List.length_cons];omega
    rw[k3,h3,List.length_cons];omega
 intro l;have:=key l ([],[],e) (fun f hf=>by cases hf);refine⟨this.1,by rw[Ld,this.2.1];simp,by rw[Ld,this.2.2];simp⟩
theorem Z4{c:Cal}(h:Bp c=0):(c.paths.length:Int)=(C3 c.num).2.2.1∧(C3 c.num).2.2.2.1≤(c.args.length:Int)∧(c.args.length:Int)≤(C3 c.num).2.2.2.2∧(∀p∈c.paths,p.size≤128)∧∀p∈c.args,p.size≤64:=by
 unfold Bp at h;split at h
 ·exact absurd h (by decide)
 split at h
 ·exact absurd h (by decide)
 split at h
 ·exact absurd h (by decide)
 rename_i h3;split at h
 ·exact absurd h (by decide)
 rename_i h4;split at h
 ·exact absurd h (by decide)
 rename_i h5;refine⟨by omega,by omega,by omega,fun p hp=>?_,fun p hp=>?_⟩
 ·refine Nat.le_of_not_lt fun hl=>h4 (List.any_eq_true.2 ⟨p,hp,decide_eq_true hl⟩)
 refine Nat.le_of_not_lt fun hl=>h5 (List.any_eq_true.2 ⟨p,hp,decide_eq_true hl⟩)
theorem mQ{c0 c1 c2 c3 c4 c5:List AV}(w:Wrk)(rows:List (List AV))(n cap:Nat)(L:List Itm):Back [c0,c1,c2,c3,c4,c5] [5] [Df w (.sl 8 rows none) (.bs 1 0 13 n cap),LB 13 CZ L cap] [c0,c1,c2,c3,c4,Df w (.sl 8 rows none) (.bs 6 0 13 n cap),LB 13 CZ L cap]:=by
 have:=Pj (bx:=[c0,c1,c2,c3,c4,c5]) (is:=[5]) (bc:=[Df w (.sl 8 rows none) (.bs 1 0 13 n cap),LB 13 CZ L cap]) (by simp) (by simp) (by simp);have e2:E9 (Er [5] [c0,c1,c2,c3,c4,c5].length) (LB 13 CZ L cap)=LB 13 CZ L cap:=Dg B5 _ _ _
 have hb:E0 [c0,c1,c2,c3,c4,c5] (Er [5] [c0,c1,c2,c3,c4,c5].length) [5] [Df w (.sl 8 rows none) (.bs 1 0 13 n cap),LB 13 CZ L cap]=[c0,c1,c2,c3,c4,Df w (.sl 8 rows none) (.bs 6 0 13 n cap),LB 13 CZ L cap]:=by
  unfold E0;unfold E0;rw[List.map_cons,e2];rfl
 rw[hb]at this;exact this
theorem Z5(s:Syst)(pid:Int)(c:Cal):(∀f∈(KH s pid c).found,f.name.size≤12)∧(KH s pid c).found.length=(c.paths.zip (DD c)).length∧(KH s pid c).r.items.length=(c.paths.zip (DD c)).length:=by
 obtain⟨h1,h2,h3⟩:=mP s.spc (AP s.tab pid).cwd (DY c) (DG (AP s.tab pid) c) (c.paths.zip (DD c));exact⟨h1,h3,h2⟩
section
theorem Z6(w:Wrk)(F I:AV)(h9:w.c.num=9→0<w.c.args.length)(hsz:∀p∈w.c.args,p.size≤1000):AFn prog 97 [.fp (Df w F I)] (fun r=>r= .v (.int .i64 (DG w.p w.c))):=by
 have hol:(w.p.opens.map Gu).length=w.p.opens.length:=List.length_map _;refine enter Tryz.func97 rfl rfl rfl rfl rfl 0 rfl ?_;refine EL (h:=Dj (h:=Dw (h:=Bf (h:=Dj (h:=e_ (BF (w_ (Dt (h:=a_ (h:=?_))))))))));refine e_ (?_);refine A4 rfl (fun hb1 hc1=>?_) (fun hb1 hc1=>?_)
 ·refine q_ (w_ (?_));refine A3 rfl (Bg (len:=4) (sz:=1) (n:=0) (by kernel_rfl) rfl rfl rfl rfl ?_);refine l_ (h:=DK (h:=?_));refine AJ false rfl rfl (fun hb2 hc2=>?_) (fun hb2 hc2=>?_)
  ·refine Cl (h:=BB (h:=Bu (h:=BB (h:=Fl (h:=Lr (?_))))));refine BN (?_);refine A6 ?_
   first|(exfalso;first|contradiction|omega)|(exact vi (by simp[DG, *]))
  refine As (Bg (len:=4) (sz:=1) (n:=0) (by kernel_rfl) rfl rfl rfl rfl ?_);refine l_ (h:=Ed (h:=Bc (h:=?_)));refine AJ false rfl rfl (fun hb3 hc3=>?_) (fun hb3 hc3=>?_)
  ·refine BB (h:=Bu (h:=BB (h:=Sn (h:=Dk (h:=?_)))));refine A6 ?_
   first|(exfalso;first|contradiction|omega)|(exact vi (by simp[DG, *]))
  refine As (Bg (len:=4) (sz:=1) (n:=0) (by kernel_rfl) rfl rfl rfl rfl ?_);refine l_ (h:=ES (h:=Dt (h:=Bc (h:=?_))));refine AJ false rfl rfl (fun hb4 hc4=>?_) (fun hb4 hc4=>?_)
  ·refine BB (h:=Sn (h:=Dk (h:=?_)));refine A6 ?_
   first|(exfalso;first|contradiction|omega)|(exact vi (by simp[DG, *]))
  refine As (Bg (len:=4) (sz:=1) (n:=1) (by kernel_rfl) rfl rfl rfl rfl ?_);refine l_ (h:=?_);refine As (A8 (UM w.c.a1) ?_);rintro r rfl;refine Ck (h:=CO (h:=?_));refine A4 rfl (fun hb5 hc5=>?_) (fun hb5 hc5=>?_)
  ·refine BK (h:=D8 (h:=?_));refine A6 ?_
   first|(exfalso;first|contradiction|omega)|(exact vi (by simp[DG, *]))
  refine AG (Aa (h:=Dj (h:=n_ (h:=DR (h:=e_ (?_))))));refine A4 rfl (fun hb6 hc6=>?_) (fun hb6 hc6=>?_)
  ·have h8:8≤(w.p.opens.length:Int):=by rw[List.length_map]at hc6;exact hc6
   refine CB (h:=?_);refine A6 ?_
   first|(exfalso;first|contradiction|omega)|(exact vi (by simp[DG, *]))
  have h8:¬8≤(w.p.opens.length:Int):=by rw[List.length_map]at hc6;exact hc6
  refine FG (h:=?_);refine A6 ?_
  first|(exfalso;first|contradiction|omega)|(exact vi (by simp[DG, *]))
 refine Ak (h:=?_);refine A4 rfl (fun hb7 hc7=>?_) (fun hb7 hc7=>?_)
 ·obtain⟨a0,ha0⟩:∃a,w.c.args[0]?=some a:=⟨_,B6 (h9 hc7)⟩;have harg:(w.c.args.map DH)[0]?=some (DH a0):=by rw[List.getElem?_map,ha0];rfl
  have hag:Km w.c=a0:=by unfold Km;rw[List.headD_eq_head?_getD,List.head?_eq_getElem?,ha0];rfl
  have hsa:=hsz a0 (Am ha0);refine Bf (h:=Dj (h:=?_));refine A3 rfl (DE (n:=0) rfl rfl rfl harg ?_);refine l_ (h:=Bd (h:=?_));refine A4 rfl (fun hb8 hc8=>?_) (fun hb8 hc8=>?_)
  ·refine BK (h:=D8 (h:=?_));refine A6 ?_
   first|(exfalso;first|contradiction|omega)|(exact vi (by simp[DG, *]))
  refine AG (NJ (h:=?_));refine BM (fun m s=>∃j:Nat,j≤a0.size∧m=a0.size - j∧(∀(i:Nat) (h:i<a0.data.toList.length),i<j→a0.data.toList[i]≠0)∧s=⟨look [(0, .fp (Df w F I)),(4, .v (.int .i64 (j:Int)))],⟨[],[]⟩⟩) (a0.size) ((wk 0 0)) (⟨0,BE _,rfl,fun i h1 h2=>by omega,rfl⟩) ?_;rintro m s ⟨j,hj,rfl,hz,rfl⟩;refine De (h:=Dj (h:=?_));refine A3 rfl (DE (n:=0) rfl rfl rfl harg ?_);refine l_ (h:=Fi (h:=?_));refine A4 rfl (fun hb9 hc9=>?_) (fun hb9 hc9=>?_)
  ·have hlt:j<a0.size:=by omega
   refine By (h:=Aa (h:=Dj (h:=?_)));refine A3 rfl (DE (n:=0) rfl rfl rfl harg ?_);refine HA (h:=?_);refine A3 rfl (M3 (n:=j) Tryz.underlying9 rfl rfl rfl hlt ?_);refine Bd (h:=?_);refine A4 rfl (fun hb10 hc10=>?_) (fun hb10 hc10=>?_)
   ·have hany:(a0.data.toList.any fun b=>decide (b=0))=true:=by
     rw[List.any_eq_true];refine⟨a0.data.toList[j]'(by simpa using hlt),List.getElem_mem _,?_⟩;have h00:a0[j].toNat=0:=by have:=hc10;omega
     simp;exact UInt8.toNat_inj.1 h00
    refine CB (h:=BN (Lr (D8 (h:=?_))));refine A6 ?_
    first|(exfalso;first|contradiction|omega)|(exact vi (by simp[DG, *]))
   have hne:a0.data.toList[j]'(by simpa using hlt)≠0:=by
    intro e;have h00:¬a0[j].toNat=0:=by have:=hc10;omega
    simp at e;exact h00 (congrArg UInt8.toNat e)
   refine Cm (h:=?_)
   refine⟨_,_,?_,⟨j+1,by omega,rfl,(fun i h1 h2=>by
    by_cases e:i=j
    ·subst e;exact hne
    exact hz i h1 (by omega)),rfl⟩,(wk 0 0)⟩
   omega
  have hany:(a0.data.toList.any fun b=>decide (b=0))=false:=by
   rw[List.any_eq_false];intro b hb;obtain⟨i,hi,rfl⟩:=List.mem_iff_getElem.1 hb;have:=hz i hi (by have hl:=Lib.size_eq a0;omega)
   simpa using this
  refine Kb (h:=Sr (h:=?_));refine A6 ?_
  first|(exfalso;first|contradiction|omega)|(exact vi (by simp[DG, *]))
 refine q_ (Ak (h:=?_));refine A4 rfl (fun hb11 hc11=>?_) (fun hb11 hc11=>?_)
 ·refine AG (E3 (h:=w_ (?_)));refine A3 rfl (Bg (len:=4) (sz:=1) (n:=0) (by kernel_rfl) rfl rfl rfl rfl ?_);refine l_ (h:=?_);refine A3 rfl (A8 (UM w.c.a0) ?_);rintro r rfl;refine D2 (h:=?_);refine A4 rfl (fun hb12 hc12=>?_) (fun hb12 hc12=>?_)
  ·refine CB (h:=?_);refine A6 ?_
   first|(exfalso;first|contradiction|omega)|(exact vi (by simp[DG, *]))
  refine FG (h:=?_);refine A6 ?_
  first|(exfalso;first|contradiction|omega)|(exact vi (by simp[DG, *]))
 refine Aw (EU (h:=?_));refine A4 rfl (fun hb13 hc13=>?_) (fun hb13 hc13=>?_)
 ·refine w_ (?_);refine A3 rfl (Bg (len:=4) (sz:=1) (n:=0) (by kernel_rfl) rfl rfl rfl rfl ?_);refine l_ (h:=?_);refine A3 rfl (A8 (UM w.c.a0) ?_);rintro r rfl;refine D2 (h:=?_);refine A4 rfl (fun hb14 hc14=>?_) (fun hb14 hc14=>?_)
  ·refine CB (h:=?_);refine A6 ?_
   first|(exfalso;first|contradiction|omega)|(exact vi (by simp[DG, *]))
  refine FG (h:=?_);refine A6 ?_
  first|(exfalso;first|contradiction|omega)|(exact vi (by simp[DG, *]))
 refine Ak (h:=?_);refine A4 rfl (fun hb15 hc15=>?_) (fun hb15 hc15=>?_)
 ·refine w_ (?_);refine A3 rfl (Bg (len:=4) (sz:=1) (n:=0) (by kernel_rfl) rfl rfl rfl rfl ?_);refine l_ (h:=DK (h:=?_));refine AJ false rfl rfl (fun hb16 hc16=>?_) (fun hb16 hc16=>?_)
  ·refine Cl (h:=Cl (h:=EM (h:=D9 (h:=?_))));refine A6 ?_
   first|(exfalso;first|contradiction|omega)|(exact vi (by simp[DG, *]))
  refine As (Bg (len:=4) (sz:=1) (n:=0) (by kernel_rfl) rfl rfl rfl rfl ?_);refine l_ (h:=Ed (h:=Bc (h:=?_)));refine AJ false rfl rfl (fun hb17 hc17=>?_) (fun hb17 hc17=>?_)
  ·refine Cl (h:=EM (h:=D9 (h:=?_)));refine A6 ?_
   first|(exfalso;first|contradiction|omega)|(exact vi (by simp[DG, *]))
  refine As (Bg (len:=4) (sz:=1) (n:=1) (by kernel_rfl) rfl rfl rfl rfl ?_);refine l_ (h:=JG (h:=Bc (h:=?_)));refine AJ false rfl rfl (fun hb18 hc18=>?_) (fun hb18 hc18=>?_)
  ·refine EM (h:=D9 (h:=?_));refine A6 ?_
   first|(exfalso;first|contradiction|omega)|(exact vi (by simp[DG, *]))
  refine As (Bg (len:=4) (sz:=1) (n:=1) (by kernel_rfl) rfl rfl rfl rfl ?_);refine l_ (h:=Ed (h:=CO (h:=?_)));refine A4 rfl (fun hb19 hc19=>?_) (fun hb19 hc19=>?_)
  ·refine CB (h:=?_);refine A6 ?_
   first|(exfalso;first|contradiction|omega)|(exact vi (by simp[DG, *]))
  refine FG (h:=?_);refine A6 ?_
  first|(exfalso;first|contradiction|omega)|(exact vi (by simp[DG, *]))
 refine Ak (h:=?_);refine A4 rfl (fun hb20 hc20=>?_) (fun hb20 hc20=>?_)
 ·refine Aa (h:=Dj (h:=Bl (h:=?_)));refine A4 rfl (fun hb21 hc21=>?_) (fun hb21 hc21=>?_)
  ·refine CB (h:=?_);refine A6 ?_
   first|(exfalso;first|contradiction|omega)|(exact vi (by simp[DG, *]))
  refine FG (h:=?_);refine A6 ?_
  first|(exfalso;first|contradiction|omega)|(exact vi (by simp[DG, *]))
 refine Ak (h:=?_);refine A4 rfl (fun hb22 hc22=>?_) (fun hb22 hc22=>?_)
 ·refine w_ (?_);refine A3 rfl (Bg (len:=4) (sz:=1) (n:=0) (by kernel_rfl) rfl rfl rfl rfl ?_);refine l_ (h:=Cv (h:=?_));refine A4 rfl (fun hb23 hc23=>?_) (fun hb23 hc23=>?_)
  ·refine CB (h:=?_);refine A6 ?_
   first|(exfalso;first|contradiction|omega)|(exact vi (by simp[DG, *]))
  refine FG (h:=?_);refine A6 ?_
  first|(exfalso;first|contradiction|omega)|(exact vi (by simp[DG, *]))
 refine FG (h:=?_);refine A6 ?_
 first|(exfalso;first|contradiction|omega)|(exact vi (by simp[DG, *]))
end
def Ks(n:Int):Int:=IntKind.i64.wrap (0 - n)
def D5(s:Syst)(pid:Int)(c:Cal):Syst×Res:=
 if CS s.tab pid=false then(s,{Gq with exit:= -4})else if Bp c≠0 then(s,{Gq with exit:= -22})
 else if(Gt s (AP s.tab pid) c).2.2≠0 then(s,{Gq with exit:=Ks (Gt s (AP s.tab pid) c).2.2,items:=(Gt s (AP s.tab pid) c).1})
 else if(BT (KH s pid c)).2≠0 then(s,{Gq with exit:=Ks (BT (KH s pid c)).2,items:=(Gt s (AP s.tab pid) c).1})
 else((BT (KH s pid c)).1.s,(BT (KH s pid c)).1.r)
def Ni(R:Syst×Res):AV:= .tup [.agg (CW R.1), .agg (Kr R.2)]
theorem mR{α:Type}{sz:Nat}{F:α→List AV}(hF:RowF sz F)(l:List α)(cap0 cap:Nat):((LB sz F l cap0).drop 0).take (l.length * sz)++List.replicate ((cap - l.length) * sz) .any=LB sz F l cap:=by
 unfold LB;have h:=Wf (cap:=cap0) (Nf hF l);rw[List.length_map]at h;rw[h];unfold Cc;rw[List.length_map]
def KL:List AV:=[.v (.slice none 0 0), .v (.slice none 0 0), .v (.int .i64 0), .v (.int .i64 0), .v (.slice none 0 0)]
def LH:List AV:=[.v (.int .i64 0), .v (.int .i64 0), .v (.int .i64 0), .v (.slice none 0 0), .v (.slice none 0 0)]
def Nj(r:Res)(I:AV):List AV:=[.v (.int .i64 r.exit), .v (.int .i64 r.child), .v (.int .i64 r.gone),I, .sl 7 (r.changes.map Ek) none]
def Dp(s:Syst)(pid:Int)(c:Cal):Wrk:=⟨s,AP s.tab pid,c,[],Gq⟩
theorem Z7(s:Syst)(pid:Int)(c:Cal):LeA (.agg (CW s++(Av (AP s.tab pid)++(Fe c++[.v (.slice none 0 0), .v (.int .i64 0), .v (.int .i64 0), .v (.int .i64 0), .v (.slice none 0 0), .v (.slice none 0 0)])))) (.agg (Df (Dp s pid c) (.v (.slice none 0 0)) (.v (.slice none 0 0)))):=by
 refine LeA.agg ?_
 repeat (first|exact LeL.nil|refine LeL.cons (A7 _) ?_|refine LeL.cons (LeA.nil _) ?_)
theorem Oa(w:Wrk)(R:FH):(BZ w R).1.r.items.length=w.r.items.length:=by
 unfold BZ;split<;>rfl
theorem Rm(w:Wrk)(R:Tab×Int):(CJ w R).1.r.items.length=w.r.items.length:=by
 unfold CJ;split<;>rfl
theorem UW(w:Wrk)(i:Nat)(a:AD):(Ko w i a).r.items.length=w.r.items.length:=List.length_modify ..
theorem Z8(w:Wrk)(i:Nat)(r:Int):(Jr w i r).r.items.length=w.r.items.length:=List.length_modify ..
theorem UX(w:Wrk)(i:Nat)(n:Nod):(D4 w i n).1.r.items.length=w.r.items.length:=by
 unfold D4;split
 ·rw[UW,Oa]
 rfl
theorem Z9(w:Wrk)(a:AD):(LE w a).1.r.items.length=w.r.items.length:=by
 unfold LE;rw[Rm];rfl
theorem mT(w:Wrk):(Cp w).1.r.items.length=w.r.items.length:=by
 unfold Cp
 repeat' split
 all_goals first|rfl|exact UX _ _ _|exact Z9 _ _|exact(Z9 _ _).trans (UX _ _ _)
theorem mU(w:Wrk)(R:FH)(x:AD):(Le w R x).1.r.items.length=w.r.items.length:=by
 unfold Le
 repeat' split
 all_goals first|rfl|exact Oa _ _|exact(UW _ _ _).trans ((Z8 _ _ _).trans (Oa _ _))
theorem mV(w:Wrk):(G9 w).1.r.items.length=w.r.items.length:=by
 unfold G9
 repeat' split
 all_goals first|rfl|exact mU _ _ _
section
variable {P:Program}{ev:Operand→Option AV}{h:AH}{R:AV→AH→Prop}{d:Option Tmp}{ty:TypeId}{pos:String}{af:Array Edge}{gd:Option (Nat×Bool)}
theorem ZA{T:TypeId}{x:Operand}{a:Int}(hx:ev x=some (.v (.int .i64 a)))(hR:R (.v (.int .i64 (Ks a))) h):AStep P ⟨d, .unOp .neg T x,ty,pos,af,gd⟩ ev h R:=
 DQ (fun _ G w ec _ he=>⟨.int .i64 (Ks a),by
  have h1:=he x (by simp[Op.operands]) _ hx;simp only[rep]at h1
  simp[execOp,h1,Op.unary,Op.intArith,Ks],by simp only[rep]⟩) hR
end
structure Wch where
 kind:Int
 dir:AD
 name:AF
 file:AD
deriving DecidableEq
def GB:Wch:=⟨0,(0,0),⟨#[]⟩,(0,0)⟩
def EC(w:Wch):List AV:=[.v (.int .i64 w.kind), .v (.int .i64 w.dir.1), .v (.int .i64 w.dir.2), .v (.string w.name), .v (.int .i64 w.file.1), .v (.int .i64 w.file.2)]
def Ob(s:Spc)(k:Int)(p:AF):Wch×Int:=
 if(k≠1∧k≠2)∨Fo p.data.toList=false then(GB,22)
 else if(C9 s (0,0) p (decide (k=2))).2≠0 then(GB,(C9 s (0,0) p (decide (k=2))).2)
 else if k=2 then
  (if(C9 s (0,0) p true).1.ex=false then(GB,2)else if Ac s.files (C9 s (0,0) p true).1.file=false then(GB,20)
  else(⟨k,(0,0),⟨#[]⟩,(C9 s (0,0) p true).1.file⟩,0))
 else if(C9 s (0,0) p false).1.name=⟨#[]⟩then(GB,22)
 else(⟨k,(C9 s (0,0) p false).1.dir,(C9 s (0,0) p false).1.name,(AM s.files (C9 s (0,0) p false).1.dir (C9 s (0,0) p false).1.name).1⟩,0)
def Eo(s:Spc)(a b:AD):Bool:=decide (a∈C8 s (CR s.files) b)
def CK(s:Spc)(w:Wch)(dir:AD)(name:AF)(file:AD):Bool:=
 if w.kind=1 then(decide (w.file≠(0,0))&&decide (file=w.file))||(decide (name≠⟨#[]⟩)&&decide (dir=w.dir)&&decide (name=w.name))
 else if w.kind=2 then Eo s w.file dir||Eo s w.file file else false
theorem Po(a b:AD)(w:World):(binOp .eql 26 (.agg #[.int .i64 a.1, .int .i64 a.2]) (.agg #[.int .i64 b.1, .int .i64 b.2])).run prog w= .ok (.bool (decide (a=b))) w:=O6 a.1 a.2 b.1 b.2 w
theorem ZB(a b:AD)(w:World):(binOp .neq 26 (.agg #[.int .i64 a.1, .int .i64 a.2]) (.agg #[.int .i64 b.1, .int .i64 b.2])).run prog w= .ok (.bool (!decide (a=b))) w:=T4 a.1 a.2 b.1 b.2 w
def Rn(R:Wch×Int):AV:= .tup [.agg (EC R.1), .v (.int .i64 R.2)]
theorem mW(s:Spc)(k:Int)(p:AF)(F:Fnd×Int)(hF:C9 s (0,0) p (decide (k=2))=F):Ob s k p=if(k≠1∧k≠2)∨Fo p.data.toList=false then(GB,22)else if F.2≠0 then(GB,F.2)
    else if k=2 then(if F.1.ex=false then(GB,2)else if Ac s.files F.1.file=false then(GB,20)else(⟨k,(0,0),⟨#[]⟩,F.1.file⟩,0))
    else if F.1.name=⟨#[]⟩then(GB,22)else(⟨k,F.1.dir,F.1.name,(AM s.files F.1.dir F.1.name).1⟩,0):=by
 unfold Ob;rw[hF];by_cases h:k=2
 ·rw[decide_eq_true h]at hF;simp only[if_pos h,hF]
 rw[decide_eq_false h]at hF;simp only[if_neg h,hF]
section
theorem ZC(s:AF)(hs:s.size≤60000):AFn prog 183 [.v (.string s)] (fun r=>r= .v (.bool (Fo s.data.toList))):=bS (us:=[.string s]) fun w=>lZ s w (by omega)
theorem mX(s:Spc)(a:AD)(hs:SpcB s):AFn prog 119 [.agg (AW s), .agg (AB a)] (fun r=>r= .v (.bool (Ac s.files a))):=by
 refine enter Tryz.func119 rfl rfl rfl rfl rfl 0 rfl ?_;refine FC (h:=Ay (h:=l_ (h:=?_)));refine A3 rfl (A8 (Wd s.files a hs.files) ?_);rintro r rfl;refine Ee (h:=Bt (h:=m_ (h:=?_)));refine AJ true rfl rfl (fun hb1 hc1=>?_) (fun hb1 hc1=>?_)
 ·refine CN (h:=Gf (h:=?_));refine A6 ?_
  first|(exfalso;first|contradiction|omega)|(exact vb (by simp[M1, *]))
 refine Cu (h:=Az (h:=?_));refine A6 ?_
 first|(exfalso;first|contradiction|omega)|(exact vb (by simp[M1, *]))
theorem mY(s:Spc)(k:Int)(p:AF)(hv:SpcV s)(hm:s.mounts.length≤1000)(hp:p.size≤50000):AFn prog 130 [.agg (AW s), .v (.int .i64 k), .v (.string p)] (fun r=>r=Rn (Ob s k p)):=by
 have hsb:=hv.b hm;obtain⟨F,hF⟩:∃F,C9 s (0,0) p (decide (k=2))=F:=⟨_,rfl⟩;have hw:=mW s k p F hF;have hfind:AFn prog 141 [.agg (AW s), .agg (AB (0,0)), .v (.string p), .v (.bool (decide (k=2)))] (fun r=>r= .tup [.agg (Al F.1), .v (.int .i64 F.2)]):=by rw[←hF];exact Yn s (0,0) p _ (hv.n hm) hv (by omega)
 refine enter Tryz.func130 rfl rfl rfl rfl rfl 0 rfl ?_;refine E5 (h:=BO (h:=q_ (?_)));refine BC (fun S=>S=⟨look [(1, .v (.int .i64 k)),(2, .v (.string p)),(3, .bp 0 0),(6, .bp 1 0),(22, .v (.bool ((!decide (k=1)&& !decide (k=2))|| !Fo p.data.toList)))],⟨[AW s,[.v (.int .i64 0), .v (.int .i64 0), .v (.int .i64 0), .v (.string ⟨#[]⟩), .v (.int .i64 0), .v (.int .i64 0)]],[]⟩⟩) ?_ ?_
 ·skip
  refine C2 (h:=FD (h:=?_));refine AJ true rfl rfl (fun hb1 hc1=>?_) (fun hb1 hc1=>?_)
  ·refine m_ (h:=Gd (h:=Bu (h:=?_)));refine AJ false rfl rfl (fun hb2 hc2=>?_) (fun hb2 hc2=>?_)
   ·refine JO (h:=?_);exact⟨_,rfl,CM 2 0 rfl⟩
   refine m_ (h:=?_);refine As (A8 (Rg p hp) ?_);rintro r rfl;refine Ck (h:=EJ (h:=?_));exact⟨_,rfl,CM 2 0 rfl⟩
  refine BY (h:=Bc (h:=m_ (h:=?_)));refine As (A8 (Rg p hp) ?_);rintro r rfl;refine Ck (h:=EJ (h:=?_));exact⟨_,rfl,CM 2 0 rfl⟩
 rintro S rfl;refine A4 rfl (fun hb3 hc3=>?_) (fun hb3 hc3=>?_)
 ·have k1:(k≠1∧k≠2)∨Fo p.data.toList=false:=by simpa using hc3
  refine Bx (h:=?_);refine A6 ?_;rw[hw,if_pos k1];rfl
 have k1:¬((k≠1∧k≠2)∨Fo p.data.toList=false):=by simpa using hc3
 refine AG (C4 (h:=Sq (h:=CE (h:=?_))));refine A3 rfl (A8 (hfind) ?_);rintro r rfl;refine JJ (h:=Bl (h:=?_));refine A4 rfl (fun hb4 hc4=>?_) (fun hb4 hc4=>?_)
 ·have k2:F.2≠0:=by simpa using hc4
  refine w_ (HL (h:=Dd (h:=?_)));refine A6 ?_;rw[hw,if_neg k1,if_pos k2];rfl
 have k2:¬F.2≠0:=by simpa using hc4
 refine EX (h:=Bd (h:=?_));refine A4 rfl (fun hb5 hc5=>?_) (fun hb5 hc5=>?_)
 ·have k3:k=2:=hc5;refine Fh (h:=D2 (h:=?_));refine A4 rfl (fun hb6 hc6=>?_) (fun hb6 hc6=>?_)
  ·have k4:F.1.ex=false:=by simpa using hc6
   refine Bx (h:=BN (?_));refine A6 ?_;rw[hw,if_neg k1,if_neg k2,if_pos k3,if_pos k4];rfl
  have k4:¬F.1.ex=false:=by simpa using hc6
  refine DU (h:=AO (h:=?_));refine A3 rfl (A8 (L3 s.files F.1.file hsb.files) ?_);rintro r rfl;refine D2 (h:=?_);refine A4 rfl (fun hb7 hc7=>?_) (fun hb7 hc7=>?_)
  ·have k5:Ac s.files F.1.file=false:=by simpa using hc7
   refine Bx (h:=BN (?_));refine A6 ?_;rw[hw,if_neg k1,if_neg k2,if_pos k3,if_neg k4,if_pos k5];rfl
  have k5:¬Ac s.files F.1.file=false:=by simpa using hc7
  refine AG (Aa (h:=AO (h:=Hm (h:=Dd (h:=?_)))));refine A6 ?_;rw[hw,if_neg k1,if_neg k2,if_pos k3,if_neg k4,if_neg k5];rfl
 have k3:¬k=2:=hc5;refine DU (h:=Bd (h:=?_));refine A4 rfl (fun hb8 hc8=>?_) (fun hb8 hc8=>?_)
 ·have k6:F.1.name=⟨#[]⟩:=hc8;refine Bx (h:=?_);refine A6 ?_;rw[hw,if_neg k1,if_neg k2,if_neg k3,if_pos k6];rfl
 have k6:¬F.1.name=⟨#[]⟩:=hc8;refine FY (h:=Eg (h:=?_));refine A3 rfl (A8 (L4 s.files F.1.dir F.1.name hsb.files) ?_);rintro r rfl;refine Ee (h:=Bt (h:=Eg (h:=l_ (h:=Hm (h:=Az (h:=?_))))));refine A6 ?_;rw[hw,if_neg k1,if_neg k2,if_neg k3,if_neg k6];rfl
end
theorem mZ(x:BitVec 64):(x &&& ~~~ 4294967295#64)=0#64↔x.toNat<4294967296:=by
 have hc:(x &&& 4294967295#64).toNat=x.toNat % 4294967296:=by
  rw[BitVec.toNat_and];exact Nat.and_two_pow_sub_one_eq_mod x.toNat 32
 have hs:x=(x &&& 4294967295#64) ||| (x &&& ~~~ 4294967295#64):=by
  apply BitVec.eq_of_getLsbD_eq;intro i hi;simp only[BitVec.getLsbD_or,BitVec.getLsbD_and,BitVec.getLsbD_not,hi];cases x.getLsbD i<;>cases (4294967295#64).getLsbD i<;>simp
 constructor
 ·intro h;rw[h,BitVec.or_zero]at hs;have:=congrArg BitVec.toNat hs;omega
 intro h
 have e:x &&& 4294967295#64=x:=by
  apply BitVec.eq_of_toNat_eq;rw[hc];omega
 rw[←e,BitVec.and_assoc];have:(4294967295#64 &&& ~~~ 4294967295#64)=0#64:=by decide
 rw[this,BitVec.and_zero]
theorem n8{m:Int}(h1:0≤m)(h2:m<18446744073709551616):Ql .u64 m 4294967295=0↔m<4294967296:=by
 have e:Ql .u64 m 4294967295=(((BitVec.ofInt 64 m &&& ~~~ 4294967295#64).toNat:Nat):Int):=by
  show IntKind.u64.wrap ((BitVec.ofInt 64 m &&& ~~~ 4294967295#64).toNat:Nat)=_;have h:=(BitVec.ofInt 64 m &&& ~~~ 4294967295#64).isLt;generalize (BitVec.ofInt 64 m &&& ~~~ 4294967295#64).toNat=n at h;simp only[IntKind.wrap,IntKind.signed,IntKind.bits];simp;omega
 rw[e]
 have hn:(BitVec.ofInt 64 m).toNat=m.toNat:=by
  rw[BitVec.toNat_ofInt];omega
 have h:=mZ (BitVec.ofInt 64 m);rw[hn]at h;constructor
 ·intro k;have:(BitVec.ofInt 64 m &&& ~~~ 4294967295#64)=0#64:=BitVec.eq_of_toNat_eq (by simpa using Int.ofNat_inj.1 k);have:=h.1 this;omega
 intro k;rw[h.2 (by omega)];rfl
theorem n9{m:Int}(h1:0≤m):N9 .u64 m 32=0↔m<4294967296:=by
 show m.fdiv (2 ^ min (32:Int).toNat 64)=0↔_;rw[show((2:Int) ^ min (32:Int).toNat 64)=4294967296 by decide,Int.fdiv_eq_ediv_of_nonneg _ (by omega)];omega
def FR(r:Rul):Prop:=0≤r.calls∧r.calls<18446744073709551616∧r.path.size≤50000∧r.tests.length≤1000
def Ci(r:Rul):Bool:=
 if r.watch=0 then decide (r.path=⟨#[]⟩∧r.perm=0)
 else decide ((r.watch=1∨r.watch=2)∧r.list=3∧Fo r.path.data.toList=true∧(r.path.size:Int)≤128∧1≤r.perm∧r.perm≤15)
def Kt(list:Int):List Tst→Int
 |[]=>0
 |t::ts=>if BW t list=0 then Kt list ts else BW t list
theorem Ro{list:Int}{l:List Tst}{j:Nat}{t:Tst}(ht:l[j]?=some t):Kt list (l.drop j)=if BW t list=0 then Kt list (l.drop (j+1))else BW t list:=by
 obtain⟨hk,e⟩:=Af.1 ht;rw[List.drop_eq_getElem_cons hk,Kt,e]
theorem ZD{list:Int}{l:List Tst}:Kt list (l.drop l.length)=0:=by simp[Kt]
def GC(r:Rul):Bool:=if r.list=2∨r.list=3 then decide (r.calls=0∨¬r.calls<4294967296)else decide (r.calls≠0)
def BJ(r:Rul):Int:=
 if r.list<1∨5<r.list then 130 else if r.action≠1∧r.action≠2 then 131 else if GC r=true then 132 else if 8<(r.tests.length:Int)then 133
 else if Kt r.list r.tests≠0 then Kt r.list r.tests else if Ci r=false then 134 else if 31<(r.key.size:Int)then 135 else 0
section
theorem nA(f:Int):AFn prog 166 [.v (.int .i64 f)] (fun r=>r= .v (.bool (decide (f=2∨f=3)))):=by
 refine enter Tryz.func166 rfl rfl rfl rfl rfl 0 rfl ?_;refine EL (h:=E4 (h:=?_));refine AJ false rfl rfl (fun hb1 hc1=>?_) (fun hb1 hc1=>?_)
 ·refine BY (h:=Gf (h:=?_));refine A6 ?_
  first|(exfalso;first|contradiction|omega)|(exact vb (by simp[*]))
 refine CE (h:=Bh (h:=Az (h:=?_)));refine A6 ?_
 first|(exfalso;first|contradiction|omega)|(exact vb (by simp[*]))
theorem nB(m:Int)(h1:0≤m)(h2:m<18446744073709551616):AFn prog 167 [.v (.int .u64 m)] (fun r=>r= .v (.bool (decide (m<4294967296)))):=by
 refine enter Tryz.func167 rfl rfl rfl rfl rfl 0 rfl ?_;refine EL (h:=at_ (h:=Dt (h:=Az (h:=?_))));refine A6 ?_
 first|(exfalso;first|contradiction|omega)|(exact vb (by exact decide_eq_decide.2 (n8 h1 h2)))
theorem nC(m:Int)(h1:0≤m):AFn prog 154 [.v (.int .u64 m)] (fun r=>r= .v (.bool (decide (m<4294967296)))):=by
 refine enter Tryz.func154 rfl rfl rfl rfl rfl 0 rfl ?_;refine EL (h:=P5 (h:=Dt (h:=Az (h:=?_))));refine A6 ?_
 first|(exfalso;first|contradiction|omega)|(exact vb (by exact decide_eq_decide.2 (n9 h1)))
theorem nD(r:Rul)(hp:r.path.size≤50000):AFn prog 168 [.agg (Ab r)] (fun x=>x= .v (.bool (Ci r))):=by
 refine enter Tryz.func168 rfl rfl rfl rfl rfl 0 rfl ?_;refine EG (h:=Fy (h:=e_ (BF (Ak (h:=?_)))));refine A4 rfl (fun hb1 hc1=>?_) (fun hb1 hc1=>?_)
 ·refine Ay (h:=E4 (h:=?_));refine AJ true rfl rfl (fun hb2 hc2=>?_) (fun hb2 hc2=>?_)
  ·refine CN (h:=CD (h:=Ax (h:=?_)));refine A6 ?_
   first|(exfalso;first|contradiction|omega)|(exact vb (by unfold Ci;simp[*]))
  refine Cu (h:=Ax (h:=?_));refine A6 ?_
  first|(exfalso;first|contradiction|omega)|(exact vb (by unfold Ci;simp[*]))
 refine q_ (Ak (h:=?_));refine A4 rfl (fun hb3 hc3=>?_) (fun hb3 hc3=>?_)
 ·refine AG (E3 (h:=Ay (h:=E4 (h:=?_))));refine AJ true rfl rfl (fun hb4 hc4=>?_) (fun hb4 hc4=>?_)
  ·refine AO (h:=?_);refine As (A8 (ZC r.path (by omega)) ?_);rintro r rfl;refine Bu (h:=?_);refine AJ true rfl rfl (fun hb5 hc5=>?_) (fun hb5 hc5=>?_)
   ·refine AO (h:=n_ (h:=Fg (h:=Bu (h:=?_))));refine AJ true rfl rfl (fun hb6 hc6=>?_) (fun hb6 hc6=>?_)
    ·refine AO (h:=DR (h:=Bu (h:=?_)));refine AJ true rfl rfl (fun hb7 hc7=>?_) (fun hb7 hc7=>?_)
     ·refine AO (h:=Fg (h:=CD (h:=Ax (h:=?_))));refine A6 ?_
      first|(exfalso;first|contradiction|omega)|(exact vb (by unfold Ci;simp[*]))
     refine Cu (h:=Ax (h:=?_));refine A6 ?_
     first|(exfalso;first|contradiction|omega)|(exact vb (by unfold Ci;simp[*]))
    refine Fv (h:=Cu (h:=Ax (h:=?_)));refine A6 ?_
    first|(exfalso;first|contradiction|omega)|(exact vb (by unfold Ci;simp[*]))
   refine BB (h:=Bc (h:=Fv (h:=Cu (h:=Ax (h:=?_)))));refine A6 ?_
   first|(exfalso;first|contradiction|omega)|(exact vb (by unfold Ci;simp[*]))
  refine Fv (h:=BB (h:=Bc (h:=Fv (h:=Cu (h:=Sm (h:=?_))))));refine BN (?_);refine A6 ?_
  first|(exfalso;first|contradiction|omega)|(exact vb (by unfold Ci;simp[*]))
 refine Aw (EU (h:=?_));refine A4 rfl (fun hb8 hc8=>?_) (fun hb8 hc8=>?_)
 ·refine Ay (h:=E4 (h:=?_));refine AJ true rfl rfl (fun hb9 hc9=>?_) (fun hb9 hc9=>?_)
  ·refine AO (h:=?_);refine As (A8 (ZC r.path (by omega)) ?_);rintro r rfl;refine Bu (h:=?_);refine AJ true rfl rfl (fun hb10 hc10=>?_) (fun hb10 hc10=>?_)
   ·refine AO (h:=n_ (h:=Fg (h:=Bu (h:=?_))));refine AJ true rfl rfl (fun hb11 hc11=>?_) (fun hb11 hc11=>?_)
    ·refine AO (h:=DR (h:=Bu (h:=?_)));refine AJ true rfl rfl (fun hb12 hc12=>?_) (fun hb12 hc12=>?_)
     ·refine AO (h:=Fg (h:=CD (h:=Ax (h:=?_))));refine A6 ?_
      first|(exfalso;first|contradiction|omega)|(exact vb (by unfold Ci;simp[*]))
     refine Cu (h:=Ax (h:=?_));refine A6 ?_
     first|(exfalso;first|contradiction|omega)|(exact vb (by unfold Ci;simp[*]))
    refine Fv (h:=Cu (h:=Ax (h:=?_)));refine A6 ?_
    first|(exfalso;first|contradiction|omega)|(exact vb (by unfold Ci;simp[*]))
   refine BB (h:=Bc (h:=Fv (h:=Cu (h:=Ax (h:=?_)))));refine A6 ?_
   first|(exfalso;first|contradiction|omega)|(exact vb (by unfold Ci;simp[*]))
  refine Fv (h:=BB (h:=Bc (h:=Fv (h:=Cu (h:=Sm (h:=?_))))));refine BN (?_);refine A6 ?_
  first|(exfalso;first|contradiction|omega)|(exact vb (by unfold Ci;simp[*]))
 refine FG (h:=?_);refine A6 ?_
 first|(exfalso;first|contradiction|omega)|(exact vb (by unfold Ci;simp[*]))
theorem nE(r:Rul)(hr:FR r):AFn prog 116 [.agg (Ab r)] (fun x=>x= .v (.int .i64 (BJ r))):=by
 obtain⟨m1,m2,hp,hl⟩:=hr;refine enter Tryz.func116 rfl rfl rfl rfl rfl 0 rfl ?_;refine EG (h:=Fy (h:=DK (h:=?_)));refine AJ false rfl rfl (fun hb1 hc1=>?_) (fun hb1 hc1=>?_)
 ·refine EM (h:=K6 (h:=BN (?_)));refine A6 ?_
  first|(exfalso;first|contradiction|omega)|(exact vi (by first|(unfold BJ;grind)|(unfold BJ GC;grind)))
 refine JM (h:=CO (h:=?_));refine A4 rfl (fun hb2 hc2=>?_) (fun hb2 hc2=>?_)
 ·refine BK (h:=?_);refine A6 ?_
  first|(exfalso;first|contradiction|omega)|(exact vi (by first|(unfold BJ;grind)|(unfold BJ GC;grind)))
 refine AG (?_);refine Qk (⟨look [(1, .bp 0 0),(2, .v (.int .i64 0))],⟨[Ab r],[]⟩⟩) (¬(r.action≠1∧r.action≠2)) ?_ (fun hA=>?_)
 ·skip
  refine Ay (h:=FD (h:=?_));refine AJ true rfl rfl (fun hb3 hc3=>?_) (fun hb3 hc3=>?_)
  ·refine Ce (h:=DS (h:=?_));refine A4 rfl (fun hb4 hc4=>?_) (fun hb4 hc4=>?_)
   ·refine BK (h:=?_);refine A6 ?_
    first|(exfalso;first|contradiction|omega)|(exact vi (by first|(unfold BJ;grind)|(unfold BJ GC;grind)))
   refine BG (AR (?_))
   first|(exfalso;first|contradiction|omega)|exact⟨(by omega),CM 1 0 rfl⟩
  refine Cu (h:=e_ (Hh (h:=BG (AR (?_)))))
  first|(exfalso;first|contradiction|omega)|exact⟨(by omega),CM 1 0 rfl⟩
 skip
 refine Qk (⟨look [(1, .bp 0 0),(2, .v (.int .i64 0))],⟨[Ab r],[]⟩⟩) (GC r=false) ?_ (fun hB=>?_)
 ·skip
  refine Ay (h:=?_);refine A3 rfl (A8 (nA _) ?_);rintro r rfl;refine e_ (?_);refine A4 rfl (fun hb5 hc5=>?_) (fun hb5 hc5=>?_)
  ·refine Ay (h:=E4 (h:=?_));refine AJ false rfl rfl (fun hb6 hc6=>?_) (fun hb6 hc6=>?_)
   ·refine BB (h:=Fl (h:=?_));refine A6 ?_
    first|(exfalso;first|contradiction|omega)|(exact vi (by first|(unfold BJ;grind)|(unfold BJ GC;grind)))
   refine AO (h:=?_);refine As (A8 (nB _ m1 m2) ?_);rintro r rfl;refine Ck (h:=CO (h:=?_));refine A4 rfl (fun hb7 hc7=>?_) (fun hb7 hc7=>?_)
   ·refine BK (h:=?_);refine A6 ?_
    first|(exfalso;first|contradiction|omega)|(exact vi (by first|(unfold BJ;grind)|(unfold BJ GC;grind)))
   refine BG (AR (?_))
   first|(exfalso;first|contradiction|omega)|exact⟨(by unfold GC;grind),CM 1 0 rfl⟩
  refine Ay (h:=Bl (h:=?_));refine A4 rfl (fun hb8 hc8=>?_) (fun hb8 hc8=>?_)
  ·refine BK (h:=?_);refine A6 ?_
   first|(exfalso;first|contradiction|omega)|(exact vi (by first|(unfold BJ;grind)|(unfold BJ GC;grind)))
  refine BG (AR (?_))
  first|(exfalso;first|contradiction|omega)|exact⟨(by unfold GC;grind),CM 1 0 rfl⟩
 skip
 refine Fh (h:=FW (h:=e_ (?_)));refine A4 rfl (fun hb9 hc9=>?_) (fun hb9 hc9=>?_)
 ·refine BK (h:=?_);refine A6 ?_
  first|(exfalso;first|contradiction|omega)|(exact vi (by first|(unfold BJ;grind)|(unfold BJ GC;grind)))
 rw[List.length_map]at hc9;refine DU (h:=JP (h:=e_ (BF (?_))));refine BM (fun n s=>∃j:Nat,j≤r.tests.length∧n=r.tests.length - j∧Kt r.list (r.tests.drop j)=Kt r.list r.tests∧s=⟨look [(1, .bp 0 0),(2, .v (.int .i64 0)),(42, .sl 5 (r.tests.map CF) none),(43, .v (.int .i64 ((r.tests.map CF).length:Int))),(44, .v (.int .i64 (j:Int)))],⟨[Ab r],[]⟩⟩) (r.tests.length) ((wk 1 0)) (⟨0,by omega,rfl,rfl,rfl⟩) ?_;rintro n s ⟨j,hj,rfl,ha,rfl⟩;refine w_ (Cv (h:=q_ (?_)));refine A4 rfl (fun hb10 hc10=>?_) (fun hb10 hc10=>?_)
 ·obtain⟨hlt,t,hy,hrow, -⟩:=Br CF hc10;refine By (h:=w_ (i_ (h:=Jb (h:=C4 (h:=AO (h:=?_))))));refine A3 rfl (A8 (W8 t _) ?_);rintro r rfl;refine Bt (h:=Bl (h:=?_));refine A4 rfl (fun hb11 hc11=>?_) (fun hb11 hc11=>?_)
  ·rw[Ro hy,if_neg hc11]at ha;refine Aa (h:=Ax (h:=Dk (h:=?_)));refine A6 ?_
   first|(exfalso;first|contradiction|omega)|(exact vi (by first|(unfold BJ;grind)|(unfold BJ GC;grind)))
  refine BG (BA (t_ (Aw (JQ (h:=?_)))));refine⟨_,_,?_,⟨j+1,by omega,rfl,(by rw[←ha,Ro hy,if_pos (by omega)]),rfl⟩,(wk 1 0)⟩;omega
 have e:=C6 CF hj hc10;subst e;rw[ZD]at ha;refine CP (h:=q_ (C4 (h:=?_)));refine A3 rfl (A8 (nD r hp) ?_);rintro r rfl;refine D2 (h:=?_);refine A4 rfl (fun hb12 hc12=>?_) (fun hb12 hc12=>?_)
 ·refine BK (h:=?_);refine A6 ?_
  first|(exfalso;first|contradiction|omega)|(exact vi (by first|(unfold BJ;grind)|(unfold BJ GC;grind)))
 refine DU (h:=FW (h:=e_ (?_)));refine A4 rfl (fun hb13 hc13=>?_) (fun hb13 hc13=>?_)
 ·refine BK (h:=?_);refine A6 ?_
  first|(exfalso;first|contradiction|omega)|(exact vi (by first|(unfold BJ;grind)|(unfold BJ GC;grind)))
 refine AG (K5 (h:=?_));refine A6 ?_
 first|(exfalso;first|contradiction|omega)|(exact vi (by first|(unfold BJ;grind)|(unfold BJ GC;grind)))
theorem Rp(r:Rul)(hr:FR r):AFn prog 105 [.agg (Ab r)] (fun x=>x= .v (.int .i64 (BJ r))):=by
 obtain⟨m1,m2,hp,hl⟩:=hr;refine enter Tryz.func105 rfl rfl rfl rfl rfl 0 rfl ?_;refine EG (h:=Fy (h:=DK (h:=?_)));refine AJ false rfl rfl (fun hb1 hc1=>?_) (fun hb1 hc1=>?_)
 ·refine EM (h:=K6 (h:=BN (?_)));refine A6 ?_
  first|(exfalso;first|contradiction|omega)|(exact vi (by first|(unfold BJ;grind)|(unfold BJ Ci;grind)))
 refine JM (h:=CO (h:=?_));refine A4 rfl (fun hb2 hc2=>?_) (fun hb2 hc2=>?_)
 ·refine BK (h:=?_);refine A6 ?_
  first|(exfalso;first|contradiction|omega)|(exact vi (by first|(unfold BJ;grind)|(unfold BJ Ci;grind)))
 refine AG (?_);refine Qk (⟨look [(1, .bp 0 0),(2, .v (.int .i64 0))],⟨[Ab r],[]⟩⟩) (¬(r.action≠1∧r.action≠2)) ?_ (fun hA=>?_)
 ·skip
  refine Ay (h:=FD (h:=?_));refine AJ true rfl rfl (fun hb3 hc3=>?_) (fun hb3 hc3=>?_)
  ·refine Ce (h:=DS (h:=?_));refine A4 rfl (fun hb4 hc4=>?_) (fun hb4 hc4=>?_)
   ·refine BK (h:=?_);refine A6 ?_
    first|(exfalso;first|contradiction|omega)|(exact vi (by first|(unfold BJ;grind)|(unfold BJ Ci;grind)))
   refine BG (AR (?_))
   first|(exfalso;first|contradiction|omega)|exact⟨(by omega),CM 1 0 rfl⟩
  refine Cu (h:=e_ (Hh (h:=BG (AR (?_)))))
  first|(exfalso;first|contradiction|omega)|exact⟨(by omega),CM 1 0 rfl⟩
 skip
 refine JB (⟨look [(1, .bp 0 0),(2, .v (.int .i64 0)),(3, .v (.bool (decide (r.list=2∨r.list=3))))],⟨[Ab r],[]⟩⟩) ?_ ?_
 ·skip
  refine Aw (CN (h:=m_ (h:=?_)));refine AJ false rfl rfl (fun hb5 hc5=>?_) (fun hb5 hc5=>?_)
  ·refine Fu (h:=Cw (h:=?_))
   first|(exfalso;first|contradiction|omega)|exact CM 1 0 rfl
  refine CN (h:=Bh (h:=Cw (h:=?_)))
  first|(exfalso;first|contradiction|omega)|exact CM 1 0 rfl
 skip
 refine q_ (?_);refine JB (⟨look [(1, .bp 0 0),(2, .v (.int .i64 0)),(50, .v (.bool (GC r)))],⟨[Ab r],[]⟩⟩) ?_ ?_
 ·skip
  refine EK (h:=?_);refine AJ true rfl rfl (fun hb6 hc6=>?_) (fun hb6 hc6=>?_)
  ·refine CN (h:=m_ (h:=?_));refine AJ false rfl rfl (fun hb7 hc7=>?_) (fun hb7 hc7=>?_)
   ·refine Ho (h:=Bu (h:=Hl (h:=Fx (h:=FE (h:=?_)))))
    first|(exfalso;first|contradiction|omega)|exact Ah 1 0 rfl rfl rfl rfl (by repeat (first|exact Sub.nil|refine Ai rfl rfl ?_|refine Ap ?_|refine Aq rfl ?_|refine Ar rfl ?_|(apply Sub.of;(focus exact rfl);(focus exact LeA.of_eq (vb (by unfold GC;grind)));(focus exact rfl))))
   refine AO (h:=?_);refine As (A8 (nC _ m1) ?_);rintro r rfl;refine Ck (h:=Bh (h:=Bu (h:=?_)));refine AJ false rfl rfl (fun hb8 hc8=>?_) (fun hb8 hc8=>?_)
   ·refine Hl (h:=Fx (h:=FE (h:=?_)))
    first|(exfalso;first|contradiction|omega)|exact Ah 1 0 rfl rfl rfl rfl (by repeat (first|exact Sub.nil|refine Ai rfl rfl ?_|refine Ap ?_|refine Aq rfl ?_|refine Ar rfl ?_|(apply Sub.of;(focus exact rfl);(focus exact LeA.of_eq (vb (by unfold GC;grind)));(focus exact rfl))))
   refine m_ (h:=EH (h:=?_));refine AJ true rfl rfl (fun hb9 hc9=>?_) (fun hb9 hc9=>?_)
   ·refine Ce (h:=CD (h:=EJ (h:=?_)))
    (exfalso;first|contradiction|omega)
   refine Cu (h:=EJ (h:=?_))
   first|(exfalso;first|contradiction|omega)|exact Ah 1 0 rfl rfl rfl rfl (by repeat (first|exact Sub.nil|refine Ai rfl rfl ?_|refine Ap ?_|refine Aq rfl ?_|refine Ar rfl ?_|(apply Sub.of;(focus exact rfl);(focus exact LeA.of_eq (vb (by unfold GC;grind)));(focus exact rfl))))
  refine BB (h:=Jc (h:=Bc (h:=m_ (h:=EH (h:=?_)))));refine AJ true rfl rfl (fun hb10 hc10=>?_) (fun hb10 hc10=>?_)
  ·refine Ce (h:=CD (h:=EJ (h:=?_)))
   first|(exfalso;first|contradiction|omega)|exact Ah 1 0 rfl rfl rfl rfl (by repeat (first|exact Sub.nil|refine Ai rfl rfl ?_|refine Ap ?_|refine Aq rfl ?_|refine Ar rfl ?_|(apply Sub.of;(focus exact rfl);(focus exact LeA.of_eq (vb (by unfold GC;grind)));(focus exact rfl))))
  refine Cu (h:=EJ (h:=?_))
  (exfalso;first|contradiction|omega)
 skip
 refine A4 rfl (fun hb11 hc11=>?_) (fun hb11 hc11=>?_)
 ·refine BK (h:=?_);refine A6 ?_
  first|(exfalso;first|contradiction|omega)|(exact vi (by first|(unfold BJ;grind)|(unfold BJ Ci;grind)))
 refine DU (h:=FW (h:=e_ (?_)));refine A4 rfl (fun hb12 hc12=>?_) (fun hb12 hc12=>?_)
 ·refine BK (h:=?_);refine A6 ?_
  first|(exfalso;first|contradiction|omega)|(exact vi (by first|(unfold BJ;grind)|(unfold BJ Ci;grind)))
 rw[List.length_map]at hc12;refine AG (DT (h:=?_));refine BM (fun n s=>∃j:Nat,j≤r.tests.length∧n=r.tests.length - j∧Kt r.list (r.tests.drop j)=Kt r.list r.tests∧s=⟨look [(1, .bp 0 0),(2, .v (.int .i64 0)),(4, .v (.int .i64 (j:Int)))],⟨[Ab r],[]⟩⟩) (r.tests.length) ((wk 1 0)) (⟨0,by omega,rfl,rfl,rfl⟩) ?_;rintro n s ⟨j,hj,rfl,ha,rfl⟩;refine Fz (h:=?_);refine A4 rfl (fun hb13 hc13=>?_) (fun hb13 hc13=>?_)
 ·obtain⟨hlt,t,hy,hrow, -⟩:=Br CF hc13;refine AG (q_ (BF (q_ (Ct 9 (h:=AA 0 (h:=A9 1 (h:=AE 2 (h:=CL 3 (h:=A9 4 (h:=AA 5 (h:=A9 6 (h:=?_))))))))))));refine c_ 7 rfl (A8 (W9 t _) ?_);rintro r rfl;refine o_ (h:=B9 8 (h:=z_ (h:=t_ (w_ (m_ (h:=Gd (h:=e_ (?_))))))));refine A4 rfl (fun hb14 hc14=>?_) (fun hb14 hc14=>?_)
  ·rw[Ro hy,if_neg hc14]at ha;refine Aa (h:=Ax (h:=Dk (h:=?_)));refine A6 ?_
   first|(exfalso;first|contradiction|omega)|(exact vi (by first|(unfold BJ;grind)|(unfold BJ Ci;grind)))
  refine Cm (h:=?_);refine⟨_,_,?_,⟨j+1,by omega,rfl,(by rw[←ha,Ro hy,if_pos (by omega)]),rfl⟩,(wk 1 0)⟩;omega
 have e:=C6 CF hj hc13;subst e;rw[ZD]at ha;refine CP (h:=?_);refine Qk (⟨look [(1, .bp 0 0),(2, .v (.int .i64 0))],⟨[Ab r],[]⟩⟩) (Ci r=true) ?_ (fun hW=>?_)
 ·skip
  refine Ay (h:=e_ (BF (Ak (h:=?_))));refine A4 rfl (fun hb15 hc15=>?_) (fun hb15 hc15=>?_)
  ·refine Ay (h:=FD (h:=?_));refine AJ false rfl rfl (fun hb16 hc16=>?_) (fun hb16 hc16=>?_)
   ·refine EM (h:=D9 (h:=?_));refine A6 ?_
    first|(exfalso;first|contradiction|omega)|(exact vi (by first|(unfold BJ;grind)|(unfold BJ Ci;grind)))
   refine Ce (h:=CO (h:=?_));refine A4 rfl (fun hb17 hc17=>?_) (fun hb17 hc17=>?_)
   ·refine CB (h:=?_);refine A6 ?_
    first|(exfalso;first|contradiction|omega)|(exact vi (by first|(unfold BJ;grind)|(unfold BJ Ci;grind)))
   refine BG (BA (AR (?_)))
   first|(exfalso;first|contradiction|omega)|exact⟨(by unfold Ci;grind),CM 1 0 rfl⟩
  refine q_ (Ak (h:=?_));refine A4 rfl (fun hb18 hc18=>?_) (fun hb18 hc18=>?_)
  ·refine AG (E3 (h:=Ay (h:=FD (h:=?_))));refine AJ false rfl rfl (fun hb19 hc19=>?_) (fun hb19 hc19=>?_)
   ·refine BB (h:=Bu (h:=BB (h:=Bu (h:=Cl (h:=EM (h:=E3 (h:=w_ (?_))))))));refine Ax (h:=?_);refine A6 ?_
    first|(exfalso;first|contradiction|omega)|(exact vi (by first|(unfold BJ;grind)|(unfold BJ Ci;grind)))
   refine AO (h:=?_);refine As (A8 (Rg _ hp) ?_);rintro r rfl;refine Ck (h:=Bc (h:=?_));refine AJ false rfl rfl (fun hb20 hc20=>?_) (fun hb20 hc20=>?_)
   ·refine BB (h:=Bu (h:=Cl (h:=EM (h:=D9 (h:=?_)))));refine A6 ?_
    first|(exfalso;first|contradiction|omega)|(exact vi (by first|(unfold BJ;grind)|(unfold BJ Ci;grind)))
   refine AO (h:=FW (h:=Bc (h:=?_)));refine AJ false rfl rfl (fun hb21 hc21=>?_) (fun hb21 hc21=>?_)
   ·refine Cl (h:=EM (h:=D9 (h:=?_)));refine A6 ?_
    first|(exfalso;first|contradiction|omega)|(exact vi (by first|(unfold BJ;grind)|(unfold BJ Ci;grind)))
   refine AO (h:=JG (h:=Bc (h:=?_)));refine AJ false rfl rfl (fun hb22 hc22=>?_) (fun hb22 hc22=>?_)
   ·refine EM (h:=D9 (h:=?_));refine A6 ?_
    first|(exfalso;first|contradiction|omega)|(exact vi (by first|(unfold BJ;grind)|(unfold BJ Ci;grind)))
   refine JM (h:=CO (h:=?_));refine A4 rfl (fun hb23 hc23=>?_) (fun hb23 hc23=>?_)
   ·refine CB (h:=?_);refine A6 ?_
    first|(exfalso;first|contradiction|omega)|(exact vi (by first|(unfold BJ;grind)|(unfold BJ Ci;grind)))
   refine BG (BA (AR (?_)))
   first|(exfalso;first|contradiction|omega)|exact⟨(by unfold Ci;grind),CM 1 0 rfl⟩
  refine Aw (EU (h:=?_));refine A4 rfl (fun hb24 hc24=>?_) (fun hb24 hc24=>?_)
  ·refine Ay (h:=FD (h:=?_));refine AJ false rfl rfl (fun hb25 hc25=>?_) (fun hb25 hc25=>?_)
   ·refine BB (h:=Bu (h:=BB (h:=Bu (h:=Cl (h:=EM (h:=E3 (h:=w_ (?_))))))));refine Ax (h:=?_);refine A6 ?_
    first|(exfalso;first|contradiction|omega)|(exact vi (by first|(unfold BJ;grind)|(unfold BJ Ci;grind)))
   refine AO (h:=?_);refine As (A8 (Rg _ hp) ?_);rintro r rfl;refine Ck (h:=Bc (h:=?_));refine AJ false rfl rfl (fun hb26 hc26=>?_) (fun hb26 hc26=>?_)
   ·refine BB (h:=Bu (h:=Cl (h:=EM (h:=D9 (h:=?_)))));refine A6 ?_
    first|(exfalso;first|contradiction|omega)|(exact vi (by first|(unfold BJ;grind)|(unfold BJ Ci;grind)))
   refine AO (h:=FW (h:=Bc (h:=?_)));refine AJ false rfl rfl (fun hb27 hc27=>?_) (fun hb27 hc27=>?_)
   ·refine Cl (h:=EM (h:=D9 (h:=?_)));refine A6 ?_
    first|(exfalso;first|contradiction|omega)|(exact vi (by first|(unfold BJ;grind)|(unfold BJ Ci;grind)))
   refine AO (h:=JG (h:=Bc (h:=?_)));refine AJ false rfl rfl (fun hb28 hc28=>?_) (fun hb28 hc28=>?_)
   ·refine EM (h:=D9 (h:=?_));refine A6 ?_
    first|(exfalso;first|contradiction|omega)|(exact vi (by first|(unfold BJ;grind)|(unfold BJ Ci;grind)))
   refine JM (h:=CO (h:=?_));refine A4 rfl (fun hb29 hc29=>?_) (fun hb29 hc29=>?_)
   ·refine CB (h:=?_);refine A6 ?_
    first|(exfalso;first|contradiction|omega)|(exact vi (by first|(unfold BJ;grind)|(unfold BJ Ci;grind)))
   refine BG (BA (AR (?_)))
   first|(exfalso;first|contradiction|omega)|exact⟨(by unfold Ci;grind),CM 1 0 rfl⟩
  refine CB (h:=?_);refine A6 ?_
  first|(exfalso;first|contradiction|omega)|(exact vi (by first|(unfold BJ;grind)|(unfold BJ Ci;grind)))
 skip
 refine Fh (h:=FW (h:=e_ (?_)));refine A4 rfl (fun hb30 hc30=>?_) (fun hb30 hc30=>?_)
 ·refine BK (h:=?_);refine A6 ?_
  first|(exfalso;first|contradiction|omega)|(exact vi (by first|(unfold BJ;grind)|(unfold BJ Ci;grind)))
 refine AG (K5 (h:=?_));refine A6 ?_
 first|(exfalso;first|contradiction|omega)|(exact vi (by first|(unfold BJ;grind)|(unfold BJ Ci;grind)))
end
deriving instance DecidableEq for Tst
deriving instance DecidableEq for Rul
theorem nF(a b:ByteArray):(a.toList==b.toList)=decide (a=b):=by
 by_cases h:a=b
 ·simp[h]
 have:a.toList≠b.toList:=fun e=>h (by
  rw[ByteArray.toList_eq,ByteArray.toList_eq]at e;obtain⟨⟨x⟩⟩:=a;obtain⟨⟨y⟩⟩:=b
  simpa using e)
 simp[h,this]
theorem nG(a b:Tst):(a.fld==b.fld&&(a.op==b.op&&(a.num==b.num&&(a.text.toList==b.text.toList&&a.other==b.other))))=decide (a=b):=by
 rw[nF];obtain⟨a1,a2,a3,a4,a5⟩:=a;obtain⟨b1,b2,b3,b4,b5⟩:=b;by_cases h1:a1=b1<;>by_cases h2:a2=b2<;>by_cases h3:a3=b3<;>by_cases h4:a4=b4<;>by_cases h5:a5=b5<;>simp[h1,h2,h3,h4,h5]
theorem Rq{α:Type}[DecidableEq α]{a b:List α}{j:Nat}{x y:α}(hx:a[j]?=some x)(hy:b[j]?=some y):decide (a.drop j=b.drop j)=(decide (x=y)&&decide (a.drop (j+1)=b.drop (j+1))):=by
 obtain⟨h1,e1⟩:=Af.1 hx;obtain⟨h2,e2⟩:=Af.1 hy;rw[List.drop_eq_getElem_cons h1,List.drop_eq_getElem_cons h2,e1,e2];by_cases h:x=y<;>simp[h]
theorem nH{α:Type}[DecidableEq α]{a b:List α}(h:a.length≠b.length):decide (a=b)=false:=by
 simp only[decide_eq_false_iff_not];intro e;exact h (by rw[e])
section
theorem ZE(a b:Tst)(w:World):(binOp .neq 115 (.agg #[.int .i64 a.fld, .int .i64 a.op, .int .i64 a.num, .string a.text, .int .i64 a.other]) (.agg #[.int .i64 b.fld, .int .i64 b.op, .int .i64 b.num, .string b.text, .int .i64 b.other])).run prog w= .ok (.bool (!decide (a=b))) w:=by
 have u3:=Tryz.underlying3;have a3:=Tryz.isAgg3;have z3:=Tryz.sizeOf3;have u9:=Tryz.underlying9;have a9:=Tryz.isAgg9;have z9:=Tryz.sizeOf9;have hS:prog.underlying 115=some (.struct (prog.fieldsOf 115)):=by kernel_rfl
 have hp:prog.stoodInHeld 115=false:=by kernel_rfl
 rw[run_neq_struct,show(10000:Nat)=9999+1 from rfl,run_equalIn_agg w 9999 115 _ _ hS hp];simp only[Program.fieldsOf,Tryz.underlying115]
 go_simp
 rw[←nG];by_cases h1:a.fld=b.fld<;>by_cases h2:a.op=b.op<;>by_cases h3:a.num=b.num<;>by_cases h4:a.text.toList=b.text.toList<;>by_cases h5:a.other=b.other<;>simp[h1,h2,h3,h4,h5]
theorem nJ(a b:List Tst)(ha:a.length≤1000):AFn prog 218 [.sl 5 (a.map CF) none, .sl 5 (b.map CF) none] (fun x=>x= .v (.bool (decide (a=b)))):=by
 refine enter Tryz.func218 rfl rfl rfl rfl rfl 0 rfl ?_;refine w_ (Bo (h:=JP (h:=n_ (h:=Bl (h:=?_)))));refine A4 rfl (fun hb1 hc1=>?_) (fun hb1 hc1=>?_)
 ·refine BK (h:=?_);refine A6 ?_
  first|(exfalso;first|contradiction|omega)|(exact vb (by rw[nH (by simp at hc1;omega)]))
 have hl:a.length=b.length:=by simp at hc1;omega
 refine EX (h:=JP (h:=e_ (BF (?_))));refine BM (fun n s=>∃j:Nat,j≤a.length∧n=a.length - j∧decide (a.drop j=b.drop j)=decide (a=b)∧s=⟨look [(0, .sl 5 (a.map CF) none),(1, .sl 5 (b.map CF) none),(12, .v (.int .i64 ((a.map CF).length:Int))),(13, .v (.int .i64 (j:Int)))],⟨[],[]⟩⟩) (a.length) ((wk 0 0)) (⟨0,by omega,rfl,rfl,rfl⟩) ?_;rintro n s ⟨j,hj,rfl,hd,rfl⟩;refine w_ (Cv (h:=q_ (?_)));refine A4 rfl (fun hb2 hc2=>?_) (fun hb2 hc2=>?_)
 ·obtain⟨hlt,x,hx,hrow, -⟩:=Br CF hc2;obtain⟨hlt2,y,hy,hrow2, -⟩:=Br CF (l:=b) (k:=j) (by simpa[hl]using hc2);refine AG (q_ (BF (w_ (m_ (h:=a_ (h:=e_ (q_ (Ct 9 (h:=AE 0 (h:=AE 1 (h:=CL 2 (h:=A9 3 (h:=AE 4 (h:=AE 5 (h:=CL 6 (h:=A9 7 (h:=?_)))))))))))))))));refine F9 (i:=8) rfl (GF rfl rfl (by repeat constructor) (by repeat constructor) (fun w=>ZE x y w) (by kernel_rfl) ⟨rfl,rfl⟩) ?_;refine z_ (h:=t_ (?_));refine A4 rfl (fun hb3 hc3=>?_) (fun hb3 hc3=>?_)
  ·refine Hp (h:=?_);refine A6 ?_
   first|(exfalso;first|contradiction|omega)|(exact vb (by rw[←hd,Rq hx hy];simp[hc3]))
  refine BG (BA (t_ (Aw (JQ (h:=?_)))));refine⟨_,_,?_,⟨j+1,by omega,rfl,(by rw[←hd,Rq hx hy,hc3];simp),rfl⟩,(wk 0 0)⟩;omega
 have e:=C6 CF hj hc2;subst e;refine Fk (h:=?_);refine A6 ?_
 first|(exfalso;first|contradiction|omega)|(exact vb (by rw[←hd,List.drop_length,hl,List.drop_length];rfl))
theorem nK(a:List Tst)(ha:a.length≤1000):AFn prog 129 [.sl 5 (a.map CF) none] (fun x=>x= .sl 5 (a.map CF) none):=by
 refine enter Tryz.func129 rfl rfl rfl rfl rfl 0 rfl ?_;refine w_ (Bo (h:=?_));refine A3 rfl (bT rfl rfl ?_);intro b hb;refine e_ (?_);refine A4 rfl (fun hb1 hc1=>?_) (fun hb1 hc1=>?_)
 ·refine BK (h:=?_);refine QW (xs:=[.v (.slice none 0 0)]) (r:= .sl 5 [] none) none (by repeat (first|exact ResA.nil|(apply ResA.tmp;(focus exact rfl))|(apply ResA.cellN;(focus exact inferInstance);(focus exact rfl);(focus exact rfl);(focus exact rfl))|(apply ResA.cell1;(focus exact inferInstance);(focus exact rfl);(focus exact rfl);(focus exact rfl)))) rfl rfl rfl (LeA.nil _) ⟨rfl,rfl,?_⟩;rw[hb hc1]
 refine AG (w_ (?_));refine A3 rfl (bV (by repeat constructor) ?_);refine m_ (h:=Gb (h:=a_ (h:=e_ (B3 (?_)))));refine A6 ?_;rfl
theorem nL(a b:Rul):a=b↔a.list=b.list∧a.action=b.action∧a.calls=b.calls∧a.tests=b.tests∧a.watch=b.watch∧a.path=b.path∧a.perm=b.perm∧a.key=b.key:=by
 cases a;cases b;simp
theorem Lj(a b:Rul):decide (a=b)=decide (a.list=b.list∧a.action=b.action∧a.calls=b.calls∧a.tests=b.tests∧a.watch=b.watch∧a.path=b.path∧a.perm=b.perm∧a.key=b.key):=decide_eq_decide.2 (nL a b)
theorem nM(a b:Rul)(ha:a.tests.length≤1000):AFn prog 158 [.agg (Ab a), .agg (Ab b)] (fun x=>x= .v (.bool (decide (a=b)))):=by
 refine enter Tryz.func158 rfl rfl rfl rfl rfl 0 rfl ?_;refine FC (h:=Ay (h:=CN (h:=m_ (h:=?_))));refine AJ true rfl rfl (fun hb1 hc1=>?_) (fun hb1 hc1=>?_)
 ·refine AO (h:=CN (h:=Bu (h:=?_)));refine AJ true rfl rfl (fun hb2 hc2=>?_) (fun hb2 hc2=>?_)
  ·refine AO (h:=CN (h:=Bu (h:=?_)));refine AJ true rfl rfl (fun hb3 hc3=>?_) (fun hb3 hc3=>?_)
   ·refine Eg (h:=?_);refine As (A8 (nJ a.tests b.tests ha) ?_);rintro r rfl;refine Bu (h:=?_);refine AJ true rfl rfl (fun hb4 hc4=>?_) (fun hb4 hc4=>?_)
    ·refine AO (h:=CN (h:=Bu (h:=?_)));refine AJ true rfl rfl (fun hb5 hc5=>?_) (fun hb5 hc5=>?_)
     ·refine AO (h:=CN (h:=Bu (h:=?_)));refine AJ true rfl rfl (fun hb6 hc6=>?_) (fun hb6 hc6=>?_)
      ·refine AO (h:=CN (h:=Bu (h:=?_)));refine AJ true rfl rfl (fun hb7 hc7=>?_) (fun hb7 hc7=>?_)
       ·refine AO (h:=CN (h:=Gf (h:=?_)));refine A6 ?_
        first|(exfalso;first|contradiction|omega)|(exact vb (by rw[Lj];simp[*]))
       refine GM (h:=Az (h:=?_));refine A6 ?_
       first|(exfalso;first|contradiction|omega)|(exact vb (by rw[Lj];simp[*]))
      refine FX (h:=GM (h:=Az (h:=?_)));refine A6 ?_
      first|(exfalso;first|contradiction|omega)|(exact vb (by rw[Lj];simp[*]))
     refine FX (h:=FX (h:=GM (h:=Az (h:=?_))));refine A6 ?_
     first|(exfalso;first|contradiction|omega)|(exact vb (by rw[Lj];simp[*]))
    refine FX (h:=FX (h:=FX (h:=Hl (h:=?_))));refine Fj (h:=Az (h:=?_));refine A6 ?_
    first|(exfalso;first|contradiction|omega)|(exact vb (by rw[Lj];simp[*]))
   refine FX (h:=FX (h:=FX (h:=Hl (h:=?_))));refine BY (h:=Bc (h:=GM (h:=Az (h:=?_))));refine A6 ?_
   first|(exfalso;first|contradiction|omega)|(exact vb (by rw[Lj];simp[*]))
  refine FX (h:=FX (h:=FX (h:=Hl (h:=?_))));refine BY (h:=Bc (h:=FX (h:=GM (h:=Az (h:=?_)))));refine A6 ?_
  first|(exfalso;first|contradiction|omega)|(exact vb (by rw[Lj];simp[*]))
 refine FX (h:=FX (h:=FX (h:=Hl (h:=?_))));refine BY (h:=Bc (h:=FX (h:=FX (h:=GM (h:=?_)))));refine Az (h:=?_);refine A6 ?_
 first|(exfalso;first|contradiction|omega)|(exact vb (by rw[Lj];simp[*]))
theorem nN(a b:Rul)(ha:a.tests.length≤1000):AFn prog 104 [.agg (Ab a), .agg (Ab b)] (fun x=>x= .v (.bool (decide (a=b)))):=by
 refine enter Tryz.func104 rfl rfl rfl rfl rfl 0 rfl ?_;refine FC (h:=q_ (?_));refine JB (⟨look [(2, .bp 0 0),(3, .bp 1 0),(61, .v (.bool (!decide (a.list=b.list∧a.action=b.action∧a.calls=b.calls∧a.watch=b.watch∧a.path=b.path∧a.perm=b.perm∧a.key=b.key∧(a.tests.length:Int)=(b.tests.length:Int)))))],⟨[Ab a,Ab b],[]⟩⟩) ?_ ?_
 ·skip
  refine Aw (AO (h:=GJ (h:=?_)));refine AJ false rfl rfl (fun hb1 hc1=>?_) (fun hb1 hc1=>?_)
  ·refine GL (h:=GL (h:=GL (h:=Hl (h:=?_))));refine BY (h:=Bu (h:=GL (h:=GL (h:=Ja (h:=?_)))));refine Hi (h:=FE (h:=?_))
   first|(exfalso;first|contradiction|omega)|exact CM 2 0 rfl
  refine AO (h:=Ce (h:=Bc (h:=?_)));refine AJ false rfl rfl (fun hb2 hc2=>?_) (fun hb2 hc2=>?_)
  ·refine GL (h:=GL (h:=GL (h:=Hl (h:=?_))));refine BY (h:=Bu (h:=GL (h:=BB (h:=JO (h:=?_)))))
   first|(exfalso;first|contradiction|omega)|exact CM 2 0 rfl
  refine AO (h:=Ce (h:=Bc (h:=?_)));refine AJ false rfl rfl (fun hb3 hc3=>?_) (fun hb3 hc3=>?_)
  ·refine GL (h:=GL (h:=GL (h:=Hl (h:=?_))));refine BY (h:=Bu (h:=BB (h:=JO (h:=?_))))
   first|(exfalso;first|contradiction|omega)|exact CM 2 0 rfl
  refine AO (h:=Ce (h:=Bc (h:=?_)));refine AJ false rfl rfl (fun hb4 hc4=>?_) (fun hb4 hc4=>?_)
  ·refine GL (h:=GL (h:=GL (h:=Hl (h:=?_))));refine BB (h:=FE (h:=?_))
   first|(exfalso;first|contradiction|omega)|exact CM 2 0 rfl
  refine AO (h:=Ce (h:=Bc (h:=?_)));refine AJ false rfl rfl (fun hb5 hc5=>?_) (fun hb5 hc5=>?_)
  ·refine GL (h:=GL (h:=BB (h:=JO (h:=?_))))
   first|(exfalso;first|contradiction|omega)|exact CM 2 0 rfl
  refine AO (h:=Ce (h:=Bc (h:=?_)));refine AJ false rfl rfl (fun hb6 hc6=>?_) (fun hb6 hc6=>?_)
  ·refine GL (h:=BB (h:=JO (h:=?_)))
   first|(exfalso;first|contradiction|omega)|exact CM 2 0 rfl
  refine AO (h:=Ce (h:=Bc (h:=?_)));refine AJ false rfl rfl (fun hb7 hc7=>?_) (fun hb7 hc7=>?_)
  ·refine BB (h:=JO (h:=?_))
   first|(exfalso;first|contradiction|omega)|exact CM 2 0 rfl
  refine AO (h:=n_ (h:=AO (h:=n_ (h:=Gd (h:=EJ (h:=?_))))))
  first|(exfalso;first|contradiction|omega)|exact CM 2 0 rfl
 skip
 refine A4 rfl (fun hb8 hc8=>?_) (fun hb8 hc8=>?_)
 ·have hne:a≠b:=by rintro rfl;simp at hc8
  refine BK (h:=?_);refine A6 ?_
  first|(exfalso;first|contradiction|omega)|(exact vb (by simp[hne]))
 have hq:a.list=b.list∧a.action=b.action∧a.calls=b.calls∧a.watch=b.watch∧a.path=b.path∧a.perm=b.perm∧a.key=b.key∧(a.tests.length:Int)=(b.tests.length:Int):=by simpa using hc8
 obtain⟨q1,q2,q3,q4,q5,q6,q7,q8⟩:=hq;have hl:a.tests.length=b.tests.length:=by omega
 refine AG (DT (h:=?_));refine BM (fun n s=>∃j:Nat,j≤a.tests.length∧n=a.tests.length - j∧decide (a.tests.drop j=b.tests.drop j)=decide (a.tests=b.tests)∧s=⟨look [(2, .bp 0 0),(3, .bp 1 0),(5, .v (.int .i64 (j:Int)))],⟨[Ab a,Ab b],[]⟩⟩) (a.tests.length) ((wk 2 0)) (⟨0,by omega,rfl,rfl,rfl⟩) ?_;rintro n s ⟨j,hj,rfl,hd,rfl⟩;refine Fz (h:=?_);refine A4 rfl (fun hb9 hc9=>?_) (fun hb9 hc9=>?_)
 ·obtain⟨hlt,x,hx,hrow, -⟩:=Br CF hc9;obtain⟨hlt2,y,hy,hrow2, -⟩:=Br CF (l:=b.tests) (k:=j) (by simpa[hl]using hc9);refine AG (q_ (BF (q_ (Ct 11 (h:=AA 0 (h:=A9 1 (h:=AE 2 (h:=CL 3 (h:=A9 4 (h:=AA 5 (h:=A9 6 (h:=AE 7 (h:=CL 8 (h:=A9 9 (h:=?_)))))))))))))));refine F9 (i:=10) rfl (GF rfl rfl (by repeat constructor) (by repeat constructor) (fun w=>ZE x y w) (by kernel_rfl) ⟨rfl,rfl⟩) ?_;refine z_ (h:=t_ (?_));refine A4 rfl (fun hb10 hc10=>?_) (fun hb10 hc10=>?_)
  ·have ht:decide (a.tests=b.tests)=false:=by rw[←hd,Rq hx hy];simp[hc10]
   refine Hp (h:=?_);refine A6 ?_
   first|(exfalso;first|contradiction|omega)|(exact vb (by rw[Lj];simp at ht;simp[ht]))
  refine Cm (h:=?_);refine⟨_,_,?_,⟨j+1,by omega,rfl,(by rw[←hd,Rq hx hy,hc10];simp),rfl⟩,(wk 2 0)⟩;omega
 have e:=C6 CF hj hc9;subst e;have ht:decide (a.tests=b.tests)=true:=by rw[←hd,List.drop_length,hl,List.drop_length];rfl
 refine Fk (h:=?_);refine A6 ?_
 first|(exfalso;first|contradiction|omega)|(exact vb (by rw[Lj];simp at ht;simp[*]))
def J5(l:List Rul)(r:Rul):Int:=DV (fun _ x=>decide (x=r)) l 0
theorem nO(i:Nat)(x r:Rul)(hx:x.tests.length≤1000):AFn prog 157 [.v (.int .i64 (i:Int)), .agg (Ab x), .fp (Ab r)] (fun y=>y= .v (.bool (decide (x=r)))):=by
 refine enter Tryz.func157 rfl rfl rfl rfl rfl 0 rfl ?_;refine EG (h:=BO (h:=CA (h:=?_)));refine A3 rfl (A8 (nM x r hx) ?_);rintro r rfl;refine Az (h:=?_);refine A6 ?_;rfl
theorem nP(l:List Rul)(r:Rul)(hl:l.length≤1000)(ht:∀r∈l,r.tests.length≤1000):AFn prog 107 [.sl 8 (l.map Ab) none, .agg (Ab r)] (fun x=>x= .v (.int .i64 (J5 l r))):=by
 refine enter Tryz.func107 rfl rfl rfl rfl rfl 0 rfl ?_;refine EG (h:=Bt (h:=Sj (h:=?_)));refine A3 rfl (Sa rfl (by repeat (first|exact ArgsL.nil|refine ArgsL.cons _ _ _ _ _ rfl rfl ?_)) (WY l hl (fun _ x=>decide (x=r)) 157 [.fp (Ab r)] rfl rfl fun i x hi=>nO i x r (ht x (Am hi))) ?_);rintro x rfl;refine⟨rfl,?_⟩;refine Az (h:=?_);refine A6 ?_;rfl
theorem UY(l:List Rul)(r:Rul)(hl:l.length≤1000)(ht:∀r∈l,r.tests.length≤1000):AFn prog 109 [.sl 8 (l.map Ab) none, .agg (Ab r)] (fun x=>x= .v (.int .i64 (J5 l r))):=by
 refine enter Tryz.func109 rfl rfl rfl rfl rfl 0 rfl ?_;refine EG (h:=JK (h:=?_));refine BM (fun n s=>∃j:Nat,j≤l.length∧n=l.length - j∧DV (fun _ x=>decide (x=r)) (l.drop j) j=J5 l r∧s=⟨look [(0, .sl 8 (l.map Ab) none),(3, .bp 0 0),(5, .v (.int .i64 (j:Int)))],⟨[Ab r],[]⟩⟩) (l.length) ((wk 1 0)) (⟨0,by omega,rfl,rfl,rfl⟩) ?_;rintro n s ⟨j,hj,rfl,ha,rfl⟩;refine De (h:=Fi (h:=?_));refine A4 rfl (fun hb1 hc1=>?_) (fun hb1 hc1=>?_)
 ·obtain⟨hlt,x,hy,hrow, -⟩:=Br Ab hc1;refine AG (q_ (BF (q_ (Ct 6 (h:=AE 0 (h:=AE 1 (h:=CL 2 (h:=A9 3 (h:=A9 4 (h:=?_))))))))));refine c_ 5 rfl (A8 (nN x r (ht x (Am hy))) ?_);rintro r rfl;refine HG (h:=t_ (?_));refine A4 rfl (fun hb2 hc2=>?_) (fun hb2 hc2=>?_)
  ·refine Aa (h:=Ax (h:=Dk (h:=?_)));refine A6 ?_
   first|(exfalso;first|contradiction|omega)|(exact vi (by rw[←ha,Mk hy];simp[hc2]))
  refine Cm (h:=?_);refine⟨_,_,?_,⟨j+1,by omega,rfl,(by rw[←ha,Mk hy];simp[hc2]),rfl⟩,(wk 1 0)⟩;omega
 have e:=C6 Ab hj hc1;subst e;refine Fk (h:=?_);refine A6 ?_
 first|(exfalso;first|contradiction|omega)|(exact vi (by rw[←ha,R6]))
def Ju(pre:List Rul):List Rul→Int
 |[]=>0
 |r::rs=>if BJ r≠0 then BJ r else if 0≤J5 pre r then 141 else Ju (pre++[r]) rs
theorem Oc{l:List Rul}{j:Nat}{r:Rul}(h:l[j]?=some r):Ju (l.take j) (l.drop j)=if BJ r≠0 then BJ r else if 0≤J5 (l.take j) r then 141 else Ju (l.take (j+1)) (l.drop (j+1)):=by
 obtain⟨hk,e⟩:=Af.1 h;rw[List.drop_eq_getElem_cons hk,Ju,e,List.take_succ_eq_append_getElem hk,e]
def ED(l:List Rul):Int:=if 24<(l.length:Int)then 140 else Ju [] l
theorem nQ(l:List Rul)(hl:l.length≤1000)(hi:∀r∈l,FR r):AFn prog 85 [.sl 8 (l.map Ab) none] (fun x=>x= .v (.int .i64 (ED l))):=by
 have hfind:∀j r,AFn prog 107 [.sl 8 ((l.map Ab).take j) none, .agg (Ab r)] (fun x=>x= .v (.int .i64 (J5 (l.take j) r))):=fun j r=>by
  rw[←List.map_take];exact nP (l.take j) r (by simp;omega) fun x hx=>(hi x (List.mem_of_mem_take hx)).2.2.2
 refine enter Tryz.func85 rfl rfl rfl rfl rfl 0 rfl ?_;refine w_ (Bo (h:=FW (h:=e_ (?_))));refine A4 rfl (fun hb1 hc1=>?_) (fun hb1 hc1=>?_)
 ·rw[List.length_map]at hc1;refine BK (h:=?_);refine A6 ?_
  first|(exfalso;first|contradiction|omega)|(exact vi (by rw[ED,if_pos hc1]))
 rw[List.length_map]at hc1;refine EX (h:=JP (h:=e_ (BF (?_))));refine BM (fun n s=>∃j:Nat,j≤l.length∧n=l.length - j∧Ju (l.take j) (l.drop j)=Ju [] l∧s=⟨look [(0, .sl 8 (l.map Ab) none),(9, .sl 8 (l.map Ab) none),(10, .v (.int .i64 ((l.map Ab).length:Int))),(11, .v (.int .i64 (j:Int)))],⟨[],[]⟩⟩) (l.length) ((wk 0 0)) (⟨0,by omega,rfl,rfl,rfl⟩) ?_;rintro n s ⟨j,hj,rfl,ha,rfl⟩;refine w_ (Cv (h:=q_ (?_)));refine A4 rfl (fun hb2 hc2=>?_) (fun hb2 hc2=>?_)
 ·obtain⟨hlt,r,hy,hrow, -⟩:=Br Ab hc2;refine By (h:=Aa (h:=i_ (h:=l_ (h:=CU (h:=a_ (h:=Ei (h:=q_ (C4 (h:=?_)))))))));refine A3 rfl (A8 (nE r (hi r (Am hy))) ?_);rintro r rfl;refine Bt (h:=Bl (h:=?_));refine A4 rfl (fun hb3 hc3=>?_) (fun hb3 hc3=>?_)
  ·refine Aa (h:=Dd (h:=D8 (h:=Dk (h:=?_))));refine A6 ?_
   first|(exfalso;first|contradiction|omega)|(exact vi (by rw[ED,if_neg hc1,←ha,Oc hy,if_pos hc3]))
  refine AG (q_ (Ct 6 (h:=AE 0 (h:=AE 1 (h:=?_)))));refine F9 (i:=2) rfl (SP (k:=j) rfl rfl rfl (by simp;omega) ⟨rfl,rfl⟩) ?_;refine A9 3 (h:=?_);refine c_ 4 rfl (A8 (hfind j r) ?_);rintro r rfl;refine o_ (h:=Vj 5 (h:=z_ (h:=t_ (?_))));refine A4 rfl (fun hb4 hc4=>?_) (fun hb4 hc4=>?_)
  ·refine Hp (h:=?_);refine A6 ?_
   first|(exfalso;first|contradiction|omega)|(exact vi (by rw[ED,if_neg hc1,←ha,Oc hy,if_neg (by omega),if_pos hc4]))
  refine BG (BA (t_ (Aw (JQ (h:=?_)))));refine⟨_,_,?_,⟨j+1,by omega,rfl,(by rw[←ha,Oc hy,if_neg (by omega),if_neg hc4]),rfl⟩,(wk 0 0)⟩;omega
 have e:=C6 Ab hj hc2;subst e;refine Fk (h:=?_);refine A6 ?_
 first|(exfalso;first|contradiction|omega)|(exact vi (by rw[ED,if_neg hc1,←ha];simp[Ju]))
end
section
theorem ZF(l:List Rul)(hl:l.length≤1000)(hi:∀r∈l,FR r):AFn prog 88 [.sl 8 (l.map Ab) none] (fun x=>x= .v (.int .i64 (ED l))):=by
 have hfind:∀j r,AFn prog 109 [.sl 8 ((l.map Ab).take j) none, .agg (Ab r)] (fun x=>x= .v (.int .i64 (J5 (l.take j) r))):=fun j r=>by
  rw[←List.map_take];exact UY (l.take j) r (by simp;omega) fun x hx=>(hi x (List.mem_of_mem_take hx)).2.2.2
 refine enter Tryz.func88 rfl rfl rfl rfl rfl 0 rfl ?_;refine w_ (Bo (h:=FW (h:=e_ (?_))));refine A4 rfl (fun hb1 hc1=>?_) (fun hb1 hc1=>?_)
 ·rw[List.length_map]at hc1;refine BK (h:=?_);refine A6 ?_
  first|(exfalso;first|contradiction|omega)|(exact vi (by rw[ED,if_pos hc1]))
 rw[List.length_map]at hc1;refine AG (DT (h:=?_));refine BM (fun n s=>∃j:Nat,j≤l.length∧n=l.length - j∧Ju (l.take j) (l.drop j)=Ju [] l∧s=⟨look [(0, .sl 8 (l.map Ab) none),(3, .v (.int .i64 (j:Int)))],⟨[],[]⟩⟩) (l.length) ((wk 0 0)) (⟨0,by omega,rfl,rfl,rfl⟩) ?_;rintro n s ⟨j,hj,rfl,ha,rfl⟩;refine De (h:=Fi (h:=?_));refine A4 rfl (fun hb2 hc2=>?_) (fun hb2 hc2=>?_)
 ·obtain⟨hlt,r,hy,hrow, -⟩:=Br Ab hc2;refine By (h:=Bf (h:=GG (h:=l_ (h:=?_))));refine A3 rfl (A8 (Rp r (hi r (Am hy))) ?_);rintro r rfl;refine Bt (h:=Bl (h:=?_));refine A4 rfl (fun hb3 hc3=>?_) (fun hb3 hc3=>?_)
  ·refine Aa (h:=Dd (h:=D8 (h:=Dk (h:=?_))));refine A6 ?_
   first|(exfalso;first|contradiction|omega)|(exact vi (by rw[ED,if_neg hc1,←ha,Oc hy,if_pos hc3]))
  refine AG (q_ (Ct 9 (h:=AE 0 (h:=AE 1 (h:=?_)))));refine F9 (i:=2) rfl (SP (k:=j) rfl rfl rfl (by simp;omega) ⟨rfl,rfl⟩) ?_;refine AE 3 (h:=AE 4 (h:=CL 5 (h:=A9 6 (h:=?_))));refine c_ 7 rfl (A8 (hfind j r) ?_);rintro r rfl;refine o_ (h:=Vj 8 (h:=z_ (h:=t_ (?_))));refine A4 rfl (fun hb4 hc4=>?_) (fun hb4 hc4=>?_)
  ·refine Hp (h:=?_);refine A6 ?_
   first|(exfalso;first|contradiction|omega)|(exact vi (by rw[ED,if_neg hc1,←ha,Oc hy,if_neg (by omega),if_pos hc4]))
  refine Cm (h:=?_);refine⟨_,_,?_,⟨j+1,by omega,rfl,(by rw[←ha,Oc hy,if_neg (by omega),if_neg hc4]),rfl⟩,(wk 0 0)⟩;omega
 have e:=C6 Ab hj hc2;subst e;refine Fk (h:=?_);refine A6 ?_
 first|(exfalso;first|contradiction|omega)|(exact vi (by rw[ED,if_neg hc1,←ha];simp[Ju]))
theorem Rr(r:Rul)(hl:r.tests.length≤1000):AFn prog 102 [.agg (Ab r)] (fun x=>x= .agg (Ab r)):=by
 refine enter Tryz.func102 rfl rfl rfl rfl rfl 0 rfl ?_;refine w_ (b_ (h:=CU (h:=e_ (w_ (f_ (h:=l_ (h:=Gb (h:=f_ (h:=s_ (h:=e_ (w_ (l_ (h:=s_ (h:=e_ (B3 (?_))))))))))))))));refine A6 ?_;rfl
theorem nR(l:List Rul)(h1:l.length≤1000)(hl:∀r∈l,r.tests.length≤1000):QZ prog 89 [.sl 8 (l.map Ab) none] (fun g=> .sl 8 (l.map Ab) g) (83,8,l.map Ab):=by
 refine enter Tryz.func89 rfl rfl rfl rfl rfl 0 rfl ?_;refine D7 (h:=D7 (h:=DT (h:=?_)));refine N6 3 83 8 rfl (by repeat constructor) ?_;refine BM (fun n s=>∃k:Nat,k≤l.length∧n=l.length - k∧s=⟨look [(0, .sl 8 (l.map Ab) none),(3, .sl 8 ((l.take k).map Ab) (some 0)),(4, .v (.int .i64 (k:Int)))],⟨[],[(83,8,(l.take k).map Ab)]⟩⟩) (l.length) ((wk 0 1)) (⟨0,BE _,rfl,rfl⟩) ?_;rintro n s ⟨k,hk,rfl,rfl⟩;refine De (h:=Fi (h:=?_));refine A4 rfl (fun hb1 hc1=>?_) (fun hb1 hc1=>?_)
 ·obtain⟨hlt,r,hr,hrow,e⟩:=Br Ab hc1;refine By (h:=EK (h:=GG (h:=l_ (h:=?_))));refine A3 rfl (A8 (Rr r (hl r (Am hr))) ?_);rintro r rfl;refine BX (h:=Gb (h:=a_ (h:=Bw (BA (t_ (Aw (m_ (h:=Ec (h:=a_ (h:=Bw (AR (?_))))))))))));refine⟨_,_,?_,⟨k+1,by omega,rfl,rfl⟩,?_⟩
  ·omega
  rw[e];exact(wk 0 1)
 have e:=C6 Ab hk hc1;subst e;rw[List.take_length];refine CP (h:=Dv (h:=?_));refine AX (some 0) (h5:=(A7 _)) (h6:=⟨rfl,rfl,rfl⟩)
theorem nT(l:List Rul)(h1:l.length≤1000)(hl:∀r∈l,r.tests.length≤1000):AFn prog 89 [.sl 8 (l.map Ab) none] (fun x=>x= .sl 8 (l.map Ab) none):=by
 refine enter Tryz.func89 rfl rfl rfl rfl rfl 0 rfl ?_;refine D7 (h:=D7 (h:=DT (h:=?_)));refine N6 3 83 8 rfl (by repeat constructor) ?_;refine BM (fun n s=>∃k:Nat,k≤l.length∧n=l.length - k∧s=⟨look [(0, .sl 8 (l.map Ab) none),(3, .sl 8 ((l.take k).map Ab) (some 0)),(4, .v (.int .i64 (k:Int)))],⟨[],[(83,8,(l.take k).map Ab)]⟩⟩) (l.length) ((wk 0 1)) (⟨0,BE _,rfl,rfl⟩) ?_;rintro n s ⟨k,hk,rfl,rfl⟩;refine De (h:=Fi (h:=?_));refine A4 rfl (fun hb1 hc1=>?_) (fun hb1 hc1=>?_)
 ·obtain⟨hlt,r,hr,hrow,e⟩:=Br Ab hc1;refine By (h:=EK (h:=GG (h:=l_ (h:=?_))));refine A3 rfl (A8 (Rr r (hl r (Am hr))) ?_);rintro r rfl;refine BX (h:=Gb (h:=a_ (h:=Bw (BA (t_ (Aw (m_ (h:=Ec (h:=a_ (h:=Bw (AR (?_))))))))))));refine⟨_,_,?_,⟨k+1,by omega,rfl,rfl⟩,?_⟩
  ·omega
  rw[e];exact(wk 0 1)
 have e:=C6 Ab hk hc1;subst e;rw[List.take_length];refine CP (h:=Dv (h:=?_));refine A6 ?_;rfl
end
def D6(l:List Rul)(r:Rul)(front:Bool):List Rul×Int:=
 if ED l≠0 then([],ED l)else if BJ r≠0 then([],BJ r)else if 0≤J5 l r then([],141)else if 24≤(l.length:Int)then([],140)else(if front=true then r::l else l++[r],0)
def tD(l:List Rul)(r:Rul):List Rul×Int:=
 if ED l≠0 then([],ED l)else if J5 l r<0 then([],142)else(l.eraseIdx (J5 l r).toNat,0)
def JU(x:List Rul×Int):AV:= .tup [.sl 8 (x.1.map Ab) none, .v (.int .i64 x.2)]
theorem ZG{l:List Rul}(h:¬ED l≠0):(l.length:Int)≤24:=by
 unfold ED at h;split at h
 ·simp at h
 omega
theorem My{x:List Rul×Int}{e:Int}(h:x=([],e)):LeA (.tup [.v (.slice none 0 0), .v (.int .i64 e)]) (JU x):=by
 rw[h];exact(by repeat (first|exact A7 _|exact LeA.nil _|exact LeL.refl _|refine LeA.agg ?_|refine LeA.tup ?_|exact LeL.nil|refine LeL.cons ?_ ?_|exact LeA.any _))
theorem ZH{x:List Rul×Int}{l:List Rul}{e:Int}(h:x=(l,e)):LeA (.tup [.sl 8 (l.map Ab) none, .v (.int .i64 e)]) (JU x):=by
 rw[h];exact A7 _
end Go.Proofs.YtbgnigjfkbmceaaGreatDoor
