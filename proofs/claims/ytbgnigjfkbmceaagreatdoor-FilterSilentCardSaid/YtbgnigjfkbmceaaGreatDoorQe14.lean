/-
  Part 14 of the proof of FilterSilentP: what the statement's proof uses of the texts in wip/tpl.
-/
import Derived.Test.YtbgnigjfkbmceaaGreatDoorQe13
open Go.Proofs.Tryz (prog)
set_option maxRecDepth 10000
set_option maxHeartbeats 4000000
set_option linter.unusedVariables false
set_option linter.unusedSimpArgs false
namespace Go.Proofs.YtbgnigjfkbmceaaGreatDoor
open Go.RowKit
theorem lO{s:Spc}{fl:Bool}{p:AE}{ps:List AE}{a:AB}{lk:Nat}{τ:Lk}(h:DS s fl p ps a lk= .inr τ):τ.name.size≤12:=by
 unfold DS at h;split at h
 ·cases h
 split at h
 ·cases h
 rename_i h2
 repeat' split at h
 all_goals first|(cases h;done)|(injection h with h;subst h;first|exact BH 12|exact Nat.le_of_not_lt h2)
theorem lP{s:Spc}{fl:Bool}:∀(k:Nat) (σ:Lk),σ.name.size≤12→(Kr s fl k σ).2.name.size≤12:=by
 intro k
 induction k with
 |zero=>intro σ h;exact h
 |succ k ih=>
   intro σ h;unfold Kr
   cases σ.ps with
   |nil=>exact h
   |cons p ps=>
     simp only
     cases hs:DS s fl p ps σ.file σ.links with
     |inl e=>exact BH 12
     |inr τ=>exact ih _ (lO hs)
theorem YV(s:Spc)(st:AB)(p:AE)(fl:Bool):(C2 s st p fl).1.name.size≤12:=by
 unfold C2;generalize (if Hk p=true then Hl s else st)=d
 repeat' split
 all_goals first|exact BH 12|exact lP _ _ (BH 12)
theorem lQ{s:Spc}{cwd:AB}{fl:Bool}{X:List Itm×List Fnd×Int}{g:AE×Int}(h:∀f∈X.2.1,f.name.size≤12):(∀f∈(Hm s cwd fl X g).2.1,f.name.size≤12)∧(Hm s cwd fl X g).1.length=X.1.length+1∧(Hm s cwd fl X g).2.1.length=X.2.1.length+1:=by
 unfold Hm;split
 ·split
  ·refine⟨fun f hf=>?_,by simp,by simp⟩;rcases List.mem_append.1 hf with hf|hf
   ·exact h f hf
   rw[List.mem_singleton.1 hf];exact YV _ _ _ _
  refine⟨fun f hf=>?_,by simp,by simp⟩;rcases List.mem_append.1 hf with hf|hf
  ·exact h f hf
  rw[List.mem_singleton.1 hf];exact YV _ _ _ _
 refine⟨fun f hf=>?_,by simp,by simp⟩;rcases List.mem_append.1 hf with hf|hf
 ·exact h f hf
 rw[List.mem_singleton.1 hf];exact BH 12
theorem lR(s:Spc)(cwd:AB)(fl:Bool)(e:Int):∀(l:List (AE×Int)),(∀f∈(LJ s cwd fl l e).2.1,f.name.size≤12)∧(LJ s cwd fl l e).1.length=l.length∧(LJ s cwd fl l e).2.1.length=l.length:=by
 have key:∀(l:List (AE×Int)) (X:List Itm×List Fnd×Int),(∀f∈X.2.1,f.name.size≤12)→(∀f∈(l.foldl (Hm s cwd fl) X).2.1,f.name.size≤12)∧(l.foldl (Hm s cwd fl) X).1.length=X.1.length+l.length∧(l.foldl (Hm s cwd fl) X).2.1.length=X.2.1.length+l.length:=by
  intro l
  induction l with
  |nil=>intro X h;exact⟨h,rfl,rfl⟩
  |cons g l ih=>
    intro X h;obtain⟨h1,h2,h3⟩:=lQ (s:=s) (cwd:=cwd) (fl:=fl) (g:=g) h;obtain⟨k1,k2,k3⟩:=ih _ h1;rw[List.foldl_cons];refine⟨k1,?_,?_⟩
    ·rw[k2,h2,List.length_cons];omega
    rw[k3,h3,List.length_cons];omega
 intro l;have:=key l ([],[],e) (fun f hf=>by cases hf);refine⟨this.1,by rw[LJ,this.2.1];simp,by rw[LJ,this.2.2];simp⟩
theorem YW{c:Cal}(h:Bl c=0):(c.paths.length:Int)=(Bv c.num).2.2.1∧(Bv c.num).2.2.2.1≤(c.args.length:Int)∧(c.args.length:Int)≤(Bv c.num).2.2.2.2∧(∀p∈c.paths,p.size≤128)∧∀p∈c.args,p.size≤64:=by
 unfold Bl at h;split at h
 ·exact absurd h (by decide)
 split at h
 ·exact absurd h (by decide)
 split at h
 ·exact absurd h (by decide)
 rename_i h3;split at h
 ·exact absurd h (by decide)
 rename_i h4;split at h
 ·exact absurd h (by decide)
 rename_i h5;refine⟨by omega,by omega,by omega,fun p hp=>?_,fun p hp=>?_⟩
 ·refine Nat.le_of_not_lt fun hl=>h4 (List.any_eq_true.2 ⟨p,hp,decide_eq_true hl⟩)
 refine Nat.le_of_not_lt fun hl=>h5 (List.any_eq_true.2 ⟨p,hp,decide_eq_true hl⟩)
theorem lS{c0 c1 c2 c3 c4 c5:List AV}(w:Wrk)(rows:List (List AV))(n cap:Nat)(L:List Itm):Back [c0,c1,c2,c3,c4,c5] [5] [Da w (.sl 8 rows none) (.bs 1 0 13 n cap),LB 13 CV L cap] [c0,c1,c2,c3,c4,Da w (.sl 8 rows none) (.bs 6 0 13 n cap),LB 13 CV L cap]:=by
 have:=PP (bx:=[c0,c1,c2,c3,c4,c5]) (is:=[5]) (bc:=[Da w (.sl 8 rows none) (.bs 1 0 13 n cap),LB 13 CV L cap]) (by simp) (by simp) (by simp);have e2:E5 (Ee [5] [c0,c1,c2,c3,c4,c5].length) (LB 13 CV L cap)=LB 13 CV L cap:=Db B1 _ _ _
 have hb:Dw [c0,c1,c2,c3,c4,c5] (Ee [5] [c0,c1,c2,c3,c4,c5].length) [5] [Da w (.sl 8 rows none) (.bs 1 0 13 n cap),LB 13 CV L cap]=[c0,c1,c2,c3,c4,Da w (.sl 8 rows none) (.bs 6 0 13 n cap),LB 13 CV L cap]:=by
  unfold Dw;unfold Dw;rw[List.map_cons,e2];rfl
 rw[hb]at this;exact this
theorem YX(s:Syst)(pid:Int)(c:Cal):(∀f∈(Jz s pid c).found,f.name.size≤12)∧(Jz s pid c).found.length=(c.paths.zip (D6 c)).length∧(Jz s pid c).r.items.length=(c.paths.zip (D6 c)).length:=by
 obtain⟨h1,h2,h3⟩:=lR s.spc (AN s.tab pid).cwd (DT c) (DD (AN s.tab pid) c) (c.paths.zip (D6 c));exact⟨h1,h3,h2⟩
section
theorem YY(w:Wrk)(F I:AV)(h9:w.c.num=9→0<w.c.args.length)(hsz:∀p∈w.c.args,p.size≤1000):AFn prog 97 [.fp (Da w F I)] (fun r=>r= .v (.int .i64 (DD w.p w.c))):=by
 have hol:(w.p.opens.map GX).length=w.p.opens.length:=List.length_map _;refine enter Tryz.func97 rfl rfl rfl rfl rfl 0 rfl ?_;refine EX (h:=Dg (h:=Dz (h:=Bk (h:=Dg (h:=e_ (BK (w_ (EG (h:=a_ (h:=?_))))))))));refine e_ (?_);refine A4 rfl (fun hb1 hc1=>?_) (fun hb1 hc1=>?_)
 ·refine q_ (w_ (?_));refine A3 rfl (Bw (len:=4) (sz:=1) (n:=0) (by kernel_rfl) rfl rfl rfl rfl ?_);refine l_ (h:=DZ (h:=?_));refine AJ false rfl rfl (fun hb2 hc2=>?_) (fun hb2 hc2=>?_)
  ·refine Cg (h:=BT (h:=Bz (h:=BT (h:=FS (h:=L6 (?_))))));refine Ba (?_);refine A6 ?_
   first|(exfalso;first|contradiction|omega)|(exact vi (by simp[DD, *]))
  refine Aq (Bw (len:=4) (sz:=1) (n:=0) (by kernel_rfl) rfl rfl rfl rfl ?_);refine l_ (h:=E6 (h:=Be (h:=?_)));refine AJ false rfl rfl (fun hb3 hc3=>?_) (fun hb3 hc3=>?_)
  ·refine BT (h:=Bz (h:=BT (h:=SR (h:=CT (h:=?_)))));refine A6 ?_
   first|(exfalso;first|contradiction|omega)|(exact vi (by simp[DD, *]))
  refine Aq (Bw (len:=4) (sz:=1) (n:=0) (by kernel_rfl) rfl rfl rfl rfl ?_);refine l_ (h:=Eu (h:=EG (h:=Be (h:=?_))));refine AJ false rfl rfl (fun hb4 hc4=>?_) (fun hb4 hc4=>?_)
  ·refine BT (h:=SR (h:=CT (h:=?_)));refine A6 ?_
   first|(exfalso;first|contradiction|omega)|(exact vi (by simp[DD, *]))
  refine Aq (Bw (len:=4) (sz:=1) (n:=1) (by kernel_rfl) rfl rfl rfl rfl ?_);refine l_ (h:=?_);refine Aq (A8 (Ty w.c.a1) ?_);rintro r rfl;refine DP (h:=CH (h:=?_));refine A4 rfl (fun hb5 hc5=>?_) (fun hb5 hc5=>?_)
  ·refine BL (h:=D1 (h:=?_));refine A6 ?_
   first|(exfalso;first|contradiction|omega)|(exact vi (by simp[DD, *]))
  refine AF (AX (h:=Dg (h:=n_ (h:=E7 (h:=e_ (?_))))));refine A4 rfl (fun hb6 hc6=>?_) (fun hb6 hc6=>?_)
  ·have h8:8≤(w.p.opens.length:Int):=by rw[List.length_map]at hc6;exact hc6
   refine Bh (h:=?_);refine A6 ?_
   first|(exfalso;first|contradiction|omega)|(exact vi (by simp[DD, *]))
  have h8:¬8≤(w.p.opens.length:Int):=by rw[List.length_map]at hc6;exact hc6
  refine FE (h:=?_);refine A6 ?_
  first|(exfalso;first|contradiction|omega)|(exact vi (by simp[DD, *]))
 refine Ar (h:=?_);refine A4 rfl (fun hb7 hc7=>?_) (fun hb7 hc7=>?_)
 ·obtain⟨a0,ha0⟩:∃a,w.c.args[0]?=some a:=⟨_,B2 (h9 hc7)⟩;have harg:(w.c.args.map DE)[0]?=some (DE a0):=by rw[List.getElem?_map,ha0];rfl
  have hag:KS w.c=a0:=by unfold KS;rw[List.headD_eq_head?_getD,List.head?_eq_getElem?,ha0];rfl
  have hsa:=hsz a0 (Aj ha0);refine Bk (h:=Dg (h:=?_));refine A3 rfl (D7 (n:=0) rfl rfl rfl harg ?_);refine l_ (h:=BN (h:=?_));refine A4 rfl (fun hb8 hc8=>?_) (fun hb8 hc8=>?_)
  ·refine BL (h:=D1 (h:=?_));refine A6 ?_
   first|(exfalso;first|contradiction|omega)|(exact vi (by simp[DD, *]))
  refine AF (Nc (h:=?_));refine BU (fun m s=>∃j:Nat,j≤a0.size∧m=a0.size - j∧(∀(i:Nat) (h:i<a0.data.toList.length),i<j→a0.data.toList[i]≠0)∧s=⟨look [(0, .fp (Da w F I)),(4, .v (.int .i64 (j:Int)))],⟨[],[]⟩⟩) (a0.size) ((wk 0 0)) (⟨0,BH _,rfl,fun i h1 h2=>by omega,rfl⟩) ?_;rintro m s ⟨j,hj,rfl,hz,rfl⟩;refine Dq (h:=Dg (h:=?_));refine A3 rfl (D7 (n:=0) rfl rfl rfl harg ?_);refine l_ (h:=Gm (h:=?_));refine A4 rfl (fun hb9 hc9=>?_) (fun hb9 hc9=>?_)
  ·have hlt:j<a0.size:=by omega
   refine C0 (h:=AX (h:=Dg (h:=?_)));refine A3 rfl (D7 (n:=0) rfl rfl rfl harg ?_);refine Gv (h:=?_);refine A3 rfl (Lg (n:=j) Tryz.underlying9 rfl rfl rfl hlt ?_);refine BN (h:=?_);refine A4 rfl (fun hb10 hc10=>?_) (fun hb10 hc10=>?_)
   ·have hany:(a0.data.toList.any fun b=>decide (b=0))=true:=by
     rw[List.any_eq_true];refine⟨a0.data.toList[j]'(by simpa using hlt),List.getElem_mem _,?_⟩;have h00:a0[j].toNat=0:=by have:=hc10;omega
     simp;exact UInt8.toNat_inj.1 h00
    refine Bh (h:=Ba (L6 (D1 (h:=?_))));refine A6 ?_
    first|(exfalso;first|contradiction|omega)|(exact vi (by simp[DD, *]))
   have hne:a0.data.toList[j]'(by simpa using hlt)≠0:=by
    intro e;have h00:¬a0[j].toNat=0:=by have:=hc10;omega
    simp at e;exact h00 (congrArg UInt8.toNat e)
   refine DH (h:=?_)
   refine⟨_,_,?_,⟨j+1,by omega,rfl,(fun i h1 h2=>by
    by_cases e:i=j
    ·subst e;exact hne
    exact hz i h1 (by omega)),rfl⟩,(wk 0 0)⟩
   omega
  have hany:(a0.data.toList.any fun b=>decide (b=0))=false:=by
   rw[List.any_eq_false];intro b hb;obtain⟨i,hi,rfl⟩:=List.mem_iff_getElem.1 hb;have:=hz i hi (by have hl:=Lib.size_eq a0;omega)
   simpa using this
  refine Kh (h:=SV (h:=?_));refine A6 ?_
  first|(exfalso;first|contradiction|omega)|(exact vi (by simp[DD, *]))
 refine q_ (Ar (h:=?_));refine A4 rfl (fun hb11 hc11=>?_) (fun hb11 hc11=>?_)
 ·refine AF (CX (h:=w_ (?_)));refine A3 rfl (Bw (len:=4) (sz:=1) (n:=0) (by kernel_rfl) rfl rfl rfl rfl ?_);refine l_ (h:=?_);refine A3 rfl (A8 (Ty w.c.a0) ?_);rintro r rfl;refine DA (h:=?_);refine A4 rfl (fun hb12 hc12=>?_) (fun hb12 hc12=>?_)
  ·refine Bh (h:=?_);refine A6 ?_
   first|(exfalso;first|contradiction|omega)|(exact vi (by simp[DD, *]))
  refine FE (h:=?_);refine A6 ?_
  first|(exfalso;first|contradiction|omega)|(exact vi (by simp[DD, *]))
 refine Aw (EW (h:=?_));refine A4 rfl (fun hb13 hc13=>?_) (fun hb13 hc13=>?_)
 ·refine w_ (?_);refine A3 rfl (Bw (len:=4) (sz:=1) (n:=0) (by kernel_rfl) rfl rfl rfl rfl ?_);refine l_ (h:=?_);refine A3 rfl (A8 (Ty w.c.a0) ?_);rintro r rfl;refine DA (h:=?_);refine A4 rfl (fun hb14 hc14=>?_) (fun hb14 hc14=>?_)
  ·refine Bh (h:=?_);refine A6 ?_
   first|(exfalso;first|contradiction|omega)|(exact vi (by simp[DD, *]))
  refine FE (h:=?_);refine A6 ?_
  first|(exfalso;first|contradiction|omega)|(exact vi (by simp[DD, *]))
 refine Ar (h:=?_);refine A4 rfl (fun hb15 hc15=>?_) (fun hb15 hc15=>?_)
 ·refine w_ (?_);refine A3 rfl (Bw (len:=4) (sz:=1) (n:=0) (by kernel_rfl) rfl rfl rfl rfl ?_);refine l_ (h:=DZ (h:=?_));refine AJ false rfl rfl (fun hb16 hc16=>?_) (fun hb16 hc16=>?_)
  ·refine Cg (h:=Cg (h:=ER (h:=D3 (h:=?_))));refine A6 ?_
   first|(exfalso;first|contradiction|omega)|(exact vi (by simp[DD, *]))
  refine Aq (Bw (len:=4) (sz:=1) (n:=0) (by kernel_rfl) rfl rfl rfl rfl ?_);refine l_ (h:=E6 (h:=Be (h:=?_)));refine AJ false rfl rfl (fun hb17 hc17=>?_) (fun hb17 hc17=>?_)
  ·refine Cg (h:=ER (h:=D3 (h:=?_)));refine A6 ?_
   first|(exfalso;first|contradiction|omega)|(exact vi (by simp[DD, *]))
  refine Aq (Bw (len:=4) (sz:=1) (n:=1) (by kernel_rfl) rfl rfl rfl rfl ?_);refine l_ (h:=Jn (h:=Be (h:=?_)));refine AJ false rfl rfl (fun hb18 hc18=>?_) (fun hb18 hc18=>?_)
  ·refine ER (h:=D3 (h:=?_));refine A6 ?_
   first|(exfalso;first|contradiction|omega)|(exact vi (by simp[DD, *]))
  refine Aq (Bw (len:=4) (sz:=1) (n:=1) (by kernel_rfl) rfl rfl rfl rfl ?_);refine l_ (h:=E6 (h:=CH (h:=?_)));refine A4 rfl (fun hb19 hc19=>?_) (fun hb19 hc19=>?_)
  ·refine Bh (h:=?_);refine A6 ?_
   first|(exfalso;first|contradiction|omega)|(exact vi (by simp[DD, *]))
  refine FE (h:=?_);refine A6 ?_
  first|(exfalso;first|contradiction|omega)|(exact vi (by simp[DD, *]))
 refine Ar (h:=?_);refine A4 rfl (fun hb20 hc20=>?_) (fun hb20 hc20=>?_)
 ·refine AX (h:=Dg (h:=Bo (h:=?_)));refine A4 rfl (fun hb21 hc21=>?_) (fun hb21 hc21=>?_)
  ·refine Bh (h:=?_);refine A6 ?_
   first|(exfalso;first|contradiction|omega)|(exact vi (by simp[DD, *]))
  refine FE (h:=?_);refine A6 ?_
  first|(exfalso;first|contradiction|omega)|(exact vi (by simp[DD, *]))
 refine Ar (h:=?_);refine A4 rfl (fun hb22 hc22=>?_) (fun hb22 hc22=>?_)
 ·refine w_ (?_);refine A3 rfl (Bw (len:=4) (sz:=1) (n:=0) (by kernel_rfl) rfl rfl rfl rfl ?_);refine l_ (h:=D2 (h:=?_));refine A4 rfl (fun hb23 hc23=>?_) (fun hb23 hc23=>?_)
  ·refine Bh (h:=?_);refine A6 ?_
   first|(exfalso;first|contradiction|omega)|(exact vi (by simp[DD, *]))
  refine FE (h:=?_);refine A6 ?_
  first|(exfalso;first|contradiction|omega)|(exact vi (by simp[DD, *]))
 refine FE (h:=?_);refine A6 ?_
 first|(exfalso;first|contradiction|omega)|(exact vi (by simp[DD, *]))
end
def KW(n:Int):Int:=IntKind.i64.wrap (0 - n)
def Cx(s:Syst)(pid:Int)(c:Cal):Syst×Res:=
 if CG s.tab pid=false then(s,{GT with exit:= -4})else if Bl c≠0 then(s,{GT with exit:= -22})
 else if(GW s (AN s.tab pid) c).2.2≠0 then(s,{GT with exit:=KW (GW s (AN s.tab pid) c).2.2,items:=(GW s (AN s.tab pid) c).1})
 else if(BR (Jz s pid c)).2≠0 then(s,{GT with exit:=KW (BR (Jz s pid c)).2,items:=(GW s (AN s.tab pid) c).1})
 else((BR (Jz s pid c)).1.s,(BR (Jz s pid c)).1.r)
def NH(R:Syst×Res):AV:= .tup [.agg (CP R.1), .agg (K1 R.2)]
theorem lT{α:Type}{sz:Nat}{F:α→List AV}(hF:RowF sz F)(l:List α)(cap0 cap:Nat):((LB sz F l cap0).drop 0).take (l.length * sz)++List.replicate ((cap - l.length) * sz) .any=LB sz F l cap:=by
 unfold LB;have h:=Vw (cap:=cap0) (NE hF l);rw[List.length_map]at h;rw[h];unfold CU;rw[List.length_map]
def K3:List AV:=[.v (.slice none 0 0), .v (.slice none 0 0), .v (.int .i64 0), .v (.int .i64 0), .v (.slice none 0 0)]
def Ky:List AV:=[.v (.int .i64 0), .v (.int .i64 0), .v (.int .i64 0), .v (.slice none 0 0), .v (.slice none 0 0)]
def NJ(r:Res)(I:AV):List AV:=[.v (.int .i64 r.exit), .v (.int .i64 r.child), .v (.int .i64 r.gone),I, .sl 7 (r.changes.map EZ) none]
def Dk(s:Syst)(pid:Int)(c:Cal):Wrk:=⟨s,AN s.tab pid,c,[],GT⟩
theorem YZ(s:Syst)(pid:Int)(c:Cal):LeA (.agg (CP s++(Am (AN s.tab pid)++(FM c++[.v (.slice none 0 0), .v (.int .i64 0), .v (.int .i64 0), .v (.int .i64 0), .v (.slice none 0 0), .v (.slice none 0 0)])))) (.agg (Da (Dk s pid c) (.v (.slice none 0 0)) (.v (.slice none 0 0)))):=by
 refine LeA.agg ?_
 repeat (first|exact LeL.nil|refine LeL.cons (A7 _) ?_|refine LeL.cons (LeA.nil _) ?_)
theorem OD(w:Wrk)(R:Ex):(BZ w R).1.r.items.length=w.r.items.length:=by
 unfold BZ;split<;>rfl
theorem RR(w:Wrk)(R:Tab×Int):(CB w R).1.r.items.length=w.r.items.length:=by
 unfold CB;split<;>rfl
theorem U8(w:Wrk)(i:Nat)(a:AB):(KU w i a).r.items.length=w.r.items.length:=List.length_modify ..
theorem Ya(w:Wrk)(i:Nat)(r:Int):(JZ w i r).r.items.length=w.r.items.length:=List.length_modify ..
theorem U9(w:Wrk)(i:Nat)(n:Nod):(Cw w i n).1.r.items.length=w.r.items.length:=by
 unfold Cw;split
 ·rw[U8,OD]
 rfl
theorem Yb(w:Wrk)(a:AB):(Kv w a).1.r.items.length=w.r.items.length:=by
 unfold Kv;rw[RR];rfl
theorem lU(w:Wrk):(Ck w).1.r.items.length=w.r.items.length:=by
 unfold Ck
 repeat' split
 all_goals first|rfl|exact U9 _ _ _|exact Yb _ _|exact(Yb _ _).trans (U9 _ _ _)
theorem lV(w:Wrk)(R:Ex)(x:AB):(LL w R x).1.r.items.length=w.r.items.length:=by
 unfold LL
 repeat' split
 all_goals first|rfl|exact OD _ _|exact(U8 _ _ _).trans ((Ya _ _ _).trans (OD _ _))
theorem lW(w:Wrk):(Fq w).1.r.items.length=w.r.items.length:=by
 unfold Fq
 repeat' split
 all_goals first|rfl|exact lV _ _ _
section
variable {P:Program}{ev:Operand→Option AV}{h:AH}{R:AV→AH→Prop}{d:Option Tmp}{ty:TypeId}{pos:String}{af:Array Edge}{gd:Option (Nat×Bool)}
theorem Yc{T:TypeId}{x:Operand}{a:Int}(hx:ev x=some (.v (.int .i64 a)))(hR:R (.v (.int .i64 (KW a))) h):AStep P ⟨d, .unOp .neg T x,ty,pos,af,gd⟩ ev h R:=
 DO (fun _ G w ec _ he=>⟨.int .i64 (KW a),by
  have h1:=he x (by simp[Op.operands]) _ hx;simp only[rep]at h1
  simp[execOp,h1,Op.unary,Op.intArith,KW],by simp only[rep]⟩) hR
end
structure Wch where
 kind:Int
 dir:AB
 name:AE
 file:AB
deriving DecidableEq
def Fs:Wch:=⟨0,(0,0),⟨#[]⟩,(0,0)⟩
def Eb(w:Wch):List AV:=[.v (.int .i64 w.kind), .v (.int .i64 w.dir.1), .v (.int .i64 w.dir.2), .v (.string w.name), .v (.int .i64 w.file.1), .v (.int .i64 w.file.2)]
def OE(s:Spc)(k:Int)(p:AE):Wch×Int:=
 if(k≠1∧k≠2)∨FV p.data.toList=false then(Fs,22)
 else if(C2 s (0,0) p (decide (k=2))).2≠0 then(Fs,(C2 s (0,0) p (decide (k=2))).2)
 else if k=2 then
  (if(C2 s (0,0) p true).1.ex=false then(Fs,2)else if Af s.files (C2 s (0,0) p true).1.file=false then(Fs,20)
  else(⟨k,(0,0),⟨#[]⟩,(C2 s (0,0) p true).1.file⟩,0))
 else if(C2 s (0,0) p false).1.name=⟨#[]⟩then(Fs,22)
 else(⟨k,(C2 s (0,0) p false).1.dir,(C2 s (0,0) p false).1.name,(AK s.files (C2 s (0,0) p false).1.dir (C2 s (0,0) p false).1.name).1⟩,0)
def PU(s:Spc)(a b:AB):Bool:=decide (a∈CC s (Cq s.files) b)
def Ec(s:Spc)(w:Wch)(dir:AB)(name:AE)(file:AB):Bool:=
 if w.kind=1 then(decide (w.file≠(0,0))&&decide (file=w.file))||(decide (name≠⟨#[]⟩)&&decide (dir=w.dir)&&decide (name=w.name))
 else if w.kind=2 then PU s w.file dir||PU s w.file file else false
theorem Yd(a b:AB)(w:World):(binOp .eql 26 (.agg #[.int .i64 a.1, .int .i64 a.2]) (.agg #[.int .i64 b.1, .int .i64 b.2])).run prog w= .ok (.bool (decide (a=b))) w:=Of a.1 a.2 b.1 b.2 w
theorem lX(a b:AB)(w:World):(binOp .neq 26 (.agg #[.int .i64 a.1, .int .i64 a.2]) (.agg #[.int .i64 b.1, .int .i64 b.2])).run prog w= .ok (.bool (!decide (a=b))) w:=Sd a.1 a.2 b.1 b.2 w
def RS(R:Wch×Int):AV:= .tup [.agg (Eb R.1), .v (.int .i64 R.2)]
theorem lY(s:Spc)(k:Int)(p:AE)(F:Fnd×Int)(hF:C2 s (0,0) p (decide (k=2))=F):OE s k p=if(k≠1∧k≠2)∨FV p.data.toList=false then(Fs,22)else if F.2≠0 then(Fs,F.2)
    else if k=2 then(if F.1.ex=false then(Fs,2)else if Af s.files F.1.file=false then(Fs,20)else(⟨k,(0,0),⟨#[]⟩,F.1.file⟩,0))
    else if F.1.name=⟨#[]⟩then(Fs,22)else(⟨k,F.1.dir,F.1.name,(AK s.files F.1.dir F.1.name).1⟩,0):=by
 unfold OE;rw[hF];by_cases h:k=2
 ·rw[decide_eq_true h]at hF;simp only[if_pos h,hF]
 rw[decide_eq_false h]at hF;simp only[if_neg h,hF]
section
theorem Ye(s:AE)(hs:s.size≤60000):AFn prog 183 [.v (.string s)] (fun r=>r= .v (.bool (FV s.data.toList))):=aL (us:=[.string s]) fun w=>l6 s w (by omega)
theorem lZ(s:Spc)(a:AB)(hs:SpcB s):AFn prog 119 [.agg (AY s), .agg (AA a)] (fun r=>r= .v (.bool (Af s.files a))):=by
 refine enter Tryz.func119 rfl rfl rfl rfl rfl 0 rfl ?_;refine Gl (h:=B0 (h:=l_ (h:=?_)));refine A3 rfl (A8 (Vu s.files a hs.files) ?_);rintro r rfl;refine FC (h:=Bu (h:=m_ (h:=?_)));refine AJ true rfl rfl (fun hb1 hc1=>?_) (fun hb1 hc1=>?_)
 ·refine Cs (h:=Gp (h:=?_));refine A6 ?_
  first|(exfalso;first|contradiction|omega)|(exact vb (by simp[MK, *]))
 refine Gq (h:=?_);refine A6 ?_
 first|(exfalso;first|contradiction|omega)|(exact vb (by simp[MK, *]))
theorem m5(s:Spc)(k:Int)(p:AE)(hv:SpcV s)(hm:s.mounts.length≤1000)(hp:p.size≤50000):AFn prog 130 [.agg (AY s), .v (.int .i64 k), .v (.string p)] (fun r=>r=RS (OE s k p)):=by
 have hsb:=hv.b hm;obtain⟨F,hF⟩:∃F,C2 s (0,0) p (decide (k=2))=F:=⟨_,rfl⟩;have hw:=lY s k p F hF;have hfind:AFn prog 141 [.agg (AY s), .agg (AA (0,0)), .v (.string p), .v (.bool (decide (k=2)))] (fun r=>r= .tup [.agg (Ah F.1), .v (.int .i64 F.2)]):=by rw[←hF];exact YE s (0,0) p _ (hv.n hm) hv (by omega)
 refine enter Tryz.func130 rfl rfl rfl rfl rfl 0 rfl ?_;refine EH (h:=B4 (h:=q_ (?_)));refine B9 (fun S=>S=⟨look [(1, .v (.int .i64 k)),(2, .v (.string p)),(3, .bp 0 0),(6, .bp 1 0),(22, .v (.bool ((!decide (k=1)&& !decide (k=2))|| !FV p.data.toList)))],⟨[AY s,[.v (.int .i64 0), .v (.int .i64 0), .v (.int .i64 0), .v (.string ⟨#[]⟩), .v (.int .i64 0), .v (.int .i64 0)]],[]⟩⟩) ?_ ?_
 ·skip
  refine Bt (h:=FP (h:=?_));refine AJ true rfl rfl (fun hb1 hc1=>?_) (fun hb1 hc1=>?_)
  ·refine m_ (h:=HA (h:=Bz (h:=?_)));refine AJ false rfl rfl (fun hb2 hc2=>?_) (fun hb2 hc2=>?_)
   ·refine J2 (h:=?_);exact⟨_,rfl,CD 2 0 rfl⟩
   refine m_ (h:=?_);refine Aq (A8 (RL p hp) ?_);rintro r rfl;refine DP (h:=Fi (h:=?_));exact⟨_,rfl,CD 2 0 rfl⟩
  refine B7 (h:=Be (h:=m_ (h:=?_)));refine Aq (A8 (RL p hp) ?_);rintro r rfl;refine DP (h:=Fi (h:=?_));exact⟨_,rfl,CD 2 0 rfl⟩
 rintro S rfl;refine A4 rfl (fun hb3 hc3=>?_) (fun hb3 hc3=>?_)
 ·have k1:(k≠1∧k≠2)∨FV p.data.toList=false:=by simpa using hc3
  refine Bq (h:=?_);refine A6 ?_;rw[hw,if_pos k1];rfl
 have k1:¬((k≠1∧k≠2)∨FV p.data.toList=false):=by simpa using hc3
 refine AF (C5 (h:=ST (h:=D9 (h:=?_))));refine A3 rfl (A8 (hfind) ?_);rintro r rfl;refine JG (h:=Bo (h:=?_));refine A4 rfl (fun hb4 hc4=>?_) (fun hb4 hc4=>?_)
 ·have k2:F.2≠0:=by simpa using hc4
  refine w_ (Gw (h:=E8 (h:=?_)));refine A6 ?_;rw[hw,if_neg k1,if_pos k2];rfl
 have k2:¬F.2≠0:=by simpa using hc4
 refine Ds (h:=BN (h:=?_));refine A4 rfl (fun hb5 hc5=>?_) (fun hb5 hc5=>?_)
 ·have k3:k=2:=hc5;refine Fe (h:=DA (h:=?_));refine A4 rfl (fun hb6 hc6=>?_) (fun hb6 hc6=>?_)
  ·have k4:F.1.ex=false:=by simpa using hc6
   refine Bq (h:=Ba (?_));refine A6 ?_;rw[hw,if_neg k1,if_neg k2,if_pos k3,if_pos k4];rfl
  have k4:¬F.1.ex=false:=by simpa using hc6
  refine DQ (h:=Aa (h:=?_));refine A3 rfl (A8 (Ki s.files F.1.file hsb.files) ?_);rintro r rfl;refine DA (h:=?_);refine A4 rfl (fun hb7 hc7=>?_) (fun hb7 hc7=>?_)
  ·have k5:Af s.files F.1.file=false:=by simpa using hc7
   refine Bq (h:=Ba (?_));refine A6 ?_;rw[hw,if_neg k1,if_neg k2,if_pos k3,if_neg k4,if_pos k5];rfl
  have k5:¬Af s.files F.1.file=false:=by simpa using hc7
  refine AF (AX (h:=Aa (h:=HL (h:=E8 (h:=?_)))));refine A6 ?_;rw[hw,if_neg k1,if_neg k2,if_pos k3,if_neg k4,if_neg k5];rfl
 have k3:¬k=2:=hc5;refine DQ (h:=BN (h:=?_));refine A4 rfl (fun hb8 hc8=>?_) (fun hb8 hc8=>?_)
 ·have k6:F.1.name=⟨#[]⟩:=hc8;refine Bq (h:=?_);refine A6 ?_;rw[hw,if_neg k1,if_neg k2,if_neg k3,if_pos k6];rfl
 have k6:¬F.1.name=⟨#[]⟩:=hc8;refine AF (Hy (h:=Aa (h:=?_)));refine A3 rfl (A8 (Kk s.files F.1.dir F.1.name hsb.files) ?_);rintro r rfl;refine FC (h:=Bu (h:=JM (h:=l_ (h:=HL (h:=B8 (h:=?_))))));refine A6 ?_;rw[hw,if_neg k1,if_neg k2,if_neg k3,if_neg k6];rfl
end
theorem m6(x:BitVec 64):(x &&& ~~~ 4294967295#64)=0#64↔x.toNat<4294967296:=by
 have hc:(x &&& 4294967295#64).toNat=x.toNat % 4294967296:=by
  rw[BitVec.toNat_and];exact Nat.and_two_pow_sub_one_eq_mod x.toNat 32
 have hs:x=(x &&& 4294967295#64) ||| (x &&& ~~~ 4294967295#64):=by
  apply BitVec.eq_of_getLsbD_eq;intro i hi;simp only[BitVec.getLsbD_or,BitVec.getLsbD_and,BitVec.getLsbD_not,hi];cases x.getLsbD i<;>cases (4294967295#64).getLsbD i<;>simp
 constructor
 ·intro h;rw[h,BitVec.or_zero]at hs;have:=congrArg BitVec.toNat hs;omega
 intro h
 have e:x &&& 4294967295#64=x:=by
  apply BitVec.eq_of_toNat_eq;rw[hc];omega
 rw[←e,BitVec.and_assoc];have:(4294967295#64 &&& ~~~ 4294967295#64)=0#64:=by decide
 rw[this,BitVec.and_zero]
theorem m7{m:Int}(h1:0≤m)(h2:m<18446744073709551616):QV .u64 m 4294967295=0↔m<4294967296:=by
 have e:QV .u64 m 4294967295=(((BitVec.ofInt 64 m &&& ~~~ 4294967295#64).toNat:Nat):Int):=by
  show IntKind.u64.wrap ((BitVec.ofInt 64 m &&& ~~~ 4294967295#64).toNat:Nat)=_;have h:=(BitVec.ofInt 64 m &&& ~~~ 4294967295#64).isLt;generalize (BitVec.ofInt 64 m &&& ~~~ 4294967295#64).toNat=n at h;simp only[IntKind.wrap,IntKind.signed,IntKind.bits];simp;omega
 rw[e]
 have hn:(BitVec.ofInt 64 m).toNat=m.toNat:=by
  rw[BitVec.toNat_ofInt];omega
 have h:=m6 (BitVec.ofInt 64 m);rw[hn]at h;constructor
 ·intro k;have:(BitVec.ofInt 64 m &&& ~~~ 4294967295#64)=0#64:=BitVec.eq_of_toNat_eq (by simpa using Int.ofNat_inj.1 k);have:=h.1 this;omega
 intro k;rw[h.2 (by omega)];rfl
theorem m8{m:Int}(h1:0≤m):Mm .u64 m 32=0↔m<4294967296:=by
 show m.fdiv (2 ^ min (32:Int).toNat 64)=0↔_;rw[show((2:Int) ^ min (32:Int).toNat 64)=4294967296 by decide,Int.fdiv_eq_ediv_of_nonneg _ (by omega)];omega
def F9(r:Rul):Prop:=0≤r.calls∧r.calls<18446744073709551616∧r.path.size≤50000∧r.tests.length≤1000
def Ce(r:Rul):Bool:=
 if r.watch=0 then decide (r.path=⟨#[]⟩∧r.perm=0)
 else decide ((r.watch=1∨r.watch=2)∧r.list=3∧FV r.path.data.toList=true∧(r.path.size:Int)≤128∧1≤r.perm∧r.perm≤15)
def KX(list:Int):List Tst→Int
 |[]=>0
 |t::ts=>if BX t list=0 then KX list ts else BX t list
theorem RT{list:Int}{l:List Tst}{j:Nat}{t:Tst}(ht:l[j]?=some t):KX list (l.drop j)=if BX t list=0 then KX list (l.drop (j+1))else BX t list:=by
 obtain⟨hk,e⟩:=Ab.1 ht;rw[List.drop_eq_getElem_cons hk,KX,e]
theorem Yf{list:Int}{l:List Tst}:KX list (l.drop l.length)=0:=by simp[KX]
def Ft(r:Rul):Bool:=if r.list=2∨r.list=3 then decide (r.calls=0∨¬r.calls<4294967296)else decide (r.calls≠0)
def BG(r:Rul):Int:=
 if r.list<1∨5<r.list then 130 else if r.action≠1∧r.action≠2 then 131 else if Ft r=true then 132 else if 8<(r.tests.length:Int)then 133
 else if KX r.list r.tests≠0 then KX r.list r.tests else if Ce r=false then 134 else if 31<(r.key.size:Int)then 135 else 0
section
theorem m9(f:Int):AFn prog 166 [.v (.int .i64 f)] (fun r=>r= .v (.bool (decide (f=2∨f=3)))):=by
 refine enter Tryz.func166 rfl rfl rfl rfl rfl 0 rfl ?_;refine EX (h:=Dy (h:=?_));refine AJ false rfl rfl (fun hb1 hc1=>?_) (fun hb1 hc1=>?_)
 ·refine B7 (h:=Gp (h:=?_));refine A6 ?_
  first|(exfalso;first|contradiction|omega)|(exact vb (by simp[*]))
 refine D9 (h:=Bx (h:=B8 (h:=?_)));refine A6 ?_
 first|(exfalso;first|contradiction|omega)|(exact vb (by simp[*]))
theorem mA(m:Int)(h1:0≤m)(h2:m<18446744073709551616):AFn prog 167 [.v (.int .u64 m)] (fun r=>r= .v (.bool (decide (m<4294967296)))):=by
 refine enter Tryz.func167 rfl rfl rfl rfl rfl 0 rfl ?_;refine EX (h:=at_ (h:=EG (h:=B8 (h:=?_))));refine A6 ?_
 first|(exfalso;first|contradiction|omega)|(exact vb (by exact decide_eq_decide.2 (m7 h1 h2)))
theorem mB(m:Int)(h1:0≤m):AFn prog 154 [.v (.int .u64 m)] (fun r=>r= .v (.bool (decide (m<4294967296)))):=by
 refine enter Tryz.func154 rfl rfl rfl rfl rfl 0 rfl ?_;refine EX (h:=Qg (h:=EG (h:=B8 (h:=?_))));refine A6 ?_
 first|(exfalso;first|contradiction|omega)|(exact vb (by exact decide_eq_decide.2 (m8 h1)))
theorem mC(r:Rul)(hp:r.path.size≤50000):AFn prog 168 [.agg (Ag r)] (fun x=>x= .v (.bool (Ce r))):=by
 refine enter Tryz.func168 rfl rfl rfl rfl rfl 0 rfl ?_;refine Ef (h:=J1 (h:=e_ (BK (Ar (h:=?_)))));refine A4 rfl (fun hb1 hc1=>?_) (fun hb1 hc1=>?_)
 ·refine B0 (h:=Dy (h:=?_));refine AJ true rfl rfl (fun hb2 hc2=>?_) (fun hb2 hc2=>?_)
  ·refine Cs (h:=CZ (h:=BA (h:=?_)));refine A6 ?_
   first|(exfalso;first|contradiction|omega)|(exact vb (by unfold Ce;simp[*]))
  refine D8 (h:=BA (h:=?_));refine A6 ?_
  first|(exfalso;first|contradiction|omega)|(exact vb (by unfold Ce;simp[*]))
 refine q_ (Ar (h:=?_));refine A4 rfl (fun hb3 hc3=>?_) (fun hb3 hc3=>?_)
 ·refine AF (CX (h:=B0 (h:=Dy (h:=?_))));refine AJ true rfl rfl (fun hb4 hc4=>?_) (fun hb4 hc4=>?_)
  ·refine Aa (h:=?_);refine Aq (A8 (Ye r.path (by omega)) ?_);rintro r rfl;refine Bz (h:=?_);refine AJ true rfl rfl (fun hb5 hc5=>?_) (fun hb5 hc5=>?_)
   ·refine GG (h:=Gg (h:=Bz (h:=?_)));refine AJ true rfl rfl (fun hb6 hc6=>?_) (fun hb6 hc6=>?_)
    ·refine Aa (h:=E7 (h:=Bz (h:=?_)));refine AJ true rfl rfl (fun hb7 hc7=>?_) (fun hb7 hc7=>?_)
     ·refine Aa (h:=Gg (h:=CZ (h:=BA (h:=?_))));refine A6 ?_
      first|(exfalso;first|contradiction|omega)|(exact vb (by unfold Ce;simp[*]))
     refine D8 (h:=BA (h:=?_));refine A6 ?_
     first|(exfalso;first|contradiction|omega)|(exact vb (by unfold Ce;simp[*]))
    refine Fv (h:=D8 (h:=BA (h:=?_)));refine A6 ?_
    first|(exfalso;first|contradiction|omega)|(exact vb (by unfold Ce;simp[*]))
   refine BT (h:=Be (h:=Fv (h:=D8 (h:=BA (h:=?_)))));refine A6 ?_
   first|(exfalso;first|contradiction|omega)|(exact vb (by unfold Ce;simp[*]))
  refine Fv (h:=BT (h:=Be (h:=Fv (h:=Gq (h:=L6 (?_))))));refine Ba (?_);refine A6 ?_
  first|(exfalso;first|contradiction|omega)|(exact vb (by unfold Ce;simp[*]))
 refine Aw (EW (h:=?_));refine A4 rfl (fun hb8 hc8=>?_) (fun hb8 hc8=>?_)
 ·refine B0 (h:=Dy (h:=?_));refine AJ true rfl rfl (fun hb9 hc9=>?_) (fun hb9 hc9=>?_)
  ·refine Aa (h:=?_);refine Aq (A8 (Ye r.path (by omega)) ?_);rintro r rfl;refine Bz (h:=?_);refine AJ true rfl rfl (fun hb10 hc10=>?_) (fun hb10 hc10=>?_)
   ·refine GG (h:=Gg (h:=Bz (h:=?_)));refine AJ true rfl rfl (fun hb11 hc11=>?_) (fun hb11 hc11=>?_)
    ·refine Aa (h:=E7 (h:=Bz (h:=?_)));refine AJ true rfl rfl (fun hb12 hc12=>?_) (fun hb12 hc12=>?_)
     ·refine Aa (h:=Gg (h:=CZ (h:=BA (h:=?_))));refine A6 ?_
      first|(exfalso;first|contradiction|omega)|(exact vb (by unfold Ce;simp[*]))
     refine D8 (h:=BA (h:=?_));refine A6 ?_
     first|(exfalso;first|contradiction|omega)|(exact vb (by unfold Ce;simp[*]))
    refine Fv (h:=D8 (h:=BA (h:=?_)));refine A6 ?_
    first|(exfalso;first|contradiction|omega)|(exact vb (by unfold Ce;simp[*]))
   refine BT (h:=Be (h:=Fv (h:=D8 (h:=BA (h:=?_)))));refine A6 ?_
   first|(exfalso;first|contradiction|omega)|(exact vb (by unfold Ce;simp[*]))
  refine Fv (h:=BT (h:=Be (h:=Fv (h:=Gq (h:=L6 (?_))))));refine Ba (?_);refine A6 ?_
  first|(exfalso;first|contradiction|omega)|(exact vb (by unfold Ce;simp[*]))
 refine FE (h:=?_);refine A6 ?_
 first|(exfalso;first|contradiction|omega)|(exact vb (by unfold Ce;simp[*]))
theorem mD(r:Rul)(hr:F9 r):AFn prog 116 [.agg (Ag r)] (fun x=>x= .v (.int .i64 (BG r))):=by
 obtain⟨m1,m2,hp,hl⟩:=hr;refine enter Tryz.func116 rfl rfl rfl rfl rfl 0 rfl ?_;refine Ef (h:=J1 (h:=DZ (h:=?_)));refine AJ false rfl rfl (fun hb1 hc1=>?_) (fun hb1 hc1=>?_)
 ·refine ER (h:=KJ (h:=Ba (?_)));refine A6 ?_
  first|(exfalso;first|contradiction|omega)|(exact vi (by first|(unfold BG;grind)|(unfold BG Ft;grind)))
 refine J0 (h:=CH (h:=?_));refine A4 rfl (fun hb2 hc2=>?_) (fun hb2 hc2=>?_)
 ·refine BL (h:=?_);refine A6 ?_
  first|(exfalso;first|contradiction|omega)|(exact vi (by first|(unfold BG;grind)|(unfold BG Ft;grind)))
 refine AF (?_);refine QU (⟨look [(1, .bp 0 0),(2, .v (.int .i64 0))],⟨[Ag r],[]⟩⟩) (¬(r.action≠1∧r.action≠2)) ?_ (fun hA=>?_)
 ·skip
  refine B0 (h:=FP (h:=?_));refine AJ true rfl rfl (fun hb3 hc3=>?_) (fun hb3 hc3=>?_)
  ·refine C6 (h:=DY (h:=?_));refine A4 rfl (fun hb4 hc4=>?_) (fun hb4 hc4=>?_)
   ·refine BL (h:=?_);refine A6 ?_
    first|(exfalso;first|contradiction|omega)|(exact vi (by first|(unfold BG;grind)|(unfold BG Ft;grind)))
   refine BD (AT (?_))
   first|(exfalso;first|contradiction|omega)|exact⟨(by omega),CD 1 0 rfl⟩
  refine D8 (h:=e_ (Hv (h:=BD (AT (?_)))))
  first|(exfalso;first|contradiction|omega)|exact⟨(by omega),CD 1 0 rfl⟩
 skip
 refine QU (⟨look [(1, .bp 0 0),(2, .v (.int .i64 0))],⟨[Ag r],[]⟩⟩) (Ft r=false) ?_ (fun hB=>?_)
 ·skip
  refine B0 (h:=?_);refine A3 rfl (A8 (m9 _) ?_);rintro r rfl;refine e_ (?_);refine A4 rfl (fun hb5 hc5=>?_) (fun hb5 hc5=>?_)
  ·refine B0 (h:=Dy (h:=?_));refine AJ false rfl rfl (fun hb6 hc6=>?_) (fun hb6 hc6=>?_)
   ·refine BT (h:=FS (h:=?_));refine A6 ?_
    first|(exfalso;first|contradiction|omega)|(exact vi (by first|(unfold BG;grind)|(unfold BG Ft;grind)))
   refine Aa (h:=?_);refine Aq (A8 (mA _ m1 m2) ?_);rintro r rfl;refine DP (h:=CH (h:=?_));refine A4 rfl (fun hb7 hc7=>?_) (fun hb7 hc7=>?_)
   ·refine BL (h:=?_);refine A6 ?_
    first|(exfalso;first|contradiction|omega)|(exact vi (by first|(unfold BG;grind)|(unfold BG Ft;grind)))
   refine BD (AT (?_))
   first|(exfalso;first|contradiction|omega)|exact⟨(by unfold Ft;grind),CD 1 0 rfl⟩
  refine B0 (h:=Bo (h:=?_));refine A4 rfl (fun hb8 hc8=>?_) (fun hb8 hc8=>?_)
  ·refine BL (h:=?_);refine A6 ?_
   first|(exfalso;first|contradiction|omega)|(exact vi (by first|(unfold BG;grind)|(unfold BG Ft;grind)))
  refine BD (AT (?_))
  first|(exfalso;first|contradiction|omega)|exact⟨(by unfold Ft;grind),CD 1 0 rfl⟩
 skip
 refine Fe (h:=Gu (h:=e_ (?_)));refine A4 rfl (fun hb9 hc9=>?_) (fun hb9 hc9=>?_)
 ·refine BL (h:=?_);refine A6 ?_
  first|(exfalso;first|contradiction|omega)|(exact vi (by first|(unfold BG;grind)|(unfold BG Ft;grind)))
 rw[List.length_map]at hc9;refine DQ (h:=JK (h:=e_ (BK (?_))));refine BU (fun n s=>∃j:Nat,j≤r.tests.length∧n=r.tests.length - j∧KX r.list (r.tests.drop j)=KX r.list r.tests∧s=⟨look [(1, .bp 0 0),(2, .v (.int .i64 0)),(42, .sl 5 (r.tests.map Cu) none),(43, .v (.int .i64 ((r.tests.map Cu).length:Int))),(44, .v (.int .i64 (j:Int)))],⟨[Ag r],[]⟩⟩) (r.tests.length) ((wk 1 0)) (⟨0,by omega,rfl,rfl,rfl⟩) ?_;rintro n s ⟨j,hj,rfl,ha,rfl⟩;refine w_ (D2 (h:=q_ (?_)));refine A4 rfl (fun hb10 hc10=>?_) (fun hb10 hc10=>?_)
 ·obtain⟨hlt,t,hy,hrow, -⟩:=C1 Cu hc10;refine C0 (h:=w_ (i_ (h:=JH (h:=C5 (h:=Aa (h:=?_))))));refine A3 rfl (A8 (VZ t _) ?_);rintro r rfl;refine Bu (h:=Bo (h:=?_));refine A4 rfl (fun hb11 hc11=>?_) (fun hb11 hc11=>?_)
  ·rw[RT hy,if_neg hc11]at ha;refine AX (h:=BA (h:=CT (h:=?_)));refine A6 ?_
   first|(exfalso;first|contradiction|omega)|(exact vi (by first|(unfold BG;grind)|(unfold BG Ft;grind)))
  refine BD (BE (t_ (Aw (J3 (h:=?_)))));refine⟨_,_,?_,⟨j+1,by omega,rfl,(by rw[←ha,RT hy,if_pos (by omega)]),rfl⟩,(wk 1 0)⟩;omega
 have e:=CF Cu hj hc10;subst e;rw[Yf]at ha;refine CJ (h:=q_ (C5 (h:=?_)));refine A3 rfl (A8 (mC r hp) ?_);rintro r rfl;refine DA (h:=?_);refine A4 rfl (fun hb12 hc12=>?_) (fun hb12 hc12=>?_)
 ·refine BL (h:=?_);refine A6 ?_
  first|(exfalso;first|contradiction|omega)|(exact vi (by first|(unfold BG;grind)|(unfold BG Ft;grind)))
 refine DQ (h:=Gu (h:=e_ (?_)));refine A4 rfl (fun hb13 hc13=>?_) (fun hb13 hc13=>?_)
 ·refine BL (h:=?_);refine A6 ?_
  first|(exfalso;first|contradiction|omega)|(exact vi (by first|(unfold BG;grind)|(unfold BG Ft;grind)))
 refine AF (Jo (h:=?_));refine A6 ?_
 first|(exfalso;first|contradiction|omega)|(exact vi (by first|(unfold BG;grind)|(unfold BG Ft;grind)))
theorem RU(r:Rul)(hr:F9 r):AFn prog 105 [.agg (Ag r)] (fun x=>x= .v (.int .i64 (BG r))):=by
 obtain⟨m1,m2,hp,hl⟩:=hr;refine enter Tryz.func105 rfl rfl rfl rfl rfl 0 rfl ?_;refine Ef (h:=J1 (h:=DZ (h:=?_)));refine AJ false rfl rfl (fun hb1 hc1=>?_) (fun hb1 hc1=>?_)
 ·refine ER (h:=KJ (h:=Ba (?_)));refine A6 ?_
  first|(exfalso;first|contradiction|omega)|(exact vi (by first|(unfold BG;grind)|(unfold BG Ce;grind)))
 refine J0 (h:=CH (h:=?_));refine A4 rfl (fun hb2 hc2=>?_) (fun hb2 hc2=>?_)
 ·refine BL (h:=?_);refine A6 ?_
  first|(exfalso;first|contradiction|omega)|(exact vi (by first|(unfold BG;grind)|(unfold BG Ce;grind)))
 refine AF (?_);refine QU (⟨look [(1, .bp 0 0),(2, .v (.int .i64 0))],⟨[Ag r],[]⟩⟩) (¬(r.action≠1∧r.action≠2)) ?_ (fun hA=>?_)
 ·skip
  refine B0 (h:=FP (h:=?_));refine AJ true rfl rfl (fun hb3 hc3=>?_) (fun hb3 hc3=>?_)
  ·refine C6 (h:=DY (h:=?_));refine A4 rfl (fun hb4 hc4=>?_) (fun hb4 hc4=>?_)
   ·refine BL (h:=?_);refine A6 ?_
    first|(exfalso;first|contradiction|omega)|(exact vi (by first|(unfold BG;grind)|(unfold BG Ce;grind)))
   refine BD (AT (?_))
   first|(exfalso;first|contradiction|omega)|exact⟨(by omega),CD 1 0 rfl⟩
  refine D8 (h:=e_ (Hv (h:=BD (AT (?_)))))
  first|(exfalso;first|contradiction|omega)|exact⟨(by omega),CD 1 0 rfl⟩
 skip
 refine Kd (⟨look [(1, .bp 0 0),(2, .v (.int .i64 0)),(3, .v (.bool (decide (r.list=2∨r.list=3))))],⟨[Ag r],[]⟩⟩) ?_ ?_
 ·skip
  refine Aw (Cs (h:=m_ (h:=?_)));refine AJ false rfl rfl (fun hb5 hc5=>?_) (fun hb5 hc5=>?_)
  ·refine Gj (h:=Ch (h:=?_))
   first|(exfalso;first|contradiction|omega)|exact CD 1 0 rfl
  refine Cs (h:=Bx (h:=Ch (h:=?_)))
  first|(exfalso;first|contradiction|omega)|exact CD 1 0 rfl
 skip
 refine q_ (?_);refine Kd (⟨look [(1, .bp 0 0),(2, .v (.int .i64 0)),(50, .v (.bool (Ft r)))],⟨[Ag r],[]⟩⟩) ?_ ?_
 ·skip
  refine EQ (h:=?_);refine AJ true rfl rfl (fun hb6 hc6=>?_) (fun hb6 hc6=>?_)
  ·refine Cs (h:=m_ (h:=?_));refine AJ false rfl rfl (fun hb7 hc7=>?_) (fun hb7 hc7=>?_)
   ·refine Fh (h:=Bz (h:=HG (h:=Lb (h:=Dc (h:=JL (h:=?_))))))
    first|(exfalso;first|contradiction|omega)|exact Ao 1 0 rfl rfl rfl rfl (by repeat (first|exact Sub.nil|refine Ap rfl rfl ?_|refine At ?_|refine Au rfl ?_|refine Av rfl ?_|(apply Sub.of;(focus exact rfl);(focus exact LeA.of_eq (vb (by unfold Ft;grind)));(focus exact rfl))))
   refine Aa (h:=?_);refine Aq (A8 (mB _ m1) ?_);rintro r rfl;refine DP (h:=Bx (h:=Bz (h:=?_)));refine AJ false rfl rfl (fun hb8 hc8=>?_) (fun hb8 hc8=>?_)
   ·refine HG (h:=Lb (h:=Dc (h:=JL (h:=?_))))
    first|(exfalso;first|contradiction|omega)|exact Ao 1 0 rfl rfl rfl rfl (by repeat (first|exact Sub.nil|refine Ap rfl rfl ?_|refine At ?_|refine Au rfl ?_|refine Av rfl ?_|(apply Sub.of;(focus exact rfl);(focus exact LeA.of_eq (vb (by unfold Ft;grind)));(focus exact rfl))))
   refine m_ (h:=Eh (h:=?_));refine AJ true rfl rfl (fun hb9 hc9=>?_) (fun hb9 hc9=>?_)
   ·refine C6 (h:=CZ (h:=Fi (h:=?_)))
    (exfalso;first|contradiction|omega)
   refine D8 (h:=Fi (h:=?_))
   first|(exfalso;first|contradiction|omega)|exact Ao 1 0 rfl rfl rfl rfl (by repeat (first|exact Sub.nil|refine Ap rfl rfl ?_|refine At ?_|refine Au rfl ?_|refine Av rfl ?_|(apply Sub.of;(focus exact rfl);(focus exact LeA.of_eq (vb (by unfold Ft;grind)));(focus exact rfl))))
  refine BT (h:=JJ (h:=Be (h:=m_ (h:=Eh (h:=?_)))));refine AJ true rfl rfl (fun hb10 hc10=>?_) (fun hb10 hc10=>?_)
  ·refine C6 (h:=CZ (h:=Fi (h:=?_)))
   first|(exfalso;first|contradiction|omega)|exact Ao 1 0 rfl rfl rfl rfl (by repeat (first|exact Sub.nil|refine Ap rfl rfl ?_|refine At ?_|refine Au rfl ?_|refine Av rfl ?_|(apply Sub.of;(focus exact rfl);(focus exact LeA.of_eq (vb (by unfold Ft;grind)));(focus exact rfl))))
  refine D8 (h:=Fi (h:=?_))
  (exfalso;first|contradiction|omega)
 skip
 refine A4 rfl (fun hb11 hc11=>?_) (fun hb11 hc11=>?_)
 ·refine BL (h:=?_);refine A6 ?_
  first|(exfalso;first|contradiction|omega)|(exact vi (by first|(unfold BG;grind)|(unfold BG Ce;grind)))
 refine DQ (h:=Gu (h:=e_ (?_)));refine A4 rfl (fun hb12 hc12=>?_) (fun hb12 hc12=>?_)
 ·refine BL (h:=?_);refine A6 ?_
  first|(exfalso;first|contradiction|omega)|(exact vi (by first|(unfold BG;grind)|(unfold BG Ce;grind)))
 rw[List.length_map]at hc12;refine AF (Ca (h:=?_));refine BU (fun n s=>∃j:Nat,j≤r.tests.length∧n=r.tests.length - j∧KX r.list (r.tests.drop j)=KX r.list r.tests∧s=⟨look [(1, .bp 0 0),(2, .v (.int .i64 0)),(4, .v (.int .i64 (j:Int)))],⟨[Ag r],[]⟩⟩) (r.tests.length) ((wk 1 0)) (⟨0,by omega,rfl,rfl,rfl⟩) ?_;rintro n s ⟨j,hj,rfl,ha,rfl⟩;refine Gs (h:=?_);refine A4 rfl (fun hb13 hc13=>?_) (fun hb13 hc13=>?_)
 ·obtain⟨hlt,t,hy,hrow, -⟩:=C1 Cu hc13;refine AF (q_ (BK (q_ (Dd 9 (h:=AD 0 (h:=A9 1 (h:=AG 2 (h:=De 3 (h:=A9 4 (h:=AD 5 (h:=A9 6 (h:=?_))))))))))));refine c_ 7 rfl (A8 (bL t _) ?_);rintro r rfl;refine o_ (h:=BB 8 (h:=z_ (h:=t_ (w_ (m_ (h:=HA (h:=e_ (?_))))))));refine A4 rfl (fun hb14 hc14=>?_) (fun hb14 hc14=>?_)
  ·rw[RT hy,if_neg hc14]at ha;refine AX (h:=BA (h:=CT (h:=?_)));refine A6 ?_
   first|(exfalso;first|contradiction|omega)|(exact vi (by first|(unfold BG;grind)|(unfold BG Ce;grind)))
  refine DH (h:=?_);refine⟨_,_,?_,⟨j+1,by omega,rfl,(by rw[←ha,RT hy,if_pos (by omega)]),rfl⟩,(wk 1 0)⟩;omega
 have e:=CF Cu hj hc13;subst e;rw[Yf]at ha;refine CJ (h:=?_);refine QU (⟨look [(1, .bp 0 0),(2, .v (.int .i64 0))],⟨[Ag r],[]⟩⟩) (Ce r=true) ?_ (fun hW=>?_)
 ·skip
  refine B0 (h:=e_ (BK (Ar (h:=?_))));refine A4 rfl (fun hb15 hc15=>?_) (fun hb15 hc15=>?_)
  ·refine B0 (h:=FP (h:=?_));refine AJ false rfl rfl (fun hb16 hc16=>?_) (fun hb16 hc16=>?_)
   ·refine ER (h:=D3 (h:=?_));refine A6 ?_
    first|(exfalso;first|contradiction|omega)|(exact vi (by first|(unfold BG;grind)|(unfold BG Ce;grind)))
   refine C6 (h:=CH (h:=?_));refine A4 rfl (fun hb17 hc17=>?_) (fun hb17 hc17=>?_)
   ·refine Bh (h:=?_);refine A6 ?_
    first|(exfalso;first|contradiction|omega)|(exact vi (by first|(unfold BG;grind)|(unfold BG Ce;grind)))
   refine BD (BE (AT (?_)))
   first|(exfalso;first|contradiction|omega)|exact⟨(by unfold Ce;grind),CD 1 0 rfl⟩
  refine q_ (Ar (h:=?_));refine A4 rfl (fun hb18 hc18=>?_) (fun hb18 hc18=>?_)
  ·refine AF (CX (h:=B0 (h:=FP (h:=?_))));refine AJ false rfl rfl (fun hb19 hc19=>?_) (fun hb19 hc19=>?_)
   ·refine BT (h:=Bz (h:=BT (h:=Bz (h:=Cg (h:=ER (h:=CX (h:=w_ (?_))))))));refine BA (h:=?_);refine A6 ?_
    first|(exfalso;first|contradiction|omega)|(exact vi (by first|(unfold BG;grind)|(unfold BG Ce;grind)))
   refine Aa (h:=?_);refine Aq (A8 (RL _ hp) ?_);rintro r rfl;refine DP (h:=Be (h:=?_));refine AJ false rfl rfl (fun hb20 hc20=>?_) (fun hb20 hc20=>?_)
   ·refine BT (h:=Bz (h:=Cg (h:=ER (h:=D3 (h:=?_)))));refine A6 ?_
    first|(exfalso;first|contradiction|omega)|(exact vi (by first|(unfold BG;grind)|(unfold BG Ce;grind)))
   refine GG (h:=E6 (h:=Be (h:=?_)));refine AJ false rfl rfl (fun hb21 hc21=>?_) (fun hb21 hc21=>?_)
   ·refine Cg (h:=ER (h:=D3 (h:=?_)));refine A6 ?_
    first|(exfalso;first|contradiction|omega)|(exact vi (by first|(unfold BG;grind)|(unfold BG Ce;grind)))
   refine Aa (h:=Jn (h:=Be (h:=?_)));refine AJ false rfl rfl (fun hb22 hc22=>?_) (fun hb22 hc22=>?_)
   ·refine ER (h:=D3 (h:=?_));refine A6 ?_
    first|(exfalso;first|contradiction|omega)|(exact vi (by first|(unfold BG;grind)|(unfold BG Ce;grind)))
   refine J0 (h:=CH (h:=?_));refine A4 rfl (fun hb23 hc23=>?_) (fun hb23 hc23=>?_)
   ·refine Bh (h:=?_);refine A6 ?_
    first|(exfalso;first|contradiction|omega)|(exact vi (by first|(unfold BG;grind)|(unfold BG Ce;grind)))
   refine BD (BE (AT (?_)))
   first|(exfalso;first|contradiction|omega)|exact⟨(by unfold Ce;grind),CD 1 0 rfl⟩
  refine Aw (EW (h:=?_));refine A4 rfl (fun hb24 hc24=>?_) (fun hb24 hc24=>?_)
  ·refine B0 (h:=FP (h:=?_));refine AJ false rfl rfl (fun hb25 hc25=>?_) (fun hb25 hc25=>?_)
   ·refine BT (h:=Bz (h:=BT (h:=Bz (h:=Cg (h:=ER (h:=CX (h:=w_ (?_))))))));refine BA (h:=?_);refine A6 ?_
    first|(exfalso;first|contradiction|omega)|(exact vi (by first|(unfold BG;grind)|(unfold BG Ce;grind)))
   refine Aa (h:=?_);refine Aq (A8 (RL _ hp) ?_);rintro r rfl;refine DP (h:=Be (h:=?_));refine AJ false rfl rfl (fun hb26 hc26=>?_) (fun hb26 hc26=>?_)
   ·refine BT (h:=Bz (h:=Cg (h:=ER (h:=D3 (h:=?_)))));refine A6 ?_
    first|(exfalso;first|contradiction|omega)|(exact vi (by first|(unfold BG;grind)|(unfold BG Ce;grind)))
   refine GG (h:=E6 (h:=Be (h:=?_)));refine AJ false rfl rfl (fun hb27 hc27=>?_) (fun hb27 hc27=>?_)
   ·refine Cg (h:=ER (h:=D3 (h:=?_)));refine A6 ?_
    first|(exfalso;first|contradiction|omega)|(exact vi (by first|(unfold BG;grind)|(unfold BG Ce;grind)))
   refine Aa (h:=Jn (h:=Be (h:=?_)));refine AJ false rfl rfl (fun hb28 hc28=>?_) (fun hb28 hc28=>?_)
   ·refine ER (h:=D3 (h:=?_));refine A6 ?_
    first|(exfalso;first|contradiction|omega)|(exact vi (by first|(unfold BG;grind)|(unfold BG Ce;grind)))
   refine J0 (h:=CH (h:=?_));refine A4 rfl (fun hb29 hc29=>?_) (fun hb29 hc29=>?_)
   ·refine Bh (h:=?_);refine A6 ?_
    first|(exfalso;first|contradiction|omega)|(exact vi (by first|(unfold BG;grind)|(unfold BG Ce;grind)))
   refine BD (BE (AT (?_)))
   first|(exfalso;first|contradiction|omega)|exact⟨(by unfold Ce;grind),CD 1 0 rfl⟩
  refine Bh (h:=?_);refine A6 ?_
  first|(exfalso;first|contradiction|omega)|(exact vi (by first|(unfold BG;grind)|(unfold BG Ce;grind)))
 skip
 refine Fe (h:=Gu (h:=e_ (?_)));refine A4 rfl (fun hb30 hc30=>?_) (fun hb30 hc30=>?_)
 ·refine BL (h:=?_);refine A6 ?_
  first|(exfalso;first|contradiction|omega)|(exact vi (by first|(unfold BG;grind)|(unfold BG Ce;grind)))
 refine AF (Jo (h:=?_));refine A6 ?_
 first|(exfalso;first|contradiction|omega)|(exact vi (by first|(unfold BG;grind)|(unfold BG Ce;grind)))
end
deriving instance DecidableEq for Tst
deriving instance DecidableEq for Rul
theorem mE(a b:ByteArray):(a.toList==b.toList)=decide (a=b):=by
 by_cases h:a=b
 ·simp[h]
 have:a.toList≠b.toList:=fun e=>h (by
  rw[ByteArray.toList_eq,ByteArray.toList_eq]at e;obtain⟨⟨x⟩⟩:=a;obtain⟨⟨y⟩⟩:=b
  simpa using e)
 simp[h,this]
theorem mF(a b:Tst):(a.fld==b.fld&&(a.op==b.op&&(a.num==b.num&&(a.text.toList==b.text.toList&&a.other==b.other))))=decide (a=b):=by
 rw[mE];obtain⟨a1,a2,a3,a4,a5⟩:=a;obtain⟨b1,b2,b3,b4,b5⟩:=b;by_cases h1:a1=b1<;>by_cases h2:a2=b2<;>by_cases h3:a3=b3<;>by_cases h4:a4=b4<;>by_cases h5:a5=b5<;>simp[h1,h2,h3,h4,h5]
theorem RV{α:Type}[DecidableEq α]{a b:List α}{j:Nat}{x y:α}(hx:a[j]?=some x)(hy:b[j]?=some y):decide (a.drop j=b.drop j)=(decide (x=y)&&decide (a.drop (j+1)=b.drop (j+1))):=by
 obtain⟨h1,e1⟩:=Ab.1 hx;obtain⟨h2,e2⟩:=Ab.1 hy;rw[List.drop_eq_getElem_cons h1,List.drop_eq_getElem_cons h2,e1,e2];by_cases h:x=y<;>simp[h]
theorem mG{α:Type}[DecidableEq α]{a b:List α}(h:a.length≠b.length):decide (a=b)=false:=by
 simp only[decide_eq_false_iff_not];intro e;exact h (by rw[e])
section
theorem Yg(a b:Tst)(w:World):(binOp .neq 115 (.agg #[.int .i64 a.fld, .int .i64 a.op, .int .i64 a.num, .string a.text, .int .i64 a.other]) (.agg #[.int .i64 b.fld, .int .i64 b.op, .int .i64 b.num, .string b.text, .int .i64 b.other])).run prog w= .ok (.bool (!decide (a=b))) w:=by
 have u3:=Tryz.underlying3;have a3:=Tryz.isAgg3;have z3:=Tryz.sizeOf3;have u9:=Tryz.underlying9;have a9:=Tryz.isAgg9;have z9:=Tryz.sizeOf9;have hS:prog.underlying 115=some (.struct (prog.fieldsOf 115)):=by kernel_rfl
 have hp:prog.stoodInHeld 115=false:=by kernel_rfl
 rw[run_neq_struct,show(10000:Nat)=9999+1 from rfl,run_equalIn_agg w 9999 115 _ _ hS hp];simp only[Program.fieldsOf,Tryz.underlying115]
 go_simp
 rw[←mF];by_cases h1:a.fld=b.fld<;>by_cases h2:a.op=b.op<;>by_cases h3:a.num=b.num<;>by_cases h4:a.text.toList=b.text.toList<;>by_cases h5:a.other=b.other<;>simp[h1,h2,h3,h4,h5]
theorem mH(a b:List Tst)(ha:a.length≤1000):AFn prog 218 [.sl 5 (a.map Cu) none, .sl 5 (b.map Cu) none] (fun x=>x= .v (.bool (decide (a=b)))):=by
 refine enter Tryz.func218 rfl rfl rfl rfl rfl 0 rfl ?_;refine w_ (Bn (h:=JK (h:=n_ (h:=Bo (h:=?_)))));refine A4 rfl (fun hb1 hc1=>?_) (fun hb1 hc1=>?_)
 ·refine BL (h:=?_);refine A6 ?_
  first|(exfalso;first|contradiction|omega)|(exact vb (by rw[mG (by simp at hc1;omega)]))
 have hl:a.length=b.length:=by simp at hc1;omega
 refine Ds (h:=JK (h:=e_ (BK (?_))));refine BU (fun n s=>∃j:Nat,j≤a.length∧n=a.length - j∧decide (a.drop j=b.drop j)=decide (a=b)∧s=⟨look [(0, .sl 5 (a.map Cu) none),(1, .sl 5 (b.map Cu) none),(12, .v (.int .i64 ((a.map Cu).length:Int))),(13, .v (.int .i64 (j:Int)))],⟨[],[]⟩⟩) (a.length) ((wk 0 0)) (⟨0,by omega,rfl,rfl,rfl⟩) ?_;rintro n s ⟨j,hj,rfl,hd,rfl⟩;refine w_ (D2 (h:=q_ (?_)));refine A4 rfl (fun hb2 hc2=>?_) (fun hb2 hc2=>?_)
 ·obtain⟨hlt,x,hx,hrow, -⟩:=C1 Cu hc2;obtain⟨hlt2,y,hy,hrow2, -⟩:=C1 Cu (l:=b) (k:=j) (by simpa[hl]using hc2);refine AF (q_ (BK (w_ (m_ (h:=a_ (h:=e_ (q_ (Dd 9 (h:=AG 0 (h:=AG 1 (h:=De 2 (h:=A9 3 (h:=AG 4 (h:=AG 5 (h:=De 6 (h:=A9 7 (h:=?_)))))))))))))))));refine FO (i:=8) rfl (JB rfl rfl (by repeat constructor) (by repeat constructor) (fun w=>Yg x y w) (by kernel_rfl) ⟨rfl,rfl⟩) ?_;refine z_ (h:=t_ (?_));refine A4 rfl (fun hb3 hc3=>?_) (fun hb3 hc3=>?_)
  ·refine Bh (h:=CT (h:=?_));refine A6 ?_
   first|(exfalso;first|contradiction|omega)|(exact vb (by rw[←hd,RV hx hy];simp[hc3]))
  refine BD (BE (t_ (Aw (J3 (h:=?_)))));refine⟨_,_,?_,⟨j+1,by omega,rfl,(by rw[←hd,RV hx hy,hc3];simp),rfl⟩,(wk 0 0)⟩;omega
 have e:=CF Cu hj hc2;subst e;refine HQ (h:=?_);refine A6 ?_
 first|(exfalso;first|contradiction|omega)|(exact vb (by rw[←hd,List.drop_length,hl,List.drop_length];rfl))
theorem mJ(a:List Tst)(ha:a.length≤1000):AFn prog 129 [.sl 5 (a.map Cu) none] (fun x=>x= .sl 5 (a.map Cu) none):=by
 refine enter Tryz.func129 rfl rfl rfl rfl rfl 0 rfl ?_;refine w_ (Bn (h:=?_));refine A3 rfl (aM rfl rfl ?_);intro b hb;refine e_ (?_);refine A4 rfl (fun hb1 hc1=>?_) (fun hb1 hc1=>?_)
 ·refine BL (h:=?_);refine QG (xs:=[.v (.slice none 0 0)]) (r:= .sl 5 [] none) none (by repeat (first|exact ResA.nil|(apply ResA.tmp;(focus exact rfl))|(apply ResA.cellN;(focus exact inferInstance);(focus exact rfl);(focus exact rfl);(focus exact rfl))|(apply ResA.cell1;(focus exact inferInstance);(focus exact rfl);(focus exact rfl);(focus exact rfl)))) rfl rfl rfl (LeA.nil _) ⟨rfl,rfl,?_⟩;rw[hb hc1]
 refine AF (w_ (?_));refine A3 rfl (aO (by repeat constructor) ?_);refine m_ (h:=Hw (h:=a_ (h:=e_ (B5 (?_)))));refine A6 ?_;rfl
theorem mK(a b:Rul):a=b↔a.list=b.list∧a.action=b.action∧a.calls=b.calls∧a.tests=b.tests∧a.watch=b.watch∧a.path=b.path∧a.perm=b.perm∧a.key=b.key:=by
 cases a;cases b;simp
theorem LQ(a b:Rul):decide (a=b)=decide (a.list=b.list∧a.action=b.action∧a.calls=b.calls∧a.tests=b.tests∧a.watch=b.watch∧a.path=b.path∧a.perm=b.perm∧a.key=b.key):=decide_eq_decide.2 (mK a b)
theorem mL(a b:Rul)(ha:a.tests.length≤1000):AFn prog 158 [.agg (Ag a), .agg (Ag b)] (fun x=>x= .v (.bool (decide (a=b)))):=by
 refine enter Tryz.func158 rfl rfl rfl rfl rfl 0 rfl ?_;refine Gl (h:=B0 (h:=Cs (h:=m_ (h:=?_))));refine AJ true rfl rfl (fun hb1 hc1=>?_) (fun hb1 hc1=>?_)
 ·refine Aa (h:=Cs (h:=Bz (h:=?_)));refine AJ true rfl rfl (fun hb2 hc2=>?_) (fun hb2 hc2=>?_)
  ·refine Aa (h:=Cs (h:=Bz (h:=?_)));refine AJ true rfl rfl (fun hb3 hc3=>?_) (fun hb3 hc3=>?_)
   ·refine JM (h:=?_);refine Aq (A8 (mH a.tests b.tests ha) ?_);rintro r rfl;refine Bz (h:=?_);refine AJ true rfl rfl (fun hb4 hc4=>?_) (fun hb4 hc4=>?_)
    ·refine Aa (h:=Cs (h:=Bz (h:=?_)));refine AJ true rfl rfl (fun hb5 hc5=>?_) (fun hb5 hc5=>?_)
     ·refine Aa (h:=Cs (h:=Bz (h:=?_)));refine AJ true rfl rfl (fun hb6 hc6=>?_) (fun hb6 hc6=>?_)
      ·refine Aa (h:=Cs (h:=Bz (h:=?_)));refine AJ true rfl rfl (fun hb7 hc7=>?_) (fun hb7 hc7=>?_)
       ·refine Aa (h:=Cs (h:=Gp (h:=?_)));refine A6 ?_
        first|(exfalso;first|contradiction|omega)|(exact vb (by rw[LQ];simp[*]))
       refine B7 (h:=Gq (h:=?_));refine A6 ?_
       first|(exfalso;first|contradiction|omega)|(exact vb (by rw[LQ];simp[*]))
      refine Fz (h:=B7 (h:=Gq (h:=?_)));refine A6 ?_
      first|(exfalso;first|contradiction|omega)|(exact vb (by rw[LQ];simp[*]))
     refine Fz (h:=Fz (h:=B7 (h:=Gq (h:=?_))));refine A6 ?_
     first|(exfalso;first|contradiction|omega)|(exact vb (by rw[LQ];simp[*]))
    refine Fz (h:=Fz (h:=Fz (h:=HG (h:=?_))));refine HU (h:=B8 (h:=?_));refine A6 ?_
    first|(exfalso;first|contradiction|omega)|(exact vb (by rw[LQ];simp[*]))
   refine Fz (h:=Fz (h:=Fz (h:=HG (h:=?_))));refine B7 (h:=Be (h:=B7 (h:=Gq (h:=?_))));refine A6 ?_
   first|(exfalso;first|contradiction|omega)|(exact vb (by rw[LQ];simp[*]))
  refine Fz (h:=Fz (h:=Fz (h:=HG (h:=?_))));refine B7 (h:=Be (h:=Fz (h:=B7 (h:=Gq (h:=?_)))));refine A6 ?_
  first|(exfalso;first|contradiction|omega)|(exact vb (by rw[LQ];simp[*]))
 refine Fz (h:=Fz (h:=Fz (h:=HG (h:=?_))));refine B7 (h:=Be (h:=Fz (h:=Fz (h:=B7 (h:=D8 (h:=?_))))));refine B8 (h:=?_);refine A6 ?_
 first|(exfalso;first|contradiction|omega)|(exact vb (by rw[LQ];simp[*]))
theorem mM(a b:Rul)(ha:a.tests.length≤1000):AFn prog 104 [.agg (Ag a), .agg (Ag b)] (fun x=>x= .v (.bool (decide (a=b)))):=by
 refine enter Tryz.func104 rfl rfl rfl rfl rfl 0 rfl ?_;refine Gl (h:=q_ (?_));refine Kd (⟨look [(2, .bp 0 0),(3, .bp 1 0),(61, .v (.bool (!decide (a.list=b.list∧a.action=b.action∧a.calls=b.calls∧a.watch=b.watch∧a.path=b.path∧a.perm=b.perm∧a.key=b.key∧(a.tests.length:Int)=(b.tests.length:Int)))))],⟨[Ag a,Ag b],[]⟩⟩) ?_ ?_
 ·skip
  refine Aw (Aa (h:=C6 (h:=m_ (h:=?_))));refine AJ false rfl rfl (fun hb1 hc1=>?_) (fun hb1 hc1=>?_)
  ·refine GK (h:=GK (h:=GK (h:=HG (h:=?_))));refine B7 (h:=Bz (h:=GK (h:=GK (h:=BT (h:=B7 (h:=?_))))));refine Dc (h:=JL (h:=?_))
   first|(exfalso;first|contradiction|omega)|exact CD 2 0 rfl
  refine Aa (h:=C6 (h:=Be (h:=?_)));refine AJ false rfl rfl (fun hb2 hc2=>?_) (fun hb2 hc2=>?_)
  ·refine GK (h:=GK (h:=GK (h:=HG (h:=?_))));refine B7 (h:=Bz (h:=GK (h:=BT (h:=J2 (h:=?_)))))
   first|(exfalso;first|contradiction|omega)|exact CD 2 0 rfl
  refine Aa (h:=C6 (h:=Be (h:=?_)));refine AJ false rfl rfl (fun hb3 hc3=>?_) (fun hb3 hc3=>?_)
  ·refine GK (h:=GK (h:=GK (h:=HG (h:=?_))));refine B7 (h:=Bz (h:=BT (h:=J2 (h:=?_))))
   first|(exfalso;first|contradiction|omega)|exact CD 2 0 rfl
  refine Aa (h:=C6 (h:=Be (h:=?_)));refine AJ false rfl rfl (fun hb4 hc4=>?_) (fun hb4 hc4=>?_)
  ·refine GK (h:=GK (h:=GK (h:=HG (h:=?_))));refine Fh (h:=DC (h:=?_))
   first|(exfalso;first|contradiction|omega)|exact CD 2 0 rfl
  refine Aa (h:=C6 (h:=Be (h:=?_)));refine AJ false rfl rfl (fun hb5 hc5=>?_) (fun hb5 hc5=>?_)
  ·refine GK (h:=GK (h:=BT (h:=J2 (h:=?_))))
   first|(exfalso;first|contradiction|omega)|exact CD 2 0 rfl
  refine Aa (h:=C6 (h:=Be (h:=?_)));refine AJ false rfl rfl (fun hb6 hc6=>?_) (fun hb6 hc6=>?_)
  ·refine GK (h:=BT (h:=J2 (h:=?_)))
   first|(exfalso;first|contradiction|omega)|exact CD 2 0 rfl
  refine Aa (h:=C6 (h:=Be (h:=?_)));refine AJ false rfl rfl (fun hb7 hc7=>?_) (fun hb7 hc7=>?_)
  ·refine BT (h:=J2 (h:=?_))
   first|(exfalso;first|contradiction|omega)|exact CD 2 0 rfl
  refine GG (h:=GG (h:=HA (h:=Fi (h:=?_))))
  first|(exfalso;first|contradiction|omega)|exact CD 2 0 rfl
 skip
 refine A4 rfl (fun hb8 hc8=>?_) (fun hb8 hc8=>?_)
 ·have hne:a≠b:=by rintro rfl;simp at hc8
  refine BL (h:=?_);refine A6 ?_
  first|(exfalso;first|contradiction|omega)|(exact vb (by simp[hne]))
 have hq:a.list=b.list∧a.action=b.action∧a.calls=b.calls∧a.watch=b.watch∧a.path=b.path∧a.perm=b.perm∧a.key=b.key∧(a.tests.length:Int)=(b.tests.length:Int):=by simpa using hc8
 obtain⟨q1,q2,q3,q4,q5,q6,q7,q8⟩:=hq;have hl:a.tests.length=b.tests.length:=by omega
 refine AF (Ca (h:=?_));refine BU (fun n s=>∃j:Nat,j≤a.tests.length∧n=a.tests.length - j∧decide (a.tests.drop j=b.tests.drop j)=decide (a.tests=b.tests)∧s=⟨look [(2, .bp 0 0),(3, .bp 1 0),(5, .v (.int .i64 (j:Int)))],⟨[Ag a,Ag b],[]⟩⟩) (a.tests.length) ((wk 2 0)) (⟨0,by omega,rfl,rfl,rfl⟩) ?_;rintro n s ⟨j,hj,rfl,hd,rfl⟩;refine Gs (h:=?_);refine A4 rfl (fun hb9 hc9=>?_) (fun hb9 hc9=>?_)
 ·obtain⟨hlt,x,hx,hrow, -⟩:=C1 Cu hc9;obtain⟨hlt2,y,hy,hrow2, -⟩:=C1 Cu (l:=b.tests) (k:=j) (by simpa[hl]using hc9);refine AF (q_ (BK (q_ (Dd 11 (h:=AD 0 (h:=A9 1 (h:=AG 2 (h:=De 3 (h:=A9 4 (h:=AD 5 (h:=A9 6 (h:=AG 7 (h:=De 8 (h:=A9 9 (h:=?_)))))))))))))));refine FO (i:=10) rfl (JB rfl rfl (by repeat constructor) (by repeat constructor) (fun w=>Yg x y w) (by kernel_rfl) ⟨rfl,rfl⟩) ?_;refine z_ (h:=t_ (?_));refine A4 rfl (fun hb10 hc10=>?_) (fun hb10 hc10=>?_)
  ·have ht:decide (a.tests=b.tests)=false:=by rw[←hd,RV hx hy];simp[hc10]
   refine Bh (h:=CT (h:=?_));refine A6 ?_
   first|(exfalso;first|contradiction|omega)|(exact vb (by rw[LQ];simp at ht;simp[ht]))
  refine DH (h:=?_);refine⟨_,_,?_,⟨j+1,by omega,rfl,(by rw[←hd,RV hx hy,hc10];simp),rfl⟩,(wk 2 0)⟩;omega
 have e:=CF Cu hj hc9;subst e;have ht:decide (a.tests=b.tests)=true:=by rw[←hd,List.drop_length,hl,List.drop_length];rfl
 refine HQ (h:=?_);refine A6 ?_
 first|(exfalso;first|contradiction|omega)|(exact vb (by rw[LQ];simp at ht;simp[*]))
def Ho(l:List Rul)(r:Rul):Int:=Dj (fun _ x=>decide (x=r)) l 0
theorem mN(i:Nat)(x r:Rul)(hx:x.tests.length≤1000):AFn prog 157 [.v (.int .i64 (i:Int)), .agg (Ag x), .fp (Ag r)] (fun y=>y= .v (.bool (decide (x=r)))):=by
 refine enter Tryz.func157 rfl rfl rfl rfl rfl 0 rfl ?_;refine Ef (h:=B4 (h:=CN (h:=?_)));refine A3 rfl (A8 (mL x r hx) ?_);rintro r rfl;refine B8 (h:=?_);refine A6 ?_;rfl
theorem mO(l:List Rul)(r:Rul)(hl:l.length≤1000)(ht:∀r∈l,r.tests.length≤1000):AFn prog 107 [.sl 8 (l.map Ag) none, .agg (Ag r)] (fun x=>x= .v (.int .i64 (Ho l r))):=by
 refine enter Tryz.func107 rfl rfl rfl rfl rfl 0 rfl ?_;refine Ef (h:=Bu (h:=SO (h:=?_)));refine A3 rfl (SE rfl (by repeat (first|exact ArgsL.nil|refine ArgsL.cons _ _ _ _ _ rfl rfl ?_)) (Vp l hl (fun _ x=>decide (x=r)) 157 [.fp (Ag r)] rfl rfl fun i x hi=>mN i x r (ht x (Aj hi))) ?_);rintro x rfl;refine⟨rfl,?_⟩;refine B8 (h:=?_);refine A6 ?_;rfl
theorem UA(l:List Rul)(r:Rul)(hl:l.length≤1000)(ht:∀r∈l,r.tests.length≤1000):AFn prog 109 [.sl 8 (l.map Ag) none, .agg (Ag r)] (fun x=>x= .v (.int .i64 (Ho l r))):=by
 refine enter Tryz.func109 rfl rfl rfl rfl rfl 0 rfl ?_;refine Ef (h:=B4 (h:=Ca (h:=?_)));refine BU (fun n s=>∃j:Nat,j≤l.length∧n=l.length - j∧Dj (fun _ x=>decide (x=r)) (l.drop j) j=Ho l r∧s=⟨look [(0, .sl 8 (l.map Ag) none),(3, .bp 0 0),(5, .v (.int .i64 (j:Int)))],⟨[Ag r],[]⟩⟩) (l.length) ((wk 1 0)) (⟨0,by omega,rfl,rfl,rfl⟩) ?_;rintro n s ⟨j,hj,rfl,ha,rfl⟩;refine Dq (h:=Gm (h:=?_));refine A4 rfl (fun hb1 hc1=>?_) (fun hb1 hc1=>?_)
 ·obtain⟨hlt,x,hy,hrow, -⟩:=C1 Ag hc1;refine AF (q_ (BK (q_ (Dd 6 (h:=AG 0 (h:=AG 1 (h:=De 2 (h:=A9 3 (h:=A9 4 (h:=?_))))))))));refine c_ 5 rfl (A8 (mM x r (ht x (Aj hy))) ?_);rintro r rfl;refine GJ (h:=t_ (?_));refine A4 rfl (fun hb2 hc2=>?_) (fun hb2 hc2=>?_)
  ·refine AX (h:=BA (h:=CT (h:=?_)));refine A6 ?_
   first|(exfalso;first|contradiction|omega)|(exact vi (by rw[←ha,Nk hy];simp[hc2]))
  refine DH (h:=?_);refine⟨_,_,?_,⟨j+1,by omega,rfl,(by rw[←ha,Nk hy];simp[hc2]),rfl⟩,(wk 1 0)⟩;omega
 have e:=CF Ag hj hc1;subst e;refine HQ (h:=?_);refine A6 ?_
 first|(exfalso;first|contradiction|omega)|(exact vi (by rw[←ha,Sf]))
def Jc(pre:List Rul):List Rul→Int
 |[]=>0
 |r::rs=>if BG r≠0 then BG r else if 0≤Ho pre r then 141 else Jc (pre++[r]) rs
theorem OF{l:List Rul}{j:Nat}{r:Rul}(h:l[j]?=some r):Jc (l.take j) (l.drop j)=if BG r≠0 then BG r else if 0≤Ho (l.take j) r then 141 else Jc (l.take (j+1)) (l.drop (j+1)):=by
 obtain⟨hk,e⟩:=Ab.1 h;rw[List.drop_eq_getElem_cons hk,Jc,e,List.take_succ_eq_append_getElem hk,e]
def ED(l:List Rul):Int:=if 24<(l.length:Int)then 140 else Jc [] l
theorem mP(l:List Rul)(hl:l.length≤1000)(hi:∀r∈l,F9 r):AFn prog 85 [.sl 8 (l.map Ag) none] (fun x=>x= .v (.int .i64 (ED l))):=by
 have hfind:∀j r,AFn prog 107 [.sl 8 ((l.map Ag).take j) none, .agg (Ag r)] (fun x=>x= .v (.int .i64 (Ho (l.take j) r))):=fun j r=>by
  rw[←List.map_take];exact mO (l.take j) r (by simp;omega) fun x hx=>(hi x (List.mem_of_mem_take hx)).2.2.2
 refine enter Tryz.func85 rfl rfl rfl rfl rfl 0 rfl ?_;refine w_ (Bn (h:=Gu (h:=e_ (?_))));refine A4 rfl (fun hb1 hc1=>?_) (fun hb1 hc1=>?_)
 ·rw[List.length_map]at hc1;refine BL (h:=?_);refine A6 ?_
  first|(exfalso;first|contradiction|omega)|(exact vi (by rw[ED,if_pos hc1]))
 rw[List.length_map]at hc1;refine Ds (h:=JK (h:=e_ (BK (?_))));refine BU (fun n s=>∃j:Nat,j≤l.length∧n=l.length - j∧Jc (l.take j) (l.drop j)=Jc [] l∧s=⟨look [(0, .sl 8 (l.map Ag) none),(9, .sl 8 (l.map Ag) none),(10, .v (.int .i64 ((l.map Ag).length:Int))),(11, .v (.int .i64 (j:Int)))],⟨[],[]⟩⟩) (l.length) ((wk 0 0)) (⟨0,by omega,rfl,rfl,rfl⟩) ?_;rintro n s ⟨j,hj,rfl,ha,rfl⟩;refine w_ (D2 (h:=q_ (?_)));refine A4 rfl (fun hb2 hc2=>?_) (fun hb2 hc2=>?_)
 ·obtain⟨hlt,r,hy,hrow, -⟩:=C1 Ag hc2;refine C0 (h:=AX (h:=i_ (h:=l_ (h:=CY (h:=a_ (h:=s_ (h:=e_ (q_ (C5 (h:=?_))))))))));refine A3 rfl (A8 (mD r (hi r (Aj hy))) ?_);rintro r rfl;refine Bu (h:=Bo (h:=?_));refine A4 rfl (fun hb3 hc3=>?_) (fun hb3 hc3=>?_)
  ·refine AX (h:=E8 (h:=D1 (h:=CT (h:=?_))));refine A6 ?_
   first|(exfalso;first|contradiction|omega)|(exact vi (by rw[ED,if_neg hc1,←ha,OF hy,if_pos hc3]))
  refine AF (q_ (Dd 6 (h:=AG 0 (h:=AG 1 (h:=?_)))));refine FO (i:=2) rfl (S4 (k:=j) rfl rfl rfl (by simp;omega) ⟨rfl,rfl⟩) ?_;refine A9 3 (h:=?_);refine c_ 4 rfl (A8 (hfind j r) ?_);rintro r rfl;refine o_ (h:=VK 5 (h:=z_ (h:=t_ (?_))));refine A4 rfl (fun hb4 hc4=>?_) (fun hb4 hc4=>?_)
  ·refine Bh (h:=CT (h:=?_));refine A6 ?_
   first|(exfalso;first|contradiction|omega)|(exact vi (by rw[ED,if_neg hc1,←ha,OF hy,if_neg (by omega),if_pos hc4]))
  refine BD (BE (t_ (Aw (J3 (h:=?_)))));refine⟨_,_,?_,⟨j+1,by omega,rfl,(by rw[←ha,OF hy,if_neg (by omega),if_neg hc4]),rfl⟩,(wk 0 0)⟩;omega
 have e:=CF Ag hj hc2;subst e;refine HQ (h:=?_);refine A6 ?_
 first|(exfalso;first|contradiction|omega)|(exact vi (by rw[ED,if_neg hc1,←ha];simp[Jc]))
end
section
theorem Yh(l:List Rul)(hl:l.length≤1000)(hi:∀r∈l,F9 r):AFn prog 88 [.sl 8 (l.map Ag) none] (fun x=>x= .v (.int .i64 (ED l))):=by
 have hfind:∀j r,AFn prog 109 [.sl 8 ((l.map Ag).take j) none, .agg (Ag r)] (fun x=>x= .v (.int .i64 (Ho (l.take j) r))):=fun j r=>by
  rw[←List.map_take];exact UA (l.take j) r (by simp;omega) fun x hx=>(hi x (List.mem_of_mem_take hx)).2.2.2
 refine enter Tryz.func88 rfl rfl rfl rfl rfl 0 rfl ?_;refine w_ (Bn (h:=Gu (h:=e_ (?_))));refine A4 rfl (fun hb1 hc1=>?_) (fun hb1 hc1=>?_)
 ·rw[List.length_map]at hc1;refine BL (h:=?_);refine A6 ?_
  first|(exfalso;first|contradiction|omega)|(exact vi (by rw[ED,if_pos hc1]))
 rw[List.length_map]at hc1;refine AF (Ca (h:=?_));refine BU (fun n s=>∃j:Nat,j≤l.length∧n=l.length - j∧Jc (l.take j) (l.drop j)=Jc [] l∧s=⟨look [(0, .sl 8 (l.map Ag) none),(3, .v (.int .i64 (j:Int)))],⟨[],[]⟩⟩) (l.length) ((wk 0 0)) (⟨0,by omega,rfl,rfl,rfl⟩) ?_;rintro n s ⟨j,hj,rfl,ha,rfl⟩;refine Dq (h:=Gm (h:=?_));refine A4 rfl (fun hb2 hc2=>?_) (fun hb2 hc2=>?_)
 ·obtain⟨hlt,r,hy,hrow, -⟩:=C1 Ag hc2;refine C0 (h:=Bk (h:=Fw (h:=l_ (h:=?_))));refine A3 rfl (A8 (RU r (hi r (Aj hy))) ?_);rintro r rfl;refine Bu (h:=Bo (h:=?_));refine A4 rfl (fun hb3 hc3=>?_) (fun hb3 hc3=>?_)
  ·refine AX (h:=E8 (h:=D1 (h:=CT (h:=?_))));refine A6 ?_
   first|(exfalso;first|contradiction|omega)|(exact vi (by rw[ED,if_neg hc1,←ha,OF hy,if_pos hc3]))
  refine AF (q_ (Dd 9 (h:=AG 0 (h:=AG 1 (h:=?_)))));refine FO (i:=2) rfl (S4 (k:=j) rfl rfl rfl (by simp;omega) ⟨rfl,rfl⟩) ?_;refine AG 3 (h:=AG 4 (h:=De 5 (h:=A9 6 (h:=?_))));refine c_ 7 rfl (A8 (hfind j r) ?_);rintro r rfl;refine o_ (h:=VK 8 (h:=z_ (h:=t_ (?_))));refine A4 rfl (fun hb4 hc4=>?_) (fun hb4 hc4=>?_)
  ·refine Bh (h:=CT (h:=?_));refine A6 ?_
   first|(exfalso;first|contradiction|omega)|(exact vi (by rw[ED,if_neg hc1,←ha,OF hy,if_neg (by omega),if_pos hc4]))
  refine DH (h:=?_);refine⟨_,_,?_,⟨j+1,by omega,rfl,(by rw[←ha,OF hy,if_neg (by omega),if_neg hc4]),rfl⟩,(wk 0 0)⟩;omega
 have e:=CF Ag hj hc2;subst e;refine HQ (h:=?_);refine A6 ?_
 first|(exfalso;first|contradiction|omega)|(exact vi (by rw[ED,if_neg hc1,←ha];simp[Jc]))
theorem RW(r:Rul)(hl:r.tests.length≤1000):AFn prog 102 [.agg (Ag r)] (fun x=>x= .agg (Ag r)):=by
 refine enter Tryz.func102 rfl rfl rfl rfl rfl 0 rfl ?_;refine w_ (b_ (h:=CY (h:=e_ (w_ (f_ (h:=l_ (h:=Hw (h:=f_ (h:=s_ (h:=e_ (w_ (l_ (h:=s_ (h:=e_ (B5 (?_))))))))))))))));refine A6 ?_;rfl
theorem mQ(l:List Rul)(h1:l.length≤1000)(hl:∀r∈l,r.tests.length≤1000):QK prog 89 [.sl 8 (l.map Ag) none] (fun g=> .sl 8 (l.map Ag) g) (83,8,l.map Ag):=by
 refine enter Tryz.func89 rfl rfl rfl rfl rfl 0 rfl ?_;refine DG (h:=DG (h:=Ca (h:=?_)));refine NW 3 83 8 rfl (by repeat constructor) ?_;refine BU (fun n s=>∃k:Nat,k≤l.length∧n=l.length - k∧s=⟨look [(0, .sl 8 (l.map Ag) none),(3, .sl 8 ((l.take k).map Ag) (some 0)),(4, .v (.int .i64 (k:Int)))],⟨[],[(83,8,(l.take k).map Ag)]⟩⟩) (l.length) ((wk 0 1)) (⟨0,BH _,rfl,rfl⟩) ?_;rintro n s ⟨k,hk,rfl,rfl⟩;refine Dq (h:=Gm (h:=?_));refine A4 rfl (fun hb1 hc1=>?_) (fun hb1 hc1=>?_)
 ·obtain⟨hlt,r,hr,hrow,e⟩:=C1 Ag hc1;refine C0 (h:=EQ (h:=Fw (h:=l_ (h:=?_))));refine A3 rfl (A8 (RW r (hl r (Aj hr))) ?_);rintro r rfl;refine BY (h:=Hw (h:=a_ (h:=C4 (BE (t_ (Aw (m_ (h:=Fc (h:=a_ (h:=C4 (AT (?_))))))))))));refine⟨_,_,?_,⟨k+1,by omega,rfl,rfl⟩,?_⟩
  ·omega
  rw[e];exact(wk 0 1)
 have e:=CF Ag hk hc1;subst e;rw[List.take_length];refine CJ (h:=EA (h:=?_));refine AU (some 0) (h5:=(A7 _)) (h6:=⟨rfl,rfl,rfl⟩)
theorem mR(l:List Rul)(h1:l.length≤1000)(hl:∀r∈l,r.tests.length≤1000):AFn prog 89 [.sl 8 (l.map Ag) none] (fun x=>x= .sl 8 (l.map Ag) none):=by
 refine enter Tryz.func89 rfl rfl rfl rfl rfl 0 rfl ?_;refine DG (h:=DG (h:=Ca (h:=?_)));refine NW 3 83 8 rfl (by repeat constructor) ?_;refine BU (fun n s=>∃k:Nat,k≤l.length∧n=l.length - k∧s=⟨look [(0, .sl 8 (l.map Ag) none),(3, .sl 8 ((l.take k).map Ag) (some 0)),(4, .v (.int .i64 (k:Int)))],⟨[],[(83,8,(l.take k).map Ag)]⟩⟩) (l.length) ((wk 0 1)) (⟨0,BH _,rfl,rfl⟩) ?_;rintro n s ⟨k,hk,rfl,rfl⟩;refine Dq (h:=Gm (h:=?_));refine A4 rfl (fun hb1 hc1=>?_) (fun hb1 hc1=>?_)
 ·obtain⟨hlt,r,hr,hrow,e⟩:=C1 Ag hc1;refine C0 (h:=EQ (h:=Fw (h:=l_ (h:=?_))));refine A3 rfl (A8 (RW r (hl r (Aj hr))) ?_);rintro r rfl;refine BY (h:=Hw (h:=a_ (h:=C4 (BE (t_ (Aw (m_ (h:=Fc (h:=a_ (h:=C4 (AT (?_))))))))))));refine⟨_,_,?_,⟨k+1,by omega,rfl,rfl⟩,?_⟩
  ·omega
  rw[e];exact(wk 0 1)
 have e:=CF Ag hk hc1;subst e;rw[List.take_length];refine CJ (h:=EA (h:=?_));refine A6 ?_;rfl
end
def Cy(l:List Rul)(r:Rul)(front:Bool):List Rul×Int:=
 if ED l≠0 then([],ED l)else if BG r≠0 then([],BG r)else if 0≤Ho l r then([],141)else if 24≤(l.length:Int)then([],140)else(if front=true then r::l else l++[r],0)
def sC(l:List Rul)(r:Rul):List Rul×Int:=
 if ED l≠0 then([],ED l)else if Ho l r<0 then([],142)else(l.eraseIdx (Ho l r).toNat,0)
def J7(x:List Rul×Int):AV:= .tup [.sl 8 (x.1.map Ag) none, .v (.int .i64 x.2)]
theorem Yi{l:List Rul}(h:¬ED l≠0):(l.length:Int)≤24:=by
 unfold ED at h;split at h
 ·simp at h
 omega
theorem Me{x:List Rul×Int}{e:Int}(h:x=([],e)):LeA (.tup [.v (.slice none 0 0), .v (.int .i64 e)]) (J7 x):=by
 rw[h];exact(by repeat (first|exact A7 _|exact LeA.nil _|exact LeL.refl _|refine LeA.agg ?_|refine LeA.tup ?_|exact LeL.nil|refine LeL.cons ?_ ?_|exact LeA.any _))
theorem Yj{x:List Rul×Int}{l:List Rul}{e:Int}(h:x=(l,e)):LeA (.tup [.sl 8 (l.map Ag) none, .v (.int .i64 e)]) (J7 x):=by
 rw[h];exact A7 _
end Go.Proofs.YtbgnigjfkbmceaaGreatDoor
