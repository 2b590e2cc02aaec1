/-
  Part 16 of the proof of FilterFollowsP: what the statement's proof uses of the texts in wip/tpl.
-/
import Derived.Test.YtbgnigjfkbmceaaGreatDoorQi15
open Go.Proofs.Tryz (prog)
set_option maxRecDepth 10000
set_option maxHeartbeats 4000000
set_option linter.unusedVariables false
set_option linter.unusedSimpArgs false
namespace Go.Proofs.YtbgnigjfkbmceaaGreatDoor
open Go.RowKit
theorem Zy{α:Type}{p:Nat→α→Bool}:∀{l:List α} {i:Nat},(∀k x,l[k]?=some x→p (i+k) x=false)→EC p l i= -1
 |[],_,_=>rfl
 |x::xs,i,h=>by
   rw[EC,if_neg (by simpa using h 0 x rfl)]
   exact Zy fun k y hy=>by
    have:=h (k+1) y (by simpa using hy)
    rwa [show i+1+k=i+(k+1) by omega]
theorem Up{l:List Rul}{r:Rul}:JA l r<0↔r∉l:=by
 constructor
 ·intro h hm;obtain⟨k,hk⟩:=List.getElem?_of_mem hm;rcases Int.lt_or_le (JA l r) 0 with h1|h1
  ·clear h
   have:∀(l:List Rul) (i k:Nat),l[k]?=some r→0≤EC (fun _ x=>decide (x=r)) l i:=by
    intro l
    induction l with
    |nil=>intro i k hk;simp at hk
    |cons x xs ih=>
      intro i k hk;rw[EC];split
      ·omega
      rename_i hne
      cases k with
      |zero=>simp at hk;simp[hk]at hne
      |succ k=>exact ih (i+1) k (by simpa using hk)
   have:=this l 0 k hk;unfold JA at h1;omega
  omega
 intro h
 have:JA l r= -1:=Zy fun k x hx=>by
  simp only[decide_eq_false_iff_not];rintro rfl;exact h (Ag hx)
 omega
theorem Zz:∀(l pre:List Rul),Jw pre l=0↔(∀x∈l,BL x=0∧x∉pre)∧l.Nodup
 |[],pre=>by simp[Jw]
 |r::rs,pre=>by
   rw[Jw];by_cases h1:BL r=0
   ·rw[if_neg (by simpa using h1)];by_cases h2:0≤JA pre r
    ·rw[if_pos h2];have h3:r∈pre:=Classical.byContradiction fun h=>by have:=Up.2 h;omega
     exact⟨fun h=>absurd h (by decide),fun h=>absurd h3 (h.1 r (by simp)).2⟩
    rw[if_neg h2,Zz rs (pre++[r])];have h3:r∉pre:=Up.1 (by omega);constructor
    ·rintro⟨k1,k2⟩;refine⟨?_,?_⟩
     ·intro x hx;rcases List.mem_cons.1 hx with rfl|hx
      ·exact⟨h1,h3⟩
      exact⟨(k1 x hx).1,fun hm=>(k1 x hx).2 (by simp[hm])⟩
     exact List.nodup_cons.2 ⟨fun hm=>(k1 r hm).2 (by simp),k2⟩
    rintro⟨k1,k2⟩;obtain⟨k3,k4⟩:=List.nodup_cons.1 k2;refine⟨fun x hx=>⟨(k1 x (by simp[hx])).1,fun hm=>?_⟩,k4⟩;rcases List.mem_append.1 hm with hm|hm
    ·exact(k1 x (by simp[hx])).2 hm
    rw[List.mem_singleton.1 hm]at hx;exact k3 hx
   rw[if_pos (by simpa using h1)];constructor
   ·intro h;exact absurd h h1
   intro h;exact absurd (h.1 r (by simp)).1 h1
theorem Np(l:List Rul):DP l=0↔l.length≤24∧(∀x∈l,BL x=0)∧l.Nodup:=by
 unfold DP;split
 ·simp;omega
 rw[Zz];simp;omega
structure LstOk(l:List Rul)(n:Nat):Prop where
 chk:DP l=0
 ins:∀r∈l,Em r
 len:l.length≤n
theorem LstOk.nil(n:Nat):LstOk [] n:=⟨(Np []).2 (by simp),by simp,by simp⟩
theorem LstOk.add{l:List Rul}{n:Nat}{r:Rul}{f:Bool}(h:LstOk l n)(hr:Em r)(he:(D1 l r f).2=0):LstOk (D1 l r f).1 (n+1):=by
 unfold D1 at he ⊢;rw[if_neg (by rw[h.chk];simp)]at he ⊢;split at he
 ·rename_i h1;exact absurd he h1
 rename_i h1;rw[if_neg h1];split at he
 ·cases he
 rename_i h2;rw[if_neg h2];split at he
 ·cases he
 rename_i h3;rw[if_neg h3];have hm:r∉l:=Up.1 (by omega);obtain⟨c1,c2,c3⟩:=(Np l).1 h.chk;have h1':BL r=0:=by simpa using h1
 cases f
 ·refine⟨(Np _).2 ⟨by simp;omega,?_,?_⟩,?_,?_⟩
  ·intro x hx;rcases(by simpa using hx:x∈l∨x=r)with hx|hx
   ·exact c2 x hx
   rw[hx];exact h1'
  ·simp only[Bool.false_eq_true,if_false];exact List.nodup_append.2 ⟨c3,by simp,fun a ha b hb=>by rw[List.mem_singleton.1 hb];rintro rfl;exact hm ha⟩
  ·intro x hx;rcases(by simpa using hx:x∈l∨x=r)with hx|hx
   ·exact h.ins x hx
   rw[hx];exact hr
  have:=h.len;simp;omega
 refine⟨(Np _).2 ⟨by simp;omega,?_,?_⟩,?_,?_⟩
 ·intro x hx;rcases(by simpa using hx:x=r∨x∈l)with hx|hx
  ·rw[hx];exact h1'
  exact c2 x hx
 ·simp only[if_true];exact List.nodup_cons.2 ⟨hm,c3⟩
 ·intro x hx;rcases(by simpa using hx:x=r∨x∈l)with hx|hx
  ·rw[hx];exact hr
  exact h.ins x hx
 have:=h.len;simp;omega
theorem LstOk.mono{l:List Rul}{n m:Nat}(h:LstOk l n)(hm:n≤m):LstOk l m:=⟨h.chk,h.ins,Nat.le_trans h.len hm⟩
def Q3:Rul:=⟨3,1,4294967295,[],0,⟨#[]⟩,0,⟨#[]⟩⟩
theorem qV:Em Q3:=by unfold Em Q3;simp;decide
theorem qW:BL Q3=0:=by decide
section
theorem qX(l:List Int)(a:Nat)(ha:a≤10000000000):Hl prog 40 l a [] 200 (fun r=>∃x:Rul,Em x∧r= .agg (AP x)):=by
 refine enter Tryz.func40 rfl rfl rfl rfl rfl 1 rfl ?_;refine w_ (DT (h:=Aa (h:=BY (h:=?_))));refine A3 rfl (Aw 0 (hc:=Gw l _ _ (fun _=>true) (by omega) (by rfl) (by rfl) (by rfl)) (hR:=?_));rintro r a1 ha1 ⟨k1,rfl,p1⟩;refine Ax ?_;refine m_ (h:=BY (h:=?_));refine A3 rfl (Aw 0 (hc:=Gw l _ _ (fun _=>true) (by omega) (by rfl) (by rfl) (by rfl)) (hR:=?_));rintro r a2 ha2 ⟨k2,rfl,p2⟩;refine Ax ?_;refine m_ (h:=BY (h:=?_));refine A3 rfl (Aw 0 (hc:=Ms l _ _ (fun _=>true) (by omega) (by rfl) (by rfl) (by rfl)) (hR:=?_));rintro r a3 ha3 ⟨k3,rfl,p3⟩;refine Ax ?_;refine Bq (h:=Dk (h:=?_));refine B9 (fun s=>∃(b:Nat) (li ac ca:Int) (key:ByteArray),b≤a+50∧0≤ca∧ca<18446744073709551616∧s=⟨look [(0, .bp 0 0),(2, .bp 1 0),(3, .bp 2 0)],⟨[EG l b,[.v (.int .i64 0), .v (.int .i64 0), .v (.int .u64 0), .v (.slice none 0 0), .v (.int .i64 0), .v (.string ⟨#[]⟩), .v (.int .i64 0), .v (.string ⟨#[]⟩)],[.v (.int .i64 li), .v (.int .i64 ac), .v (.int .u64 ca), .v (.slice none 0 0), .v (.int .i64 0), .v (.string ⟨#[]⟩), .v (.int .i64 0), .v (.string key)]],[]⟩⟩) ?_ ?_
 ·skip
  refine Az (h:=E1 (h:=?_));refine AJ false rfl rfl (fun hb1 hc1=>?_) (fun hb1 hc1=>?_)
  ·refine EK (h:=Aa (h:=?_));refine A3 rfl (Aw 0 (hc:=Zx l _ (by omega)) (hR:=?_));rintro r a4 ha4 ⟨k4,rfl,p4,q4⟩;refine Ax ?_;refine D7 (h:=Bv (h:=?_));refine A3 rfl (Aw 0 (hc:=Gn l _ (3) (by omega) (by omega)) (hR:=?_));rintro r a5 ha5 ⟨k5,rfl,p5,q5,o5⟩;refine Ax ?_;refine E6 (h:=e_ (?_));refine A4 rfl (fun hb2 hc2=>?_) (fun hb2 hc2=>?_)
   ·refine Av (D7 (h:=Az (h:=BN (h:=?_))));refine A4 rfl (fun hb3 hc3=>?_) (fun hb3 hc3=>?_)
    ·refine Av (Cb (h:=D6 (h:=?_)));refine⟨_,⟨_,_,_,_,_,?_,?_,?_,rfl⟩,(wk 3 0)⟩<;>omega
    refine BF (AM (?_));refine⟨_,⟨_,_,_,_,_,?_,?_,?_,rfl⟩,(wk 3 0)⟩<;>omega
   refine AG (Az (h:=BN (h:=?_)));refine A4 rfl (fun hb4 hc4=>?_) (fun hb4 hc4=>?_)
   ·refine Av (Cb (h:=D6 (h:=?_)));refine⟨_,⟨_,_,_,_,_,?_,?_,?_,rfl⟩,(wk 3 0)⟩<;>omega
   refine BF (AM (?_));refine⟨_,⟨_,_,_,_,_,?_,?_,?_,rfl⟩,(wk 3 0)⟩<;>omega
  refine Cx (h:=CV (h:=?_));refine A4 rfl (fun hb5 hc5=>?_) (fun hb5 hc5=>?_)
  ·refine Aa (h:=?_);refine A3 rfl (Aw 0 (hc:=Zx l _ (by omega)) (hR:=?_));rintro r a6 ha6 ⟨k6,rfl,p6,q6⟩;refine Ax ?_;refine D7 (h:=Bv (h:=?_));refine A3 rfl (Aw 0 (hc:=Gn l _ (3) (by omega) (by omega)) (hR:=?_));rintro r a7 ha7 ⟨k7,rfl,p7,q7,o7⟩;refine Ax ?_;refine E6 (h:=e_ (?_));refine A4 rfl (fun hb6 hc6=>?_) (fun hb6 hc6=>?_)
   ·refine Av (D7 (h:=Az (h:=BN (h:=?_))));refine A4 rfl (fun hb7 hc7=>?_) (fun hb7 hc7=>?_)
    ·refine Av (Cb (h:=D6 (h:=?_)));refine⟨_,⟨_,_,_,_,_,?_,?_,?_,rfl⟩,(wk 3 0)⟩<;>omega
    refine BF (AM (?_));refine⟨_,⟨_,_,_,_,_,?_,?_,?_,rfl⟩,(wk 3 0)⟩<;>omega
   refine AG (Az (h:=BN (h:=?_)));refine A4 rfl (fun hb8 hc8=>?_) (fun hb8 hc8=>?_)
   ·refine Av (Cb (h:=D6 (h:=?_)));refine⟨_,⟨_,_,_,_,_,?_,?_,?_,rfl⟩,(wk 3 0)⟩<;>omega
   refine BF (AM (?_));refine⟨_,⟨_,_,_,_,_,?_,?_,?_,rfl⟩,(wk 3 0)⟩<;>omega
  refine BF (AM (?_));refine⟨_,⟨_,_,_,_,_,?_,?_,?_,rfl⟩,(wk 3 0)⟩<;>omega
 rintro s ⟨b,li,ac,ca,key,hb,hca1,hca2,rfl⟩;refine Bv (h:=BY (h:=?_));refine A3 rfl (Aw 0 (hc:=Gw l _ _ (fun z=>decide (0≤z∧z≤3)) (by omega) (by rfl) (by rfl) (by rfl)) (hR:=?_));rintro r a8 ha8 ⟨k8,rfl,p8⟩;refine Ax ?_;obtain⟨hz1,hz2⟩:=of_decide_eq_true p8;obtain⟨m,rfl⟩:=Int.eq_ofNat_of_zero_le (show 0≤k8 by omega);refine B7 (h:=BH (?_));refine K5 2 3 115 5 rfl rfl (by repeat constructor) (by repeat constructor) (by repeat constructor) ?_;refine BR (fun n s=>∃(j b1:Nat) (ts:List Tst),j≤m∧n=j∧b1≤b+1+20 * (m - j)∧ts.length=m - j∧s=⟨look [(0, .bp 0 0),(2, .bp 1 0),(3, .bp 2 0),(4, .v (.int .i64 (j:Int)))],⟨[EG l b1,[.v (.int .i64 0), .v (.int .i64 0), .v (.int .u64 0), .v (.slice none 0 0), .v (.int .i64 0), .v (.string ⟨#[]⟩), .v (.int .i64 0), .v (.string ⟨#[]⟩)],[.v (.int .i64 li), .v (.int .i64 ac), .v (.int .u64 ca), .sl 5 (ts.map Cy) (some 0), .v (.int .i64 0), .v (.string ⟨#[]⟩), .v (.int .i64 0), .v (.string key)]],[(115,5,ts.map Cy)]⟩⟩) (m) ((wk 3 1)) (⟨m,_,[],by omega,rfl,by omega,by simp,rfl⟩) ?_;rintro n s ⟨j,b1,ts,hj,hn,hb1,hts,rfl⟩;subst n;refine Bv (h:=E6 (h:=e_ (?_)));refine A4 rfl (fun hb9 hc9=>?_) (fun hb9 hc9=>?_)
 ·refine AG (q_ (BH (BS ([(1,[.v (.int .i64 0), .v (.int .i64 0), .v (.int .u64 0), .v (.slice none 0 0), .v (.int .i64 0), .v (.string ⟨#[]⟩), .v (.int .i64 0), .v (.string ⟨#[]⟩)]),(2,[.v (.int .i64 li), .v (.int .i64 ac), .v (.int .u64 ca), .sl 5 (ts.map Cy) (some 0), .v (.int .i64 0), .v (.string ⟨#[]⟩), .v (.int .i64 0), .v (.string key)])]) 9 (h:=AD 0 (h:=AA 1 (h:=AF 2 (h:=AD 3 (h:=AA 4 (h:=?_)))))))));refine c_ 5 rfl (Aw 0 (hc:=qU l _ _ (by omega)) (hR:=?_));rintro r a9 ha9 ⟨T9,rfl⟩;refine Ax ?_;refine o_ (h:=Ho 6 (h:=?_))
  first|refine c_ 7 rfl (Dr rfl rfl rfl (by simp<;>omega) (by repeat constructor) ?_)|refine c_ 7 rfl (Ge rfl rfl (by simp<;>omega) (by repeat constructor) ?_)
  refine o_ (h:=AD 8 (h:=?_));refine Ak 9 (h:=z_ (h:=BB (t_ (Av (m_ (h:=L4 (h:=a_ (h:=C1 (AM (?_))))))))));obtain⟨j,rfl⟩:∃i,j=i+1:=⟨j - 1,by omega⟩;refine⟨_,_,?_,⟨j,_,ts++[T9],by omega,rfl,?_,?_,rfl⟩,(by rw[List.map_append];exact Ai 3 1 rfl rfl rfl rfl (by repeat (first|exact Sub.nil|refine Aj rfl rfl ?_|(apply Sub.of;(focus exact rfl);(focus exact LeA.of_eq (vi (by omega)));(focus exact rfl)))))⟩
  ·omega
  ·omega
  simp;omega
 refine CK (h:=?_);refine B9 (fun s=>∃(b2:Nat) (wa pe:Int) (pa:ByteArray),b2≤a+140∧pa.size≤60∧s=⟨look [(0, .bp 0 0),(2, .bp 1 0),(3, .bp 2 0)],⟨[EG l b2,[.v (.int .i64 0), .v (.int .i64 0), .v (.int .u64 0), .v (.slice none 0 0), .v (.int .i64 0), .v (.string ⟨#[]⟩), .v (.int .i64 0), .v (.string ⟨#[]⟩)],[.v (.int .i64 li), .v (.int .i64 ac), .v (.int .u64 ca), .sl 5 (ts.map Cy) (some 0), .v (.int .i64 wa), .v (.string pa), .v (.int .i64 pe), .v (.string key)]],[(115,5,ts.map Cy)]⟩⟩) ?_ ?_
 ·skip
  refine Az (h:=E1 (h:=?_));refine AJ true rfl rfl (fun hb10 hc10=>?_) (fun hb10 hc10=>?_)
  ·refine m_ (h:=?_);refine As (Aw 0 (hc:=Gn l _ (3) (by omega) (by omega)) (hR:=?_));rintro r a10 ha10 ⟨k10,rfl,p10,q10,o10⟩;refine Ax ?_;refine EH (h:=Bj (h:=e_ (?_)));refine A4 rfl (fun hb11 hc11=>?_) (fun hb11 hc11=>?_)
   ·refine Aa (h:=?_);refine A3 rfl (Aw 0 (hc:=E3 l _ (1) (2) (by omega) (by omega) (by omega) (by omega)) (hR:=?_));rintro r a11 ha11 ⟨k11,rfl,p11,q11⟩;refine Ax ?_;refine m_ (h:=?_);refine A3 rfl (Aw 0 (hc:=qH l _ (by omega)) (hR:=?_));rintro r a12 ha12 ⟨k12,rfl,p12⟩;refine Ax ?_;refine m_ (h:=?_);refine A3 rfl (Aw 0 (hc:=E3 l _ (1) (15) (by omega) (by omega) (by omega) (by omega)) (hR:=?_));rintro r a13 ha13 ⟨k13,rfl,p13,q13⟩;refine Ax ?_;refine Cb (h:=Cb (h:=D7 (h:=Aa (h:=?_))));refine A3 rfl (Aw 0 (hc:=Gn l _ (8) (by omega) (by omega)) (hR:=?_));rintro r a14 ha14 ⟨k14,rfl,p14,q14,o14⟩;refine Ax ?_;refine BN (h:=?_);refine A4 rfl (fun hb12 hc12=>?_) (fun hb12 hc12=>?_)
    ·refine Av (Cb (h:=D6 (h:=?_)));refine⟨_,⟨_,_,_,_,?_,?_,rfl⟩,(wk 3 1)⟩<;>first|omega|exact BX rfl
    refine BF (AM (?_));refine⟨_,⟨_,_,_,_,?_,?_,rfl⟩,(wk 3 1)⟩<;>first|omega|exact BX rfl
   refine BF (AM (?_));refine⟨_,⟨_,_,_,_,?_,?_,rfl⟩,(wk 3 1)⟩<;>first|omega|exact BX rfl
  refine DC (h:=e_ (JH (h:=BF (AM (?_)))));refine⟨_,⟨_,_,_,_,?_,?_,rfl⟩,(wk 3 1)⟩<;>first|omega|exact BX rfl
 rintro s ⟨b2,wa,pe,pa,hb2,hpa,rfl⟩;refine Bv (h:=?_);refine A3 rfl (Aw 0 (hc:=Gn l _ (24) (by omega) (by omega)) (hR:=?_));rintro r a15 ha15 ⟨k15,rfl,p15,q15,o15⟩;refine Ax ?_;refine BN (h:=?_);refine A4 rfl (fun hb13 hc13=>?_) (fun hb13 hc13=>?_)
 ·refine C5 (h:=?_);refine A3 rfl (Aw 0 (hc:=E3 l _ (-1) (16) (by omega) (by omega) (by omega) (by omega)) (hR:=?_));rintro r a16 ha16 ⟨k16,rfl,p16,q16⟩;refine Ax ?_;refine m_ (h:=?_);refine A3 rfl (Aw 0 (hc:=E3 l _ (0) (6) (by omega) (by omega) (by omega) (by omega)) (hR:=?_));rintro r a17 ha17 ⟨k17,rfl,p17,q17⟩;refine Ax ?_;refine m_ (h:=?_);refine A3 rfl (Aw 0 (hc:=E3 l _ (0) (3) (by omega) (by omega) (by omega) (by omega)) (hR:=?_));rintro r a18 ha18 ⟨k18,rfl,KS,q18⟩;refine Ax ?_;refine Cb (h:=Cb (h:=D7 (h:=Fs (h:=e_ (B8 (?_))))));refine AZ none (h5:=(A7 _)) (h6:=⟨_,rfl,rfl,_,?_,rfl,⟨_,_,_,ts,_,pa,_,_⟩,⟨hca1,hca2,Nat.le_trans hpa (by decide),by show ts.length≤1000;omega⟩,rfl⟩)<;>omega
 refine AG (Fs (h:=e_ (B8 (?_))));refine AZ none (h5:=(A7 _)) (h6:=⟨_,rfl,rfl,_,?_,rfl,⟨_,_,_,ts,_,pa,_,_⟩,⟨hca1,hca2,Nat.le_trans hpa (by decide),by show ts.length≤1000;omega⟩,rfl⟩)<;>omega
end
structure PolOk(s:Spc)(p:Pol)(n:Nat):Prop where
 lst:LstOk p.rules n
 wat:p.wats=H3 s p.rules
 ok:∀r∈p.rules,(D2 s r).2=0
theorem qY{s:Spc}{k:Int}{p:AE}(h:(Jv s k p).2=0):(Jv s k p).1.kind=k:=by
 unfold Jv at h ⊢;by_cases c1:(k≠1∧k≠2)∨Fb p.data.toList=false
 ·rw[if_pos c1]at h;cases h
 rw[if_neg c1]at h ⊢;by_cases c2:(Bb s (0,0) p (decide (k=2))).2≠0
 ·rw[if_pos c2]at h;exact absurd h c2
 rw[if_neg c2]at h ⊢;by_cases c3:k=2
 ·rw[if_pos c3]at h ⊢;by_cases c4:(Bb s (0,0) p true).1.ex=false
  ·rw[if_pos c4]at h;cases h
  rw[if_neg c4]at h ⊢;by_cases c5:AU s.files (Bb s (0,0) p true).1.file=false
  ·rw[if_pos c5]at h;cases h
  rw[if_neg c5]
 rw[if_neg c3]at h ⊢;by_cases c4:(Bb s (0,0) p false).1.name=⟨#[]⟩
 ·rw[if_pos c4]at h;cases h
 rw[if_neg c4]
theorem qZ{s:Spc}{r:Rul}(hv:SpcV s)(h:(D2 s r).2=0):GD s r (D2 s r).1=true:=by
 unfold GD;unfold D2 at h ⊢;by_cases c:r.watch=0
 ·simp[c]
 rw[if_neg c]at h ⊢;rw[if_neg c];by_cases c2:(Jv s r.watch r.path).2≠0
 ·rw[if_pos c2]at h;cases h
 rw[if_neg c2];have c3:(Jv s r.watch r.path).2=0:=by simpa using c2
 rw[oW hv c3,Bool.and_true,decide_eq_true_iff];exact qY c3
theorem PolOk.sound{s:Spc}{p:Pol}{n:Nat}(hv:SpcV s)(h:PolOk s p n):KP s p=true:=by
 refine Uo h.lst.chk (by rw[h.wat];simp[H3]) ?_;intro i r w hi hr hw;rw[h.wat]at hw;simp only[H3,List.getElem?_map,hr,Option.map_some,Option.some.injEq]at hw;rw[←hw];exact qZ hv (h.ok r (Ag hr))
theorem PolOk.nil(s:Spc)(n:Nat):PolOk s JT n:=⟨LstOk.nil n,rfl,by simp[JT]⟩
theorem PolOk.mono{s:Spc}{p:Pol}{n m:Nat}(h:PolOk s p n)(hm:n≤m):PolOk s p m:=⟨h.lst.mono hm,h.wat,h.ok⟩
theorem PolOk.len{s:Spc}{p:Pol}{n:Nat}(h:PolOk s p n):p.wats.length=p.rules.length:=by rw[h.wat];simp[H3]
theorem aA{l:List Rul}{r:Rul}{f:Bool}(h:(D1 l r f).2=0):(D1 l r f).1=if f=true then r::l else l++[r]:=by
 unfold D1 at h ⊢;by_cases c1:DP l≠0
 ·rw[if_pos c1]at h;exact absurd h c1
 rw[if_neg c1]at h ⊢;by_cases c2:BL r≠0
 ·rw[if_pos c2]at h;exact absurd h c2
 rw[if_neg c2]at h ⊢;by_cases c3:0≤JA l r
 ·rw[if_pos c3]at h;cases h
 rw[if_neg c3]at h ⊢;by_cases c4:24≤(l.length:Int)
 ·rw[if_pos c4]at h;cases h
 rw[if_neg c4]
theorem PolOk.add{s:Spc}{p:Pol}{n:Nat}{r:Rul}{f:Bool}(h:PolOk s p n)(hr:Em r)(he:(JB s p r f).2=0):PolOk s (JB s p r f).1 (n+1):=by
 unfold JB at he ⊢;by_cases c1:(D1 p.rules r f).2≠0
 ·rw[if_pos c1]at he;exact absurd he c1
 rw[if_neg c1]at he ⊢;by_cases c2:(D2 s r).2≠0
 ·rw[if_pos c2]at he;exact absurd he c2
 rw[if_neg c2];have d1:(D1 p.rules r f).2=0:=by simpa using c1
 have d2:(D2 s r).2=0:=by simpa using c2
 refine⟨h.lst.add hr d1,?_,?_⟩
 ·simp only[aA d1,h.wat];cases f<;>simp[H3]
 intro x hx;simp only[aA d1]at hx
 have:x=r∨x∈p.rules:=by
  cases f
  ·exact(by simpa using hx:x∈p.rules∨x=r).symm
  simpa using hx
 rcases this with rfl|hx
 ·exact d2
 exact h.ok x hx
section
theorem aB(l:List Int)(a:Nat)(ha:a≤1000000000):Hl prog 56 l a [] 1600 (fun r=>∃x:Rul,Em x∧BL x=0∧r= .agg (AP x)):=by
 refine enter Tryz.func56 rfl rfl rfl rfl rfl 1 rfl ?_;refine w_ (DT (h:=CW (h:=?_)));refine BR (fun n s=>∃(j b:Nat),j≤8∧n=8 - j∧b≤a+200 * j∧s=⟨look [(0, .bp 0 0),(2, .bp 1 0),(3, .v (.int .i64 (j:Int)))],⟨[EG l b,[.v (.int .i64 0), .v (.int .i64 0), .v (.int .u64 0), .v (.slice none 0 0), .v (.int .i64 0), .v (.string ⟨#[]⟩), .v (.int .i64 0), .v (.string ⟨#[]⟩)]],[]⟩⟩) (8) ((wk 2 0)) (⟨0,a,by omega,rfl,by omega,rfl⟩) ?_;rintro n s ⟨j,b,hj,rfl,hb,rfl⟩;refine Bv (h:=Cj (h:=?_));refine A4 rfl (fun hb1 hc1=>?_) (fun hb1 hc1=>?_)
 ·refine C2 (h:=Aa (h:=?_));refine A3 rfl (Aw 0 (hc:=qX l _ (by omega)) (hR:=?_));rintro r a1 ha1 ⟨x,hx,rfl⟩;refine Ax ?_;refine Dk (h:=CF (h:=?_));refine A3 rfl (A8 (S3 x hx) ?_);rintro r rfl;refine BN (h:=?_);refine A4 rfl (fun hb2 hc2=>?_) (fun hb2 hc2=>?_)
  ·refine Fs (h:=e_ (B8 (Cv (h:=EB (h:=?_)))));refine AZ none (h5:=(A7 _)) (h6:=⟨_,rfl,rfl,_,?_,rfl,x,hx,hc2,rfl⟩)<;>omega
  refine DL (h:=?_);refine⟨_,_,?_,⟨j+1,_,by omega,rfl,?_,rfl⟩,(wk 2 0)⟩<;>omega
 refine CK (h:=w_ (E0 (h:=e_ (B8 (?_)))));refine AZ (r:= .agg (AP Q3)) none (h5:=(by repeat (first|exact A7 _|exact LeA.nil _|exact LeL.refl _|refine LeA.agg ?_|refine LeA.tup ?_|exact LeL.nil|refine LeL.cons ?_ ?_|exact LeA.any _))) (h6:=⟨_,rfl,rfl,b,by omega,rfl,Q3,qV,qW,rfl⟩)
end
theorem r8:LeL [.v (.slice none 0 0), .v (.slice none 0 0)] (Bi JT):=by
 show LeL _ [.sl 8 [] none, .sl 6 [] none];exact LeL.cons (LeA.nil _) (LeL.cons (LeA.nil _) LeL.nil)
section
theorem r9(l:List Int)(a m:Nat)(s:Spc)(ha:a≤100000000)(hm:m≤20)(hv:SpcV s)(hmm:s.mounts.length≤1000):Hl prog 20 l a [.agg (AT s), .v (.int .i64 (m:Int))] 50000 (fun r=>∃p:Pol,PolOk s p 20∧r= .agg (Bi p)):=by
 refine enter Tryz.func20 rfl rfl rfl rfl rfl 1 rfl ?_;refine C6 (h:=DT (h:=w_ (DT (h:=Du (h:=ES (h:=?_))))));refine A3 rfl (Aw 0 (hc:=Gn l _ ((m:Int)+1) (by omega) (by omega)) (hR:=?_));rintro r a1 ha1 ⟨k1,rfl,p1,q1,o1⟩;refine Ax ?_;obtain⟨m0,rfl⟩:=Int.eq_ofNat_of_zero_le p1;have hm0:m0≤20:=by omega
 refine B7 (h:=BH (?_));refine BR (fun n S=>∃(j b:Nat) (p:Pol),j≤m0∧n=j∧b≤a+1+1700 * (m0 - j)∧PolOk s p (m0 - j)∧S=⟨look [(0, .bp 0 0),(4, .bp 1 0),(6, .bp 2 0),(7, .bp 3 0),(8, .v (.int .i64 (j:Int)))],⟨[EG l b,AT s,[.v (.slice none 0 0), .v (.slice none 0 0)],Bi p],[]⟩⟩) (m0) (Weak.trans (ZG 3 rfl r8) ((wk 4 0))) (⟨m0,_,JT,by omega,rfl,by omega,PolOk.nil _ _,rfl⟩) ?_;rintro n S ⟨j,b,p,hj,hn,hb,hp,rfl⟩;subst n;refine Bv (h:=E6 (h:=e_ (?_)));refine A4 rfl (fun hb1 hc1=>?_) (fun hb1 hc1=>?_)
 ·refine C2 (h:=?_);refine B9 (fun S=>∃(b1:Nat) (x:Rul) (f:Bool),b1≤a+1+1700 * (m0 - j)+1610∧Em x∧S=⟨look [(0, .bp 0 0),(4, .bp 1 0),(6, .bp 2 0),(7, .bp 3 0),(8, .v (.int .i64 (j:Int))),(9, .bp 4 0),(10, .v (.int .i64 (JB s p x f).2))],⟨[EG l b1,AT s,[.v (.slice none 0 0), .v (.slice none 0 0)],Bi p,Bi (JB s p x f).1],[]⟩⟩) ?_ ?_
  ·skip
   refine BS ([(1,AT s),(2,[.v (.slice none 0 0), .v (.slice none 0 0)]),(3,Bi p)]) 14 (h:=?_)
   first|refine AA 0 (h:=?_)|refine CC 0 rfl (fun _ hS=>Mp (row:=Bi p) rfl (kb hS rfl) (BX rfl) rfl ⟨rfl,rfl⟩) ?_|refine CC 0 rfl (fun _ hS=>Mp (row:=AT s) rfl (kb hS rfl) (BX rfl) rfl ⟨rfl,rfl⟩) ?_
   first|refine AA 1 (h:=?_)|refine CC 1 rfl (fun _ hS=>Mp (row:=Bi p) rfl (kb hS rfl) (BX rfl) rfl ⟨rfl,rfl⟩) ?_|refine CC 1 rfl (fun _ hS=>Mp (row:=AT s) rfl (kb hS rfl) (BX rfl) rfl ⟨rfl,rfl⟩) ?_
   refine AF 2 (h:=AF 4 (h:=?_));refine DS 3 11 rfl rfl ?_ ?_
   ·refine Aw 0 (hc:=aB l _ (by omega)) (hR:=?_);rintro r a2 ha2 ⟨x,hx,hg,rfl⟩;refine Ax ?_;refine o_ (h:=?_);refine DS 5 11 rfl rfl ?_ ?_
    ·refine Aw 0 (hc:=Gn l _ (4) (by omega) (by omega)) (hR:=?_);rintro r a3 ha3 ⟨k3,rfl,p3,q3,o3⟩;refine Ax ?_;refine o_ (h:=?_);refine K7 6 (h:=?_);refine DS 7 11 rfl rfl ?_ ?_
     ·refine A8 (S4 s p x hv hmm (by have:=hp.lst.len;omega) hp.len hp.lst.ins hx _) ?_;rintro r rfl;refine o_ (h:=?_);refine AF 8 (h:=Ay 9 (h:=Ay 10 (h:=?_)));refine c_ 11 rfl (BV (by repeat constructor) ?_);refine o_ (h:=?_);refine Ak 12 (h:=BE 13 (h:=z_ (h:=?_)));refine AM ?_;exact⟨_,⟨_,x,_,(by omega),hx,rfl⟩,Ai 5 0 rfl rfl rfl rfl ((by repeat (first|exact Sub.nil|refine Aj rfl rfl ?_|refine Ap ?_|refine Aq rfl ?_|refine Ar rfl ?_)))⟩
     refine BV (by repeat constructor) ?_;refine o_ (h:=?_);refine c_ 7 rfl (A8 (S4 s p x hv hmm (by have:=hp.lst.len;omega) hp.len hp.lst.ins hx _) ?_);rintro r rfl;refine o_ (h:=AF 8 (h:=Ay 9 (h:=Ay 10 (h:=?_))));refine Ak 12 (h:=BE 13 (h:=z_ (h:=?_)));refine AM ?_;exact⟨_,⟨_,x,_,(by omega),hx,rfl⟩,Ai 5 0 rfl rfl rfl rfl ((by repeat (first|exact Sub.nil|refine Aj rfl rfl ?_|refine Ap ?_|refine Aq rfl ?_|refine Ar rfl ?_)))⟩
    refine BV (by repeat constructor) ?_;refine o_ (h:=?_);refine c_ 5 rfl (Aw 0 (hc:=Gn l _ (4) (by omega) (by omega)) (hR:=?_));rintro r a4 ha4 ⟨k4,rfl,p4,q4,o4⟩;refine Ax ?_;refine o_ (h:=K7 6 (h:=?_));refine c_ 7 rfl (A8 (S4 s p x hv hmm (by have:=hp.lst.len;omega) hp.len hp.lst.ins hx _) ?_);rintro r rfl;refine o_ (h:=AF 8 (h:=Ay 9 (h:=Ay 10 (h:=?_))));refine Ak 12 (h:=BE 13 (h:=z_ (h:=?_)));refine AM ?_;exact⟨_,⟨_,x,_,(by omega),hx,rfl⟩,Ai 5 0 rfl rfl rfl rfl ((by repeat (first|exact Sub.nil|refine Aj rfl rfl ?_|refine Ap ?_|refine Aq rfl ?_|refine Ar rfl ?_)))⟩
   refine BV (by repeat constructor) ?_;refine o_ (h:=?_);refine c_ 3 rfl (Aw 0 (hc:=aB l _ (by omega)) (hR:=?_));rintro r a5 ha5 ⟨x,hx,hg,rfl⟩;refine Ax ?_;refine o_ (h:=?_);refine c_ 5 rfl (Aw 0 (hc:=Gn l _ (4) (by omega) (by omega)) (hR:=?_));rintro r a6 ha6 ⟨k6,rfl,p6,q6,o6⟩;refine Ax ?_;refine o_ (h:=K7 6 (h:=?_));refine c_ 7 rfl (A8 (S4 s p x hv hmm (by have:=hp.lst.len;omega) hp.len hp.lst.ins hx _) ?_);rintro r rfl;refine o_ (h:=AF 8 (h:=Ay 9 (h:=Ay 10 (h:=?_))));refine Ak 12 (h:=BE 13 (h:=z_ (h:=?_)));refine AM ?_;exact⟨_,⟨_,x,_,(by omega),hx,rfl⟩,Ai 5 0 rfl rfl rfl rfl ((by repeat (first|exact Sub.nil|refine Aj rfl rfl ?_|refine Ap ?_|refine Aq rfl ?_|refine Ar rfl ?_)))⟩
  rintro S ⟨b1,x,f,hb1,hx,rfl⟩;refine Aa (h:=BN (h:=?_));refine A4 rfl (fun hb2 hc2=>?_) (fun hb2 hc2=>?_)
  ·have hp2:=hp.add (f:=f) hx (by simpa using hc2);refine Av (l_ (h:=s_ (h:=C1 (BB (t_ (C5 (h:=L4 (h:=Ck (h:=?_)))))))));obtain⟨j,rfl⟩:∃i,j=i+1:=⟨j - 1,by omega⟩;refine⟨_,_,?_,⟨j,_,_,by omega,rfl,?_,hp2.mono (by omega),rfl⟩,Ai 4 0 rfl rfl rfl rfl (by repeat (first|exact Sub.nil|refine Aj rfl rfl ?_|(apply Sub.of;(focus exact rfl);(focus exact LeA.of_eq (vi (by omega)));(focus exact rfl))))⟩<;>omega
  have hp2:=hp.mono (Nat.le_succ _);refine BF (BB (t_ (C5 (h:=L4 (h:=Ck (h:=?_))))));obtain⟨j,rfl⟩:∃i,j=i+1:=⟨j - 1,by omega⟩;refine⟨_,_,?_,⟨j,_,_,by omega,rfl,?_,hp2.mono (by omega),rfl⟩,Ai 4 0 rfl rfl rfl rfl (by repeat (first|exact Sub.nil|refine Aj rfl rfl ?_|(apply Sub.of;(focus exact rfl);(focus exact LeA.of_eq (vi (by omega)));(focus exact rfl))))⟩<;>omega
 refine CK (h:=Fs (h:=e_ (B8 (?_))));refine AZ none (h5:=(A7 _)) (h6:=⟨_,rfl,rfl,b,by omega,rfl,p,hp.mono (by omega),rfl⟩)
end
structure Vdt where
 sel:Bool
 rule:Int
 key:AE
deriving DecidableEq
def Oq(v:Vdt):List AV:=[.v (.bool v.sel), .v (.int .i64 v.rule), .v (.string v.key)]
def Q4:Vdt:=⟨false, -1,⟨#[]⟩⟩
def MF(l:List Rul)(i:Int):Vdt:=if i<0 then Q4 else match l[i.toNat]? with|some r=>⟨decide (r.action=1),i,r.key⟩|none=>Q4
theorem rA{l:List Rul}{i:Nat}{r:Rul}(h:l[i]?=some r):MF l (i:Int)=⟨decide (r.action=1),(i:Int),r.key⟩:=by
 rw[MF,if_neg (by omega),Int.toNat_natCast,h]
theorem aC{l:List Rul}{i:Int}(h:i<0):MF l i=Q4:=by rw[MF,if_pos h]
def aD(l:List Rul)(i:Int):Prop:=i<0∨∃(k:Nat) (r:Rul),i=(k:Int)∧l[k]?=some r
theorem aE{α:Type}{p:Nat→α→Bool}:∀{l:List α} {i:Nat},EC p l i<0∨∃(k:Nat) (r:α),EC p l i=((i+k:Nat):Int)∧l[k]?=some r
 |[],_=> .inl (by simp[EC])
 |x::xs,i=>by
   rw[EC];split
   ·exact .inr ⟨0,x,rfl,rfl⟩
   rcases aE (p:=p) (l:=xs) (i:=i+1)with h|⟨k,r,h1,h2⟩
   ·exact .inl h
   exact .inr ⟨k+1,r,by rw[h1];congr 1;omega,by simpa using h2⟩
theorem aF(p:Nat→Rul→Bool)(l:List Rul):aD l (EC p l 0):=by
 rcases aE (p:=p) (l:=l) (i:=0)with h|⟨k,r,h1,h2⟩
 ·exact .inl h
 exact .inr ⟨k,r,by rw[h1,Nat.zero_add],h2⟩
def aG(c:Ctx):Ctx:={c with phase:=1,ext:=0,items:=[]}
def S6(p:Pol)(c:Ctx):Int:=EC (Ml 2 [] (aG c)) p.rules 0
section
theorem rB(p:Pol)(i:Int)(hi:i<0):AFn prog 67 [.agg (Bi p), .v (.int .i64 i)] (fun r=>r= .agg (Oq Q4)):=by
 refine enter Tryz.func67 rfl rfl rfl rfl rfl 0 rfl ?_;refine C6 (h:=DT (h:=Bv (h:=Cj (h:=?_))));refine A4 rfl (fun hb1 hc1=>?_) (fun hb1 hc1=>?_)
 ·refine w_ (E0 (h:=e_ (B8 (Bu (?_)))));refine A6 ?_;rfl
 exact E7
theorem rC(p:Pol)(k:Nat)(r:Rul)(hr:p.rules[k]?=some r)(h1:p.rules.length≤1000):AFn prog 67 [.agg (Bi p), .v (.int .i64 (k:Int))] (fun x=>x= .agg (Oq ⟨decide (r.action=1),(k:Int),r.key⟩)):=by
 have hrow:(p.rules.map AP)[k]?=some (AP r):=by rw[List.getElem?_map,hr];rfl
 have hlt:k<p.rules.length:=(Af.1 hr).1;refine enter Tryz.func67 rfl rfl rfl rfl rfl 0 rfl ?_;refine C6 (h:=DT (h:=Bv (h:=Cj (h:=?_))));refine A4 rfl (fun hb1 hc1=>?_) (fun hb1 hc1=>?_)
 ·exact E7
 refine AG (Fu (h:=Hu (h:=Az (h:=E1 (h:=Ab (h:=E0 (h:=e_ (B8 (?_)))))))));refine A6 ?_;rfl
theorem Uq(p:Pol)(i:Int)(hi:aD p.rules i)(h1:p.rules.length≤1000):AFn prog 67 [.agg (Bi p), .v (.int .i64 i)] (fun r=>r= .agg (Oq (MF p.rules i))):=by
 rcases hi with hi|⟨k,r,rfl,hr⟩
 ·rw[aC hi];exact rB p i hi
 rw[rA hr];exact rC p k r hr h1
variable (p:Pol)(c:Ctx)(k:Cxs)(h1:p.rules.length≤1000)(ht:∀r∈p.rules,r.tests.length≤1000)
include h1 ht
theorem rD:AFn prog 22 [.agg (Bi p), .agg (Fm c k)] (fun r=>r= .tup [.agg (Oq (MF p.rules (S6 p c))), .v (.bool (decide (0≤S6 p c)))]):=by
 refine enter Tryz.func22 rfl rfl rfl rfl rfl 0 rfl ?_;refine Jb (h:=w_ (Cb (h:=Cb (h:=D7 (h:=Az (h:=l_ (h:=?_)))))));refine A3 rfl (A8 (Wg p.rules 2 [] (aG c) k h1 (BK _) ht) ?_);rintro r rfl;refine B7 (h:=FF (h:=?_));refine A3 rfl (A8 (Uq p _ (aF _ _) h1) ?_);rintro r rfl;refine m_ (h:=EJ (h:=s_ (h:=BJ (h:=?_))));refine A6 ?_;rfl
end
theorem aH{s:Spc}{a b:A9}(h:AU s.files b=false):decide (a∈BZ s (Bo s.files) b)=false:=by
 have e:BZ s (Bo s.files) b=[]:=by
  cases Bo s.files with
  |zero=>rfl
  |succ k=>unfold BZ;rw[h];rfl
 rw[e];rfl
section
variable {ev:Operand→Option AV}{h:AH}{R:AV→AH→Prop}{d:Option Tmp}{ty:TypeId}{pos:String}{af:Array Edge}{gd:Option (Nat×Bool)}
theorem rE{x ix:Operand}{a b:A9}(j:Nat)(hx:ev x=some (.agg [.v (.int .i64 a.1), .v (.int .i64 a.2), .v (.int .i64 b.1), .v (.int .i64 b.2)]))(hi:ev ix=some (.v (.int .i64 (j:Int))))(hj:j<2)(hR:R (.agg (AB (if j=0 then a else b))) h):AStep prog ⟨d, .index 176 x ix,ty,pos,af,gd⟩ ev h R:=by
 refine DR (fun _ G w ec _ he=>?_) hR;have h1:=he x (by simp[Op.operands]) _ hx;have h2:=he ix (by simp[Op.operands]) _ hi;simp only[rep]at h1 h2;obtain⟨ys,h3,h4⟩:=h1;simp only[AO,rep]at h4;obtain⟨v1,q1,rfl,rfl,v2,q2,rfl,rfl,v3,q3,rfl,rfl,v4,q4,rfl,rfl,rfl⟩:=h4;have u1:=Tryz.underlying176;have u2:=Tryz.isAgg26;have u3:=Tryz.sizeOf26
 match j,hj with
 |0,_=>
   refine⟨.agg #[.int .i64 a.1, .int .i64 a.2],?_,by simp[rep,AO,AB]⟩;simp[execOp,h2,h3,Instr.index,asIntOf,part]
 |1,_=>
   refine⟨.agg #[.int .i64 b.1, .int .i64 b.2],?_,by simp[rep,AO,AB]⟩;simp[execOp,h2,h3,Instr.index,asIntOf,part]
end
theorem Jy{s:Spc}{w:Wch}{d f:A9}{n:AE}(hk:w.kind=1):El s w d n f=((!decide (w.file=(0,0))&&decide (w.file=f))||(!decide (n=⟨#[]⟩)&&decide (d=w.dir)&&decide (n=w.name))):=by
 unfold El;rw[if_pos hk];have e1:decide (w.file≠(0,0))= !decide (w.file=(0,0)):=by simp
 have e2:decide (n≠⟨#[]⟩)= !decide (n=⟨#[]⟩):=by simp
 have e3:decide (f=w.file)=decide (w.file=f):=decide_eq_decide.2 ⟨Eq.symm,Eq.symm⟩;rw[e1,e2,e3]
section
theorem rF(s:Spc)(w:Wch)(y:Itm)(hs:SpcB s):AFn prog 73 [.agg (AT s), .agg (Bd w), .agg (Cf y)] (fun r=>r= .v (.bool (El s w y.dir y.name y.file))):=by
 refine enter Tryz.func73 rfl rfl rfl rfl rfl 0 rfl ?_;refine Dh (h:=b_ (h:=B7 (h:=Ci (h:=e_ (BH (B1 (h:=?_)))))));refine A4 rfl (fun hb1 hc1=>?_) (fun hb1 hc1=>?_)
 ·refine q_ (?_);refine B9 (fun S=>S=⟨look [(3, .bp 0 0),(4, .bp 1 0),(5, .bp 2 0),(23, .v (.bool (!decide (w.file=(0,0))&&decide (w.file=y.file))))],⟨[AT s,Bd w,Cf y],[]⟩⟩) ?_ ?_
  ·skip
   refine Av (Ab (h:=Bq (h:=?_)));refine A3 rfl (JE rfl rfl (by repeat constructor) (by repeat constructor) (fun W=>oX w.file (0,0) W) (by kernel_rfl) ?_);refine m_ (h:=?_);refine AJ true rfl rfl (fun hb2 hc2=>?_) (fun hb2 hc2=>?_)
   ·refine JO (h:=?_);refine As (JE rfl rfl (by repeat constructor) (by repeat constructor) (fun W=>Ry w.file y.file W) (by kernel_rfl) ?_);refine Je (h:=?_);exact⟨_,rfl,CA 3 0 rfl⟩
   refine BD (h:=DC (h:=D6 (h:=?_)));exact⟨_,rfl,CA 3 0 rfl⟩
  rintro S rfl;refine A4 rfl (fun hb3 hc3=>?_) (fun hb3 hc3=>?_)
  ·refine BA (h:=Cv (h:=?_));refine A6 ?_
   first|(exfalso;first|contradiction|omega)|(exact vb (by first|(rw[Jy hc1,hc3];simp[*];done)|(rw[Jy hc1,hc3];rfl)|(have hj3:j=0∨j=1:=(by omega);rcases hj3 with rfl|rfl<;>simp_all [El];done)|(simp[El,hj1 (by omega),hj2 (by omega), *];done)|(simp[El, *];done)))
  refine AG (Az (h:=FW (h:=?_)));refine AJ true rfl rfl (fun hb4 hc4=>?_) (fun hb4 hc4=>?_)
  ·refine JO (h:=?_);refine As (JE rfl rfl (by repeat constructor) (by repeat constructor) (fun W=>Ry y.dir w.dir W) (by kernel_rfl) ?_);refine C7 (h:=?_);refine AJ true rfl rfl (fun hb5 hc5=>?_) (fun hb5 hc5=>?_)
   ·refine Ab (h:=Cx (h:=Bj (h:=BC (h:=?_))));refine A6 ?_
    first|(exfalso;first|contradiction|omega)|(exact vb (by first|(rw[Jy hc1,hc3];simp[*];done)|(rw[Jy hc1,hc3];rfl)|(have hj3:j=0∨j=1:=(by omega);rcases hj3 with rfl|rfl<;>simp_all [El];done)|(simp[El,hj1 (by omega),hj2 (by omega), *];done)|(simp[El, *];done)))
   refine BD (h:=DC (h:=BC (h:=?_)));refine A6 ?_
   first|(exfalso;first|contradiction|omega)|(exact vb (by first|(rw[Jy hc1,hc3];simp[*];done)|(rw[Jy hc1,hc3];rfl)|(have hj3:j=0∨j=1:=(by omega);rcases hj3 with rfl|rfl<;>simp_all [El];done)|(simp[El,hj1 (by omega),hj2 (by omega), *];done)|(simp[El, *];done)))
  refine GO (h:=BD (h:=DC (h:=BC (h:=?_))));refine A6 ?_
  first|(exfalso;first|contradiction|omega)|(exact vb (by first|(rw[Jy hc1,hc3];simp[*];done)|(rw[Jy hc1,hc3];rfl)|(have hj3:j=0∨j=1:=(by omega);rcases hj3 with rfl|rfl<;>simp_all [El];done)|(simp[El,hj1 (by omega),hj2 (by omega), *];done)|(simp[El, *];done)))
 refine B1 (h:=?_);refine A4 rfl (fun hb6 hc6=>?_) (fun hb6 hc6=>?_)
 ·refine Hs (h:=Sz (h:=e_ (BH (?_))));refine BR (fun m S=>∃j:Nat,j≤2∧m=2 - j∧(0<j→Q1 s w.file y.dir=false)∧(1<j→Q1 s w.file y.file=false)∧S=⟨look [(3, .bp 0 0),(4, .bp 1 0),(5, .bp 2 0),(47, .agg [.v (.int .i64 y.dir.1), .v (.int .i64 y.dir.2), .v (.int .i64 y.file.1), .v (.int .i64 y.file.2)]),(48, .v (.int .i64 (j:Int)))],⟨[AT s,Bd w,Cf y],[]⟩⟩) (2) ((wk 3 0)) (⟨0,by omega,rfl,fun q=>by omega,fun q=>by omega,rfl⟩) ?_;rintro m S ⟨j,hj,rfl,hj1,hj2,rfl⟩;refine w_ (Cj (h:=q_ (?_)));refine A4 rfl (fun hb7 hc7=>?_) (fun hb7 hc7=>?_)
  ·refine C2 (h:=?_);refine B9 (fun S=>∃z,z=(if j=0 then y.dir else y.file)∧S=⟨look [(3, .bp 0 0),(4, .bp 1 0),(5, .bp 2 0),(8, .bp 3 0),(47, .agg [.v (.int .i64 y.dir.1), .v (.int .i64 y.dir.2), .v (.int .i64 y.file.1), .v (.int .i64 y.file.2)]),(48, .v (.int .i64 (j:Int)))],⟨[AT s,Bd w,Cf y,AB z],[]⟩⟩) ?_ ?_
   ·skip
    refine Av (?_);refine A3 rfl (rE j rfl rfl (by omega) ?_);refine NH (h:=D6 (h:=?_));exact⟨_,⟨_,rfl,rfl⟩,Ai 4 0 rfl rfl rfl rfl ((by repeat (first|exact Sub.nil|refine Aj rfl rfl ?_|refine Ap ?_|refine Aq rfl ?_|refine Ar rfl ?_)))⟩
   rintro S ⟨z,hz,rfl⟩;refine B9 (fun S=>S=⟨look [(3, .bp 0 0),(4, .bp 1 0),(5, .bp 2 0),(47, .agg [.v (.int .i64 y.dir.1), .v (.int .i64 y.dir.2), .v (.int .i64 y.file.1), .v (.int .i64 y.file.2)]),(48, .v (.int .i64 (j:Int))),(60, .v (.bool (Q1 s w.file z)))],⟨[AT s,Bd w,Cf y],[]⟩⟩) ?_ ?_
   ·skip
    refine Av (GL (h:=?_));refine A3 rfl (A8 (Za s z hs) ?_);rintro r rfl;refine m_ (h:=?_);refine AJ true rfl rfl (fun hb8 hc8=>?_) (fun hb8 hc8=>?_)
    ·refine l_ (h:=Ab (h:=l_ (h:=?_)));refine As (A8 (kK s hs w.file z) ?_);rintro r rfl;refine Je (h:=?_);refine⟨_,rfl,Ai 3 0 rfl rfl rfl rfl (by repeat (first|exact Sub.nil|refine Aj rfl rfl ?_|(apply Sub.of;(focus exact rfl);(focus exact LeA.of_eq (vb (by first|rfl|exact(aH ‹_›).symm)));(focus exact rfl))))⟩
    refine BD (h:=DC (h:=D6 (h:=?_)));refine⟨_,rfl,Ai 3 0 rfl rfl rfl rfl (by repeat (first|exact Sub.nil|refine Aj rfl rfl ?_|(apply Sub.of;(focus exact rfl);(focus exact LeA.of_eq (vb (by first|rfl|exact(aH ‹_›).symm)));(focus exact rfl))))⟩
   rintro S rfl;refine A4 rfl (fun hb9 hc9=>?_) (fun hb9 hc9=>?_)
   ·refine Bl (h:=Bu (K2 (Cv (h:=?_))));refine A6 ?_
    first|(exfalso;first|contradiction|omega)|(exact vb (by first|(rw[Jy hc1,hc3];simp[*];done)|(rw[Jy hc1,hc3];rfl)|(have hj3:j=0∨j=1:=(by omega);rcases hj3 with rfl|rfl<;>simp_all [El];done)|(simp[El,hj1 (by omega),hj2 (by omega), *];done)|(simp[El, *];done)))
   refine BF (BB (t_ (Av (Gp (h:=?_)))));have hj3:j=0∨j=1:=by omega
   refine⟨_,_,?_,⟨j+1,by omega,rfl,?_,?_,rfl⟩,Ai 3 0 rfl rfl rfl rfl ((by repeat (first|exact Sub.nil|refine Aj rfl rfl ?_|refine Ap ?_|refine Aq rfl ?_|refine Ar rfl ?_)))⟩
   ·omega
   ·intro _;rcases hj3 with rfl|rfl
    ·rw[if_pos rfl]at hz;rw[←hz];assumption
    exact hj1 (by omega)
   intro q;rcases hj3 with rfl|rfl
   ·omega
   rw[if_neg (by omega)]at hz;rw[←hz];assumption
  refine L6 (h:=T3 (h:=?_));refine A6 ?_
  first|(exfalso;first|contradiction|omega)|(exact vb (by first|(rw[Jy hc1,hc3];simp[*];done)|(rw[Jy hc1,hc3];rfl)|(have hj3:j=0∨j=1:=(by omega);rcases hj3 with rfl|rfl<;>simp_all [El];done)|(simp[El,hj1 (by omega),hj2 (by omega), *];done)|(simp[El, *];done)))
 refine Er (h:=?_);refine A6 ?_
 first|(exfalso;first|contradiction|omega)|(exact vb (by first|(rw[Jy hc1,hc3];simp[*];done)|(rw[Jy hc1,hc3];rfl)|(have hj3:j=0∨j=1:=(by omega);rcases hj3 with rfl|rfl<;>simp_all [El];done)|(simp[El,hj1 (by omega),hj2 (by omega), *];done)|(simp[El, *];done)))
end
def qF(s:Spc)(r:Rul)(w:Wch)(x:Itm):Bool:=decide (Gf .i64 x.perm r.perm≠0)&&El s w x.dir x.name x.file
def Q5(s:Spc)(r:Rul)(w:Wch)(items:List Itm):Bool:=decide (r.watch≠0)&&items.any (qF s r w)
def KR(s:Spc)(p:Pol)(items:List Itm):List Bool:=List.zipWith (fun r w=>Q5 s r w items) p.rules p.wats
theorem rG{s:Spc}{p:Pol}{items:List Itm}{j:Nat}{r:Rul}{w:Wch}(hr:p.rules[j]?=some r)(hw:p.wats[j]?=some w):(KR s p items)[j]?=some (Q5 s r w items):=by
 simp[KR,List.getElem?_zipWith,hr,hw]
theorem rH{s:Spc}{p:Pol}{items:List Itm}(h:p.wats.length=p.rules.length):(KR s p items).length=p.rules.length:=by simp[KR,h]
theorem aJ{α:Type}(q:α→Bool):∀(l:List α) (i:Nat),decide (0≤EC (fun _ x=>q x) l i)=l.any q
 |[],_=>rfl
 |x::xs,i=>by
   rw[EC,List.any_cons];split
   ·rename_i h;rw[h];simp
   rename_i h;rw[aJ q xs (i+1)];simp[h]
def S7(b:Bool):AV:= .v (.bool b)
def HB(L:List Bool)(j:Nat):List AV:=(L.take j++List.replicate (L.length - j) false).map S7
theorem rJ(L:List Bool){j:Nat}(h:j≤L.length):(HB L j).length=L.length:=by simp[HB];omega
theorem rK(L:List Bool):HB L 0=List.replicate L.length (.v (.bool false)):=by simp[HB,S7]
theorem rL{L:List Bool}{j:Nat}{b:Bool}(h:L[j]?=some b):(HB L j).set j (.v (.bool b))=HB L (j+1):=by
 obtain⟨hj,e⟩:=Af.1 h;unfold HB;rw[show(AV.v (.bool b))=S7 b from rfl,←List.map_set,List.take_succ_eq_append_getElem hj,e,show L.length - j=(L.length - (j+1))+1 by omega,List.replicate_succ]
 congr 1
 rw[List.set_append_right _ _ (by simp;omega)];simp[show min j L.length=j by omega]
theorem aK{L:List Bool}{j:Nat}(h:L[j]?=some false):HB L j=HB L (j+1):=by
 obtain⟨hj,e⟩:=Af.1 h;unfold HB;rw[List.take_succ_eq_append_getElem hj,e,show L.length - j=(L.length - (j+1))+1 by omega,List.replicate_succ,List.append_assoc];rfl
theorem aL{G:Gh}{w:World}{u:Value}:∀n:Nat,AO G w (List.replicate n (.v u)) (List.replicate n u)
 |0=>by simp[AO]
 |n+1=>by
   simp only[List.replicate_succ,AO,rep];exact⟨_,_,rfl,rfl,aL n⟩
section
variable {P:Program}{ev:Operand→Option AV}{h:AH}{R:AV→AH→Prop}{d:Option Tmp}{ty:TypeId}{pos:String}{af:Array Edge}{gd:Option (Nat×Bool)}
theorem rM{T:TypeId}{x y:Operand}{E bytes m k:Nat}{i j:Int}{u:Value}{bx':List (List AV)}[hE:Elm P T E 1 bytes][hzr:Zer P E [.v u]](hx:ev x=some (.v (.int .i64 i)))(hy:ev y=some (.v (.int .i64 j)))(hi:i=(m:Int))(hj:j=(m:Int))(hm0:0<m)(hm:m≤1000000)
    (hset:SnocAt h.bx (List.replicate m (.v u)) k bx') (hR:R (.bs k 0 1 m m) ⟨bx',h.tk⟩):AStep P ⟨d, .makeSlice T x y,ty,pos,af,gd⟩ ev h R:=by
 intro E' G w ec hr he;have k1:=he x (by simp[Op.operands]) _ hx;have k2:=he y (by simp[Op.operands]) _ hy;simp only[rep]at k1 k2;subst hi hj;obtain⟨hu,inf,z,hinf,hz,hzs,hs,hby,hp⟩:=H6 hE.eq;have hw:IntKind.i64.wrap (m:Int)=m:=IntWalk.i64_in _ (by omega)
 have hbig:¬(inf.bytes:Int) * (m:Int)>2 ^ 48:=by
  have h1:inf.bytes * m≤100000 * 1000000:=Nat.mul_le_mul (by rw[hby];exact hE.few) (by omega);have h2:((inf.bytes * m:Nat):Int)≤100000000000:=by omega
  rw[Int.natCast_mul]at h2;omega
 have hneg:¬((m:Int)<0):=by omega
 obtain⟨zs,z1,z2,z3⟩:=hzr.eq;obtain⟨inf',z',k3,k4,k5⟩:=QR z1;rw[hinf]at k3;injection k3 with k3;subst k3;rw[hz]at k4;injection k4 with k4;subst k4
 obtain⟨v,rfl⟩:∃v,zs=[v]:=by
  match zs,z2 with
  |[v],_=>exact⟨v,rfl⟩
 obtain rfl:v=u:=by simpa using z2
 have hone:v.oneCell'=true:=by simpa using z3
 have hcells:((Array.range (m * 1)).map fun x=>z.cells[x % z.cells.size]!)=(List.replicate m v).toArray:=by
  rw[k5];apply Array.ext
  ·simp
  intro i h1 h2;simp[Nat.mod_one]
 have hrun:(Instr.makeSlice T (.int .i64 m) (.int .i64 m)).run P w= .ok (.slice (some ⟨w.heap.size,0,none⟩) m m) (w.alloc (.cells (List.replicate m v).toArray E)):=by
  rw[←hcells];have h0:¬m=0:=by omega
  have hnb:(inf.bytes:Int) * (m:Int)≤2 ^ 48:=by omega
  simp[Instr.makeSlice,run_underlying hu,asInt,asIntOf,typeInfo,hinf,hw,hneg,sizeOf,hs,h0,newRow,zeroValue,hz];omega
 obtain⟨G',s1,s2,s3⟩:=Nx (T:=E) hr (aL (u:=v) m) (fun q hq=>by rw[List.eq_of_mem_replicate hq];exact hone) hset;simp only[rep]at s3;obtain⟨b',s4,s5⟩:=s3;simp only[execOp,k1,k2,Sem.run_bind,hrun,Result.andThen_ok,Sem.run_pure];refine⟨_,_,G',hR,s1,s2,?_⟩;simp only[rep];injection s5 with s5;injection s5 with s5;injection s5 with s5;exact⟨b',s4,by rw[s5],B6 _,by unfold maxLen;omega⟩
end
section
theorem rN(s:Spc)(r:Rul)(w:Wch)(x:Itm)(hs:SpcB s):AFn prog 72 [.agg (Fl x), .fp (AP r), .fp (AT s), .fp (Bd w)] (fun y=>y= .v (.bool (qF s r w x))):=by
 refine enter Tryz.func72 rfl rfl rfl rfl rfl 0 rfl ?_;refine C6 (h:=B7 (h:=Hs (h:=FC (h:=FW (h:=?_)))));refine AJ true rfl rfl (fun hb1 hc1=>?_) (fun hb1 hc1=>?_)
 ·refine GL (h:=l_ (h:=?_));refine As (A8 (rF s w x hs) ?_);rintro r rfl;refine Gk (h:=?_);refine A6 ?_
  first|(exfalso;first|contradiction|omega)|(exact vb (by simp_all [qF]))
 refine BT (h:=Bp (h:=BJ (h:=?_)));refine A6 ?_
 first|(exfalso;first|contradiction|omega)|(exact vb (by simp_all [qF]))
theorem rO(l:List Itm)(hl:l.length≤1000)(q:Itm→Bool)(f:FuncId)(caps:List AV)[Fun prog f](hcl:L0 caps=true)(hbl:AW 0 0 (.fn f caps)=true)
    (hp:∀x,AFn prog f ([.agg (Fl x)]++caps) (fun y=>y= .v (.bool (q x)))):AFn prog 118 [.sl 13 (l.map Fl) none, .fn f caps] (fun r=>r= .v (.int .i64 (EC (fun _ x=>q x) l 0))):=by
 refine enter Tryz.func118 rfl rfl rfl rfl rfl 0 rfl ?_;refine w_ (Bw (h:=Ha (h:=e_ (BH (?_)))));refine BR (fun m t=>∃j:Nat,j≤l.length∧m=l.length - j∧EC (fun _ x=>q x) (l.drop j) j=EC (fun _ x=>q x) l 0∧t=⟨look [(0, .sl 13 (l.map Fl) none),(1, .fn f caps),(7, .v (.int .i64 ((l.map Fl).length:Int))),(8, .v (.int .i64 (j:Int)))],⟨[],[]⟩⟩) (l.length) (Ai 0 0 rfl rfl rfl rfl (by repeat (first|exact Sub.nil|refine Aj rfl rfl ?_|refine Sub.cons _ _ _ rfl hbl ?_|refine Ap ?_|refine Aq rfl ?_|refine Ar rfl ?_))) (⟨0,by omega,rfl,rfl,rfl⟩) ?_;rintro m t ⟨j,hj,rfl,ha,rfl⟩;refine w_ (Cj (h:=q_ (?_)));refine A4 rfl (fun hb1 hc1=>?_) (fun hb1 hc1=>?_)
 ·obtain⟨hlt,x,hy,hrow, -⟩:=Bz Fl hc1;refine C2 (h:=Aa (h:=C4 (h:=m_ (h:=JJ (h:=l_ (h:=?_))))));refine A3 rfl (Sb (cy:=[]) rfl (by repeat (first|exact Args.nil|refine Args.cons _ _ _ _ _ rfl (LQ rfl) ?_|refine Args.cons _ _ _ _ _ rfl (MV _) ?_|refine Args.cons _ _ _ _ _ rfl (Lu _) ?_|refine Args.cons _ _ _ _ _ rfl (MZ rfl (by repeat (first|exact A7 _|exact LeA.nil _|exact LeL.refl _|refine LeA.agg ?_|refine LeA.tup ?_|exact LeL.nil|refine LeL.cons ?_ ?_|exact LeA.any _))) ?_)) hcl rfl (hp x) ?_);rintro y rfl;refine e_ (?_);refine A4 rfl (fun hb2 hc2=>?_) (fun hb2 hc2=>?_)
  ·refine Aa (h:=BC (h:=EB (h:=?_)));refine A6 ?_
   first|(exfalso;first|contradiction|omega)|(exact vi (by rw[←ha,OE hy,if_pos hc2]))
  refine BF (BB (t_ (Av (Gp (h:=?_)))));refine⟨_,_,?_,⟨j+1,by omega,rfl,(by rw[←ha,OE hy];simp[*]),rfl⟩,Ai 0 0 rfl rfl rfl rfl (by repeat (first|exact Sub.nil|refine Aj rfl rfl ?_|refine Sub.cons _ _ _ rfl hbl ?_|refine Ap ?_|refine Aq rfl ?_|refine Ar rfl ?_))⟩;omega
 have e3:=CD Fl hj hc1;subst e3;refine GK (h:=?_);refine A6 ?_
 first|(exfalso;first|contradiction|omega)|(exact vi (by rw[←ha,TD]))
theorem rP(l:List Itm)(hl:l.length≤1000)(q:Itm→Bool)(f:FuncId)(caps:List AV)[Fun prog f](hcl:L0 caps=true)(hbl:AW 0 0 (.fn f caps)=true)
    (hp:∀x,AFn prog f ([.agg (Fl x)]++caps) (fun y=>y= .v (.bool (q x)))):AFn prog 71 [.sl 13 (l.map Fl) none, .fn f caps] (fun r=>r= .v (.bool (l.any q))):=by
 refine enter Tryz.func71 rfl rfl rfl rfl rfl 0 rfl ?_;refine Eh (h:=m_ (h:=?_));refine A3 rfl (VY rfl (by repeat (first|exact Args.nil|refine Args.cons _ _ _ _ _ rfl (LQ (by first|rfl|exact hcl)) ?_)) (rO l hl q f caps hcl hbl hp) ?_);rintro y rfl;refine EJ (h:=BJ (h:=?_));refine A6 ?_;exact vb (aJ q l 0)
end
theorem aM:RowF 1 Jh:=⟨fun _=>rfl,fun b y hy=> .inl ⟨.bool b,by simpa[Jh]using hy⟩,by decide⟩
theorem aN:∀L:List Bool,(L.map Jh).flatten=L.map S7
 |[]=>rfl
 |x::xs=>by simp only[List.map_cons,List.flatten_cons,aN xs];rfl
theorem aO{L:List Bool}{j:Nat}(h:j≤L.length):HB L j=LB 1 Jh (L.take j++List.replicate (L.length - j) false) L.length:=by
 unfold LB CZ HB;rw[aN];simp;omega
theorem rQ(L:List Bool):HB L L.length=LB 1 Jh L L.length:=by
 rw[aO (B6 _)];simp
theorem Q6{L:List Bool}{j n m:Nat}(h:j≤L.length):AX n m (HB L j)=true:=by rw[aO h];exact By aM
theorem rR{L:List Bool}{j:Nat}{b:Bool}(h:L[j]?=some b):SetAt (HB L j) (0+j * 1) (CU (.v (.bool b))) (HB L (j+1)):=by
 have hj:j<L.length:=(Af.1 h).1;rw[←rL h,show 0+j * 1=j by omega];exact SetAt.put1 (by rw[rJ L (by omega)];exact hj)
section
theorem rT(s:Spc)(p:Pol)(items:List Itm)(h0:p.rules=[]):AFn prog 32 [.agg (Bi p), .agg (AT s), .sl 13 (items.map Fl) none] (fun r=>r= .sl 1 ((KR s p items).map Jh) none):=by
 rw[show KR s p items=[] by simp[KR,h0],show Bi p=[.sl 8 [] none, .sl 6 (p.wats.map Bd) none] by simp[Bi,h0]];refine enter Tryz.func32 rfl rfl rfl rfl rfl 0 rfl ?_;refine FV (h:=Az (h:=n_ (h:=?_)));refine A3 rfl (Sc rfl rfl (by decide) (by repeat constructor) ?_);refine B7 (h:=Ci (h:=Ha (h:=e_ (BH (?_)))));refine BR (fun n S=>n=0∧S=⟨look [(7, .sl 1 [] (some 0)),(17, .v (.int .i64 0)),(18, .v (.int .i64 0))],⟨[[.sl 8 [] none, .sl 6 (p.wats.map Bd) none],AT s],[(4,1,[])]⟩⟩) (0) ((wk 2 1)) (⟨rfl,rfl⟩) ?_;rintro n S ⟨rfl,rfl⟩;refine w_ (Cj (h:=q_ (?_)));refine A4 rfl (fun hb1 hc1=>?_) (fun hb1 hc1=>?_)
 ·simp at hc1
 refine CK (h:=EA (h:=?_));refine A6 ?_;rfl
theorem rU(s:Spc)(p:Pol)(items:List Itm)(hs:SpcB s)(h0:0<p.rules.length)(h1:p.rules.length≤1000)(h2:p.wats.length=p.rules.length)(hit:items.length≤1000)(L:List Bool)(hL:KR s p items=L):AFn prog 32 [.agg (Bi p), .agg (AT s), .sl 13 (items.map Fl) none] (fun r=>r= .sl 1 (L.map Jh) none):=by
 have hlen:L.length=p.rules.length:=by rw[←hL];exact rH h2
 refine enter Tryz.func32 rfl rfl rfl rfl rfl 0 rfl ?_;refine FV (h:=Az (h:=n_ (h:=?_)));refine A3 rfl (rM (m:=L.length) rfl rfl (by simp[hlen]) (by simp[hlen]) (by omega) (by omega) (by repeat constructor) ?_);refine B7 (h:=Ci (h:=Ha (h:=e_ (BH (?_)))));refine BR (fun n S=>∃j:Nat,j≤p.rules.length∧n=p.rules.length - j∧S=⟨look [(2, .sl 13 (items.map Fl) none),(3, .bp 0 0),(4, .bp 1 0),(7, .bs 2 0 1 L.length L.length),(16, .sl 8 (p.rules.map AP) none),(17, .v (.int .i64 ((p.rules.map AP).length:Int))),(18, .v (.int .i64 (j:Int)))],⟨[Bi p,AT s,HB L j],[]⟩⟩) (p.rules.length) (by rw[←rK];exact Bk 3 0 (by simp[AY,Q6,Bi,AT,AX,AW])) (⟨0,BK _,rfl,rfl⟩) ?_;rintro n S ⟨j,hj,rfl,rfl⟩;refine w_ (Cj (h:=q_ (?_)));refine A4 rfl (fun hb1 hc1=>?_) (fun hb1 hc1=>?_)
 ·obtain⟨hlt,r,hy,hrow, -⟩:=Bz AP hc1;obtain⟨w,hyw⟩:∃w,p.wats[j]?=some w:=⟨_,B3 (by omega)⟩;have hLj:=rG (s:=s) (items:=items) hy hyw;rw[hL]at hLj;refine C2 (h:=Aa (h:=i_ (h:=l_ (h:=Dt (h:=a_ (h:=s_ (h:=e_ (Ci (h:=BN (h:=?_))))))))));refine A4 rfl (fun hb2 hc2=>?_) (fun hb2 hc2=>?_)
  ·have hb0:L[j]?=some false:=by rw[hLj];simp_all [Q5]
   refine T0 (h:=Lt (t_ (Av (Gp (h:=?_)))));refine⟨_,_,?_,⟨j+1,by omega,rfl,rfl⟩,?_⟩
   ·omega
   first|(rw[←aK hb0];exact Bk 3 0 (by simp[AY,Q6 (L:=L) (j:=j) (by omega),Bi,AT,AX,AW]))|exact Bk 3 0 (by simp[AY,Q6 (L:=L) (j:=j+1) (by omega),Bi,AT,AX,AW])
  have hb2:L[j]?=some (items.any (qF s r w)):=by rw[hLj];simp_all [Q5]
  refine AG (FF (h:=?_));refine A3 rfl (A8 (Zp p j w (by omega) hyw) ?_);rintro r rfl;refine Dk (h:=EX (h:=m_ (h:=Su (h:=?_))));refine A3 rfl (Sh rfl (by repeat (first|exact ArgsL.nil|refine ArgsL.cons _ _ _ _ _ rfl rfl ?_)) (rP items hit (qF s r w) 72 [.fp (AP r), .fp (AT s), .fp (Bd w)] rfl rfl fun x=>rN s r w x hs) ?_);rintro x rfl;refine⟨rfl,?_⟩;refine A3 rfl (Dy (m:=j) rfl rfl rfl (by omega) ?_);refine MY (Eo (row':=HB L (j+1)) rfl rfl rfl rfl rfl rfl (rR hb2) (by repeat constructor) ?_);refine C1 (BB (t_ (Av (Gp (h:=?_)))));refine⟨_,_,?_,⟨j+1,by omega,rfl,rfl⟩,?_⟩
  ·omega
  first|(rw[←aK hb0];exact Bk 3 0 (by simp[AY,Q6 (L:=L) (j:=j) (by omega),Bi,AT,AX,AW]))|exact Bk 3 0 (by simp[AY,Q6 (L:=L) (j:=j+1) (by omega),Bi,AT,AX,AW])
 have e:=CD AP hj hc1;subst e;refine CK (h:=?_);refine B9 (fun S=>S=⟨look [(6, .sl 1 (L.map Jh) none)],⟨[Bi p,AT s],[]⟩⟩) ?_ ?_
 ·skip
  refine C5 (h:=Ck (h:=?_));rw[←hlen,rQ];exact⟨_,rfl,Hm 2 1 rfl rfl (.cons _ _ _ _ rfl (LeA.of_eq (Og aM rfl rfl (B6 _))) .nil)⟩
 rintro S rfl;refine B8 (?_);refine A6 ?_;rfl
end
def Ur(c:Ctx):Ctx:={c with phase:=2}
def S8(s:Spc)(p:Pol)(c:Ctx):Int:=EC (Ml 3 (KR s p c.items) (Ur c)) p.rules 0
def N0(s:Spc)(p:Pol)(c:Ctx):Vdt:=if c.audited=false then Q4 else if 0≤S6 p c then MF p.rules (S6 p c)else MF p.rules (S8 s p c)
section
theorem rV(s:Spc)(p:Pol)(items:List Itm)(hs:SpcB s)(h1:p.rules.length≤1000)(h2:p.wats.length=p.rules.length)(hit:items.length≤1000):AFn prog 32 [.agg (Bi p), .agg (AT s), .sl 13 (items.map Fl) none] (fun r=>r= .sl 1 ((KR s p items).map Jh) none):=by
 rcases Nat.eq_zero_or_pos p.rules.length with h0|h0
 ·exact rT s p items (Fg h0)
 exact rU s p items hs h0 h1 h2 hit _ rfl
variable (s:Spc)(p:Pol)(c:Ctx)(k:Cxs)(hs:SpcB s)(h1:p.rules.length≤1000)(h2:p.wats.length=p.rules.length)(ht:∀r∈p.rules,r.tests.length≤1000)(hit:c.items.length≤1000)
include hs h1 h2 ht hit
theorem rW:AFn prog 24 [.agg (Bi p), .agg (AT s), .agg (Fm c k)] (fun r=>r= .agg (Oq (MF p.rules (S8 s p c)))):=by
 refine enter Tryz.func24 rfl rfl rfl rfl rfl 0 rfl ?_;refine w_ (b_ (h:=b_ (h:=b_ (h:=Dt (h:=e_ (w_ (f_ (h:=s_ (h:=e_ (q_ (BS ([(0,Bi p),(1,AT s),(2,Fm (Ur c) k)]) 12 (h:=AA 0 (h:=AD 1 (h:=AA 2 (h:=AA 3 (h:=AA 4 (h:=AD 5 (h:=AA 6 (h:=AA 8 (h:=?_))))))))))))))))))));refine c_ 7 rfl (A8 (rV s p c.items hs h1 h2 hit) ?_);rintro r rfl;refine o_ (h:=?_);refine c_ 9 rfl (A8 (Wg p.rules 3 (KR s p c.items) (Ur c) k h1 hit ht) ?_);rintro r rfl;refine o_ (h:=?_);refine c_ 10 rfl (A8 (Uq p (S8 s p c) (aF _ _) h1) ?_);rintro r rfl;refine o_ (h:=?_);refine Ak 11 (h:=z_ (h:=t_ (B8 (?_))));refine A6 ?_;rfl
theorem aP:AFn prog 26 [.agg (Bi p), .agg (AT s), .agg (Fm c k)] (fun r=>r= .agg (Oq (N0 s p c))):=by
 refine enter Tryz.func26 rfl rfl rfl rfl rfl 0 rfl ?_;refine Dh (h:=b_ (h:=DT (h:=q_ (w_ (ET (h:=DE (h:=?_)))))));refine A4 rfl (fun hb1 hc1=>?_) (fun hb1 hc1=>?_)
 ·have k1:c.audited=false:=by simpa using hc1
  refine CF (h:=?_);refine A3 rfl (A8 (Uq p (-1) (.inl (by decide)) h1) ?_);rintro r rfl;refine s_ (h:=e_ (B8 (Bu (?_))));refine A6 ?_;rw[N0,if_pos k1,←aC (l:=p.rules) (i:= -1) (by decide)];rfl
 have k1:¬c.audited=false:=by simpa using hc1
 refine FY (h:=CG (h:=?_));refine A3 rfl (A8 (rD p c k h1 ht) ?_);rintro r rfl;refine Ee (h:=C4 (h:=e_ (?_)));refine A4 rfl (fun hb2 hc2=>?_) (fun hb2 hc2=>?_)
 ·refine Fs (h:=e_ (B8 (Bu (?_))));refine A6 ?_;rw[N0,if_neg k1,if_pos (by simpa using hc2)];rfl
 refine AG (CG (h:=l_ (h:=?_)));refine A3 rfl (A8 (rW s p c k hs h1 h2 ht hit) ?_);rintro r rfl;refine s_ (h:=e_ (B8 (?_)));refine A6 ?_;rw[N0,if_neg k1,if_neg (by simpa using hc2)];rfl
variable (hv:SpcV s)
include hv
end
def S9:Rul:=⟨2,2,1,[⟨3,1,0,⟨#[]⟩,0⟩],0,⟨#[]⟩,0,⟨#[]⟩⟩
def SA:Rul:=⟨3,1,1,[],0,⟨#[]⟩,0,⟨#[107]⟩⟩
def JU:List Rul:=[S9,SA]
def KS:Pol:=⟨JU,[FP,FP]⟩
def MG(u:Int):Ctx:={pW u with audited:=true}
theorem aQ:∀r∈JU,Em r:=by
 intro r hr;simp[JU]at hr;rcases hr with rfl|rfl<;>exact⟨by decide,by decide,by decide,by decide⟩
theorem rX:∀r∈JU,r.watch=0:=by
 intro r hr;simp[JU]at hr;rcases hr with rfl|rfl<;>rfl
theorem rY(s:Spc):Lp s JU=(KS,0):=by
 have hp:∀r∈JU,D2 s r=(FP,0):=by
  intro r hr;simp[JU]at hr;rcases hr with rfl|rfl<;>exact if_pos rfl
 rw[Zq (by decide) fun r hr=>by rw[hp r hr]]
 have:H3 s JU=[FP,FP]:=by
  simp[H3,JU,hp S9 (by simp[JU]),hp SA (by simp[JU])]
 rw[this];rfl
theorem rZ(s:Spc):N0 s KS (MG 0)=⟨false,0,⟨#[]⟩⟩:=by
 rw[N0,if_neg (by decide),if_pos (by decide)];decide
theorem s6(s:Spc):N0 s KS (MG 5)=⟨true,1,⟨#[107]⟩⟩:=by
 rw[N0,if_neg (by decide),if_neg (by decide),S8];rw[show KR s KS (MG 5).items=[false,false] by simp[KR,KS,JU,S9,SA,Q5]];decide
theorem s7:(KL 1).2=0:=by decide+kernel
section
theorem s8:AFn prog 34 [] (fun x=>x= .v (.bool true)):=by
 have hnew:AFn prog 60 [.v (.int .i64 1)] (fun r=>r= .tup [.agg (DH (KL 1).1), .v (.int .i64 0)]):=(ZD 1).mono fun r hr=>by rw[hr,Rv,s7]
 have hv:=Zs.1.v;have hm:=Zs.1.m;obtain⟨S0,hS0⟩:∃S,S=(KL 1).1:=⟨_,rfl⟩;rw[←hS0]at hnew hv hm;clear hS0;have hmm:S0.spc.mounts.length≤1000:=by omega
 have ht:∀r∈KS.rules,r.tests.length≤1000:=fun r hr=>(aQ r hr).2.2.2;have hload:AFn prog 41 [.sl 8 (JU.map AP) none, .agg (AT S0.spc)] (fun r=>r= .tup [.agg (Bi KS), .v (.int .i64 0)]):=(qG S0.spc JU (by decide) aQ fun r h=>qE _ r (rX r h)).mono fun r hr=>by rw[hr,rY];rfl
 have hd0:AFn prog 26 [.agg (Bi KS), .agg (AT S0.spc), .agg (Fm (MG 0) Om)] (fun r=>r= .agg [.v (.bool false), .v (.int .i64 0), .v (.string ⟨#[]⟩)]):=(aP S0.spc KS (MG 0) Om (hv.b hmm) (by decide) rfl ht (by decide)).mono fun r hr=>by rw[hr,rZ];rfl
 have hd5:AFn prog 26 [.agg (Bi KS), .agg (AT S0.spc), .agg (Fm (MG 5) Om)] (fun r=>r= .agg [.v (.bool true), .v (.int .i64 1), .v (.string ⟨#[107]⟩)]):=(aP S0.spc KS (MG 5) Om (hv.b hmm) (by decide) rfl ht (by decide)).mono fun r hr=>by rw[hr,s6];rfl
 refine enter Tryz.func34 rfl rfl rfl rfl rfl 0 rfl ?_;refine Cw (h:=w_ (?_));refine A3 rfl (A8 (hnew) ?_);rintro r rfl;refine Ee (h:=B7 (h:=w_ (Bq (h:=BY (h:=?_)))));refine A3 rfl (Hp (y:= .agg (AP S9)) (Dz ⟨rfl,rfl⟩) ?_);refine A3 rfl (Hp (y:= .agg (AP SA)) (Dz ⟨rfl,rfl⟩) ?_);refine BY (h:=C4 (h:=Ab (h:=?_)));refine A3 rfl (A8 (hload) ?_);rintro r rfl;refine Ee (h:=B7 (h:=CF (h:=Ab (h:=Bq (h:=?_)))));refine A3 rfl (Hp (y:= .agg (Fm (MG 0) Om)) (Dz ⟨rfl,rfl⟩) ?_);refine A3 rfl (A8 (hd0) ?_);rintro r rfl;refine Dk (h:=CF (h:=Ab (h:=Bq (h:=?_))));refine A3 rfl (Hp (y:= .agg (Fm (MG 5) Om)) (Dz ⟨rfl,rfl⟩) ?_);refine A3 rfl (A8 (hd5) ?_);rintro r rfl;refine Dk (h:=Aa (h:=E1 (h:=?_)));refine AJ true rfl rfl (fun hb1 hc1=>?_) (fun hb1 hc1=>?_)
 ·refine Ab (h:=Cr (h:=C7 (h:=?_)));refine AJ true rfl rfl (fun hb2 hc2=>?_) (fun hb2 hc2=>?_)
  ·refine Cx (h:=C7 (h:=?_));refine AJ true rfl rfl (fun hb3 hc3=>?_) (fun hb3 hc3=>?_)
   ·refine Ab (h:=C7 (h:=?_));refine AJ true rfl rfl (fun hb4 hc4=>?_) (fun hb4 hc4=>?_)
    ·refine Cx (h:=C7 (h:=?_));refine AJ true rfl rfl (fun hb5 hc5=>?_) (fun hb5 hc5=>?_)
     ·refine Cx (h:=Gk (h:=?_));refine A6 ?_
      first|rfl|(exfalso;first|contradiction|omega)|exact vb (by simp)
     refine Hv (h:=?_);refine A6 ?_
     first|rfl|(exfalso;first|contradiction|omega)|exact vb (by simp)
    refine Fh (h:=Hv (h:=?_));refine A6 ?_
    first|rfl|(exfalso;first|contradiction|omega)|exact vb (by simp)
   refine BD (h:=Bh (h:=Fh (h:=Hv (h:=?_))));refine A6 ?_
   first|rfl|(exfalso;first|contradiction|omega)|exact vb (by simp)
  refine Fh (h:=BD (h:=Bh (h:=Fh (h:=Hv (h:=?_)))));refine A6 ?_
  first|rfl|(exfalso;first|contradiction|omega)|exact vb (by simp)
 refine Fh (h:=Fh (h:=BD (h:=Bh (h:=Fh (h:=DC (h:=a_ (h:=?_)))))));refine e_ (B8 (?_));refine A6 ?_
 first|rfl|(exfalso;first|contradiction|omega)|exact vb (by simp)
end
structure SmP(p:Pol):Prop where
 rl:p.rules.length≤1000
 wl:p.wats.length≤1000
 ts:∀r∈p.rules,r.tests.length≤1000
def FQ(s:Spc)(r:Rul)(w:Wch):Wch×Bool:=if r.watch=0 then(w,true)else GB s w
def Ea(s:Spc)(z:List (Rul×Wch)):List Rul:=(z.filter fun x=>(FQ s x.1 x.2).2).map Prod.fst
def F8(s:Spc)(z:List (Rul×Wch)):List Wch:=(z.filter fun x=>(FQ s x.1 x.2).2).map fun x=>(FQ s x.1 x.2).1
def FR(s:Spc)(z:List (Rul×Wch)):List Rul:=(z.filter fun x=> !(FQ s x.1 x.2).2).map Prod.fst
def Gd(s:Spc)(p:Pol):Pol×List Rul:=(⟨Ea s (p.rules.zip p.wats),F8 s (p.rules.zip p.wats)⟩,FR s (p.rules.zip p.wats))
theorem aR{p:Pol}{j:Nat}{r:Rul}{w:Wch}(h1:p.rules[j]?=some r)(h2:p.wats[j]?=some w):(p.rules.zip p.wats)[j]?=some (r,w):=by
 rw[List.getElem?_zip_eq_some];exact⟨h1,h2⟩
theorem aS{α:Type}{z:List α}{j:Nat}{x:α}(h:z[j]?=some x):z.take (j+1)=z.take j++[x]:=by rw[List.take_add_one,h];rfl
theorem aT{s:Spc}{z:List (Rul×Wch)}{j:Nat}{r:Rul}{w w1:Wch}(h:z[j]?=some (r,w))(hf:FQ s r w=(w1,true)):(Ea s (z.take (j+1))).map AP=(Ea s (z.take j)).map AP++[AP r]∧(F8 s (z.take (j+1))).map Bd=(F8 s (z.take j)).map Bd++[Bd w1]∧(FR s (z.take (j+1))).map AP=(FR s (z.take j)).map AP:=by
 rw[aS h];simp[Ea,F8,FR,List.filter_append,hf]
theorem aU{s:Spc}{z:List (Rul×Wch)}{j:Nat}{r:Rul}{w:Wch}(h:z[j]?=some (r,w))(hf:(FQ s r w).2=false):(Ea s (z.take (j+1))).map AP=(Ea s (z.take j)).map AP∧(F8 s (z.take (j+1))).map Bd=(F8 s (z.take j)).map Bd∧(FR s (z.take (j+1))).map AP=(FR s (z.take j)).map AP++[AP r]:=by
 rw[aS h];simp[Ea,F8,FR,List.filter_append,hf]
theorem Us(s:Spc)(z:List (Rul×Wch)):(Ea s z).length≤z.length∧(F8 s z).length≤z.length∧(FR s z).length≤z.length∧(Ea s z).length+(FR s z).length=z.length∧(F8 s z).length=(Ea s z).length:=by
 have h1:(z.filter fun x=>(FQ s x.1 x.2).2).length≤z.length:=List.length_filter_le _ _
 have h2:(z.filter fun x=>(FQ s x.1 x.2).2).length+(z.filter fun x=> !(FQ s x.1 x.2).2).length=z.length:=by
  clear h1
  induction z with
  |nil=>rfl
  |cons x xs ih=>
    cases h:(FQ s x.1 x.2).2<;>simp[h]<;>omega
 simp only[Ea,F8,FR,List.length_map];refine⟨h1,h1,?_,h2,?_⟩<;>first|omega|rfl|trivial
theorem aV(s:Spc)(z:List (Rul×Wch)){j:Nat}(hj:j≤z.length)(hz:z.length≤1000):(Ea s (z.take j)).length≤1000∧(F8 s (z.take j)).length≤1000∧(FR s (z.take j)).length≤1000:=by
 have h:=Us s (z.take j);have h2:(z.take j).length≤z.length:=by simp;omega
 omega
theorem Ut{p:Pol}(h2:p.wats.length=p.rules.length):(p.rules.zip p.wats).length=p.rules.length:=by simp[h2]
section
variable (s:Spc)(p:Pol)(hs:SpcB s)(h1:p.rules.length≤900)(h2:p.wats.length=p.rules.length)(ht:∀r∈p.rules,r.tests.length≤1000)
include hs h1 h2 ht
theorem s9:AFn prog 52 [.agg (Bi p), .agg (AT s)] (fun x=>x= .tup [.agg (Bi (Gd s p).1), .sl 8 ((Gd s p).2.map AP) none]):=by
 obtain⟨z,hz⟩:∃z,z=p.rules.zip p.wats:=⟨_,rfl⟩;have hzl:z.length=p.rules.length:=by rw[hz];exact Ut h2
 have hF:Gd s p=(⟨Ea s z,F8 s z⟩,FR s z):=by rw[hz];rfl
 have hfol:∀w,AFn prog 101 [.agg (AT s), .agg (Bd w)] (fun r=>r= .tup [.agg (Bd (GB s w).1), .v (.bool (GB s w).2)]):=fun w=>pY s w hs;refine enter Tryz.func52 rfl rfl rfl rfl rfl 0 rfl ?_;refine Jb (h:=w_ (DT (h:=Cw (h:=Ci (h:=Ha (h:=e_ (BH (?_))))))));refine K5 3 0 83 8 rfl rfl (by repeat constructor) (by repeat constructor) (by repeat constructor) ?_;refine K5 3 1 93 6 rfl rfl (by repeat constructor) (by repeat constructor) (by repeat constructor) ?_;refine MS 7 83 8 rfl (by repeat constructor) ?_;refine BR (fun n S=>∃j:Nat,j≤p.rules.length∧n=p.rules.length - j∧S=⟨look [(2, .bp 0 0),(3, .bp 1 0),(4, .bp 2 0),(6, .bp 3 0),(7, .sl 8 ((FR s (z.take j)).map AP) (some 2)),(13, .sl 8 (p.rules.map AP) none),(14, .v (.int .i64 ((p.rules.map AP).length:Int))),(15, .v (.int .i64 (j:Int)))],⟨[Bi p,AT s,[.v (.slice none 0 0), .v (.slice none 0 0)],[.sl 8 ((Ea s (z.take j)).map AP) (some 0), .sl 6 ((F8 s (z.take j)).map Bd) (some 1)]],[(83,8,(Ea s (z.take j)).map AP),(93,6,(F8 s (z.take j)).map Bd),(83,8,(FR s (z.take j)).map AP)]⟩⟩) (p.rules.length) ((wk 4 3)) (⟨0,BK _,rfl,rfl⟩) ?_;rintro n S ⟨j,hj,rfl,rfl⟩;refine w_ (Cj (h:=q_ (?_)));refine A4 rfl (fun hb1 hc1=>?_) (fun hb1 hc1=>?_)
 ·obtain⟨hlt,r,hy,hrow, -⟩:=Bz AP hc1;obtain⟨w,hyw⟩:∃w,p.wats[j]?=some w:=⟨_,B3 (by omega)⟩;have hyz:z[j]?=some (r,w):=by rw[hz];exact aR hy hyw
  obtain⟨hl1,hl2,hl3⟩:=aV s z (j:=j) (by omega) (by omega);refine C2 (h:=Aa (h:=i_ (h:=l_ (h:=Dt (h:=a_ (h:=s_ (h:=e_ (FF (h:=?_)))))))));refine A3 rfl (A8 (Zp p j w (by omega) hyw) ?_);rintro r rfl;refine Dk (h:=?_);refine B9 (fun S=>∃w1,FQ s r w=(w1,true)∧S=⟨look [(2, .bp 0 0),(3, .bp 1 0),(4, .bp 2 0),(6, .bp 3 0),(7, .sl 8 ((FR s (z.take j)).map AP) (some 2)),(9, .bp 4 0),(10, .bp 5 0),(13, .sl 8 (p.rules.map AP) none),(14, .v (.int .i64 ((p.rules.map AP).length:Int))),(15, .v (.int .i64 (j:Int)))],⟨[Bi p,AT s,[.v (.slice none 0 0), .v (.slice none 0 0)],[.sl 8 ((Ea s (z.take j)).map AP) (some 0), .sl 6 ((F8 s (z.take j)).map Bd) (some 1)],AP r,Bd w1],[(83,8,(Ea s (z.take j)).map AP),(93,6,(F8 s (z.take j)).map Bd),(83,8,(FR s (z.take j)).map AP)]⟩⟩) ?_ ?_
  ·skip
   refine Az (h:=Bn (h:=?_));refine A4 rfl (fun hb2 hc2=>?_) (fun hb2 hc2=>?_)
   ·have k0:¬r.watch=0:=by simpa using hc2
    refine Cw (h:=CG (h:=?_));refine A3 rfl (A8 (hfol w) ?_);rintro r rfl;refine GJ (h:=s_ (h:=C4 (h:=DE (h:=?_))));refine A4 rfl (fun hb3 hc3=>?_) (fun hb3 hc3=>?_)
    ·have hfl:(FQ s r w).2=false:=by rw[FQ,if_neg k0];simpa using hc3
     obtain⟨e1,e2,e3⟩:=aU hyz hfl;refine Aa (h:=l_ (h:=?_));refine A3 rfl (A8 (Ul r (ht r (Ag hy))) ?_);rintro r rfl;refine BY (h:=Gg (h:=a_ (h:=e_ (N5 (LR (Lt (t_ (Av (ES (h:=m_ (h:=C1 (AM (?_)))))))))))));refine⟨_,_,?_,⟨j+1,by omega,rfl,rfl⟩,?_⟩
     ·omega
     rw[e1,e2,e3];exact(wk 4 3)
    have hfl:FQ s r w=((GB s w).1,true):=by rw[FQ,if_neg k0];exact Prod.ext rfl (by simpa using hc3)
    refine BF (AM (?_));exact⟨_,⟨_,hfl,rfl⟩,Ai 6 3 rfl rfl rfl rfl ((by repeat (first|exact Sub.nil|refine Aj rfl rfl ?_|refine Ap ?_|refine Aq rfl ?_|refine Ar rfl ?_)))⟩
   have k0:r.watch=0:=by simpa using hc2
   have hfl:FQ s r w=(w,true):=if_pos k0;refine BF (AM (?_));exact⟨_,⟨_,hfl,rfl⟩,Ai 6 3 rfl rfl rfl rfl ((by repeat (first|exact Sub.nil|refine Aj rfl rfl ?_|refine Ap ?_|refine Aq rfl ?_|refine Ar rfl ?_)))⟩
  rintro S ⟨w1,hfl,rfl⟩;obtain⟨e1,e2,e3⟩:=aT hyz hfl;refine q_ (BS ([(0,Bi p),(1,AT s),(2,[.v (.slice none 0 0), .v (.slice none 0 0)]),(3,[.sl 8 ((Ea s (z.take j)).map AP) (some 0), .sl 6 ((F8 s (z.take j)).map Bd) (some 1)]),(4,AP r),(5,Bd w1)]) 6 (h:=AD 0 (h:=AA 1 (h:=AA 2 (h:=?_)))));refine c_ 3 rfl (A8 (Ul r (ht r (Ag hy))) ?_);rintro r rfl;refine o_ (h:=Ho 4 (h:=?_))
  first|refine c_ 5 rfl (Dr rfl rfl rfl (by simp<;>omega) (by repeat constructor) ?_)|refine c_ 5 rfl (Ge rfl rfl (by simp<;>omega) (by repeat constructor) ?_)
  refine o_ (h:=?_);refine c_ 6 rfl (JW rfl ?_);refine o_ (h:=?_);refine Ak 7 (h:=z_ (h:=t_ (Av (f_ (h:=l_ (h:=l_ (h:=BY (h:=Gg (h:=f_ (h:=s_ (h:=C1 (BB (t_ (Av (ES (h:=m_ (h:=C1 (AM (?_)))))))))))))))))));refine⟨_,_,?_,⟨j+1,by omega,rfl,rfl⟩,?_⟩
  ·omega
  rw[e1,e2,e3];exact(wk 4 3)
 have e:=CD AP hj hc1;subst e;rw[←hzl,List.take_length];refine CK (h:=FF (h:=s_ (h:=BJ (h:=?_))));refine A6 ?_;rw[hF];rfl
theorem sA:AFn prog 53 [.agg (Bi p), .agg (AT s)] (fun x=>x= .tup [.agg (Bi (Gd s p).1), .sl 8 ((Gd s p).2.map AP) none]):=by
 obtain⟨z,hz⟩:∃z,z=p.rules.zip p.wats:=⟨_,rfl⟩;have hzl:z.length=p.rules.length:=by rw[hz];exact Ut h2
 have hF:Gd s p=(⟨Ea s z,F8 s z⟩,FR s z):=by rw[hz];rfl
 have hfol:∀w,AFn prog 103 [.agg (AT s), .agg (Bd w)] (fun r=>r= .tup [.agg (Bd (GB s w).1), .v (.bool (GB s w).2)]):=fun w=>pX s w hs;refine enter Tryz.func53 rfl rfl rfl rfl rfl 0 rfl ?_;refine Jb (h:=w_ (DT (h:=Cw (h:=CW (h:=?_)))));refine K5 3 0 83 8 rfl rfl (by repeat constructor) (by repeat constructor) (by repeat constructor) ?_;refine K5 3 1 93 6 rfl rfl (by repeat constructor) (by repeat constructor) (by repeat constructor) ?_;refine MS 7 83 8 rfl (by repeat constructor) ?_;refine BR (fun n S=>∃j:Nat,j≤p.rules.length∧n=p.rules.length - j∧S=⟨look [(2, .bp 0 0),(3, .bp 1 0),(4, .bp 2 0),(6, .bp 3 0),(7, .sl 8 ((FR s (z.take j)).map AP) (some 2)),(8, .v (.int .i64 (j:Int)))],⟨[Bi p,AT s,[.v (.slice none 0 0), .v (.slice none 0 0)],[.sl 8 ((Ea s (z.take j)).map AP) (some 0), .sl 6 ((F8 s (z.take j)).map Bd) (some 1)]],[(83,8,(Ea s (z.take j)).map AP),(93,6,(F8 s (z.take j)).map Bd),(83,8,(FR s (z.take j)).map AP)]⟩⟩) (p.rules.length) ((wk 4 3)) (⟨0,BK _,rfl,rfl⟩) ?_;rintro n S ⟨j,hj,rfl,rfl⟩;refine GN (h:=?_);refine A4 rfl (fun hb1 hc1=>?_) (fun hb1 hc1=>?_)
 ·obtain⟨hlt,r,hy,hrow, -⟩:=Bz AP hc1;obtain⟨w,hyw⟩:∃w,p.wats[j]?=some w:=⟨_,B3 (by omega)⟩;have hroww:(p.wats.map Bd)[j]?=some (Bd w):=by rw[List.getElem?_map,hyw];rfl
  have hyz:z[j]?=some (r,w):=by rw[hz];exact aR hy hyw
  obtain⟨hl1,hl2,hl3⟩:=aV s z (j:=j) (by omega) (by omega);refine C2 (h:=Fu (h:=l_ (h:=?_)));refine A3 rfl (A8 (Q2 r (ht r (Ag hy))) ?_);rintro r rfl;refine Dk (h:=Fu (h:=l_ (h:=NH (h:=B7 (h:=?_)))));refine B9 (fun S=>∃(w1:Wch) (b:Bool),FQ s r w=(w1,b)∧S=⟨look [(2, .bp 0 0),(3, .bp 1 0),(4, .bp 2 0),(6, .bp 3 0),(7, .sl 8 ((FR s (z.take j)).map AP) (some 2)),(8, .v (.int .i64 (j:Int))),(9, .bp 4 0),(10, .bp 5 0),(11, .v (.bool b))],⟨[Bi p,AT s,[.v (.slice none 0 0), .v (.slice none 0 0)],[.sl 8 ((Ea s (z.take j)).map AP) (some 0), .sl 6 ((F8 s (z.take j)).map Bd) (some 1)],AP r,Bd w1],[(83,8,(Ea s (z.take j)).map AP),(93,6,(F8 s (z.take j)).map Bd),(83,8,(FR s (z.take j)).map AP)]⟩⟩) ?_ ?_
  ·skip
   refine Az (h:=Bn (h:=?_));refine A4 rfl (fun hb2 hc2=>?_) (fun hb2 hc2=>?_)
   ·have k0:¬r.watch=0:=by simpa using hc2
    have hfl:FQ s r w=((GB s w).1,(GB s w).2):=if_neg k0;refine Av (GL (h:=?_));refine A3 rfl (A8 (hfol w) ?_);rintro r rfl;refine GJ (h:=s_ (h:=Ck (h:=?_)));exact⟨_,⟨_,_,hfl,rfl⟩,Ai 6 3 rfl rfl rfl rfl ((by repeat (first|exact Sub.nil|refine Aj rfl rfl ?_|refine Ap ?_|refine Aq rfl ?_|refine Ar rfl ?_)))⟩
   have k0:r.watch=0:=by simpa using hc2
   have hfl:FQ s r w=(w,true):=if_pos k0;refine BF (AM (?_));exact⟨_,⟨_,_,hfl,rfl⟩,Ai 6 3 rfl rfl rfl rfl ((by repeat (first|exact Sub.nil|refine Aj rfl rfl ?_|refine Ap ?_|refine Aq rfl ?_|refine Ar rfl ?_)))⟩
  rintro S ⟨w1,b,hfl,rfl⟩;refine Aa (h:=e_ (?_));refine A4 rfl (fun hb3 hc3=>?_) (fun hb3 hc3=>?_)
  ·subst hc3;obtain⟨e1,e2,e3⟩:=aT hyz hfl;refine BS ([(0,Bi p),(1,AT s),(2,[.v (.slice none 0 0), .v (.slice none 0 0)]),(3,[.sl 8 ((Ea s (z.take j)).map AP) (some 0), .sl 6 ((F8 s (z.take j)).map Bd) (some 1)]),(4,AP r),(5,Bd w1)]) 11 (h:=AD 0 (h:=AA 1 (h:=AA 2 (h:=Ho 3 (h:=AD 5 (h:=AA 6 (h:=AA 7 (h:=Ho 8 (h:=?_)))))))))
   first|refine c_ 4 rfl (Dr rfl rfl rfl (by simp<;>omega) (by repeat constructor) ?_)|refine c_ 4 rfl (Ge rfl rfl (by simp<;>omega) (by repeat constructor) ?_)
   refine o_ (h:=AD 10 (h:=?_))
   first|refine c_ 9 rfl (Dr rfl rfl rfl (by simp<;>omega) (by repeat constructor) ?_)|refine c_ 9 rfl (Ge rfl rfl (by simp<;>omega) (by repeat constructor) ?_)
   refine o_ (h:=?_);refine Ak 11 (h:=?_);refine c_ 12 rfl (JW rfl ?_);refine o_ (h:=?_);refine Ak 13 (h:=z_ (h:=BB (t_ (Av (m_ (h:=ES (h:=a_ (h:=C1 (AM (?_))))))))));refine⟨_,_,?_,⟨j+1,by omega,rfl,rfl⟩,?_⟩
   ·omega
   rw[e1,e2,e3];exact(wk 4 3)
  subst hc3;obtain⟨e1,e2,e3⟩:=aU hyz (by rw[hfl]);refine Av (m_ (h:=l_ (h:=BY (h:=Gg (h:=a_ (h:=C1 (BB (t_ (Av (m_ (h:=ES (h:=a_ (h:=C1 (AM (?_)))))))))))))));refine⟨_,_,?_,⟨j+1,by omega,rfl,rfl⟩,?_⟩
  ·omega
  rw[e1,e2,e3];exact(wk 4 3)
 have e:=CD AP hj hc1;subst e;rw[←hzl,List.take_length];refine CK (h:=FF (h:=s_ (h:=BJ (h:=?_))));refine A6 ?_;rw[hF];rfl
end
structure PolS(s:Spc)(p:Pol):Prop where
 snd:KP s p=true
 ins:∀r∈p.rules,Em r
theorem Uu{s:Spc}{p:Pol}(h:KP s p=true):DP p.rules=0∧p.wats.length=p.rules.length∧∀x∈p.rules.zip p.wats,GD s x.1 x.2=true:=by
 simp only[KP,Bool.and_eq_true,decide_eq_true_eq,List.all_eq_true]at h;exact⟨h.1.1,h.1.2,h.2⟩
theorem PolS.few{s:Spc}{p:Pol}(h:PolS s p):p.rules.length≤24∧p.wats.length=p.rules.length:=⟨((Np _).1 (Uu h.snd).1).1,(Uu h.snd).2.1⟩
theorem PolS.sm{s:Spc}{p:Pol}(h:PolS s p):SmP p:=by
 have:=h.few;exact⟨by omega,by omega,fun r hr=>(h.ins r hr).2.2.2⟩
theorem PolOk.s{s:Spc}{p:Pol}{n:Nat}(hv:SpcV s)(h:PolOk s p n):PolS s p:=⟨h.sound hv,h.lst.ins⟩
theorem sB{s t:Spc}{w:Wch}(h:F1 s w=true)(h2:(GB t w).2=true):F1 t (GB t w).1=true∧(GB t w).1.kind=w.kind:=by
 unfold GB at h2 ⊢;by_cases c1:(w.kind≠1∧w.kind≠2)∨GA t (F6 w)=false
 ·rw[if_pos c1]at h2;cases h2
 rw[if_neg c1]at h2 ⊢
 have c2:GA t (F6 w)=true:=by
  cases e:GA t (F6 w)
  ·exact absurd (.inr e) c1
  rfl
 unfold F1 at h;by_cases c3:w.kind=1
 ·rw[if_pos c3]at h ⊢;simp only[Bool.and_eq_true]at h;refine⟨?_,rfl⟩;unfold F1;rw[F6,if_neg (by omega)]at c2;simp only[if_pos c3,c2,h.2,decide_true,Bool.and_true]
 rw[if_neg c3]at h ⊢;by_cases c4:w.kind=2
 ·rw[if_pos c4]at h;simp only[Bool.and_eq_true,decide_eq_true_eq]at h;refine⟨?_,rfl⟩;unfold F1;rw[F6,if_pos c4]at c2;simp only[if_neg c3,if_pos c4,c2,h.1.2,h.2,decide_true,Bool.and_true]
 rw[if_neg c4]at h;cases h
theorem sC{s t:Spc}{r:Rul}{w:Wch}(h:GD s r w=true)(h2:(FQ t r w).2=true):GD t r (FQ t r w).1=true:=by
 unfold GD at h ⊢;unfold FQ at h2 ⊢;by_cases c:r.watch=0
 ·simp only[if_pos c]at h ⊢;exact h
 simp only[if_neg c,Bool.and_eq_true,decide_eq_true_eq]at h h2 ⊢;obtain⟨k1,k2⟩:=sB h.2 h2;exact⟨k2.trans h.1,k1⟩
theorem sD(s:Spc){p:Pol}(h2:p.wats.length=p.rules.length):(Ea s (p.rules.zip p.wats)).Sublist p.rules:=by
 have h:=(List.filter_sublist (p:=fun x:Rul×Wch=>(FQ s x.1 x.2).2) (l:=p.rules.zip p.wats)).map Prod.fst
 rwa [List.map_fst_zip (by omega)]at h
theorem PolS.fol{s:Spc}{p:Pol}(h:PolS s p)(t:Spc):PolS t (Gd t p).1:=by
 obtain⟨h1,h2,h3⟩:=Uu h.snd;have hsub:=sD t h2;refine⟨?_,fun r hr=>h.ins r (hsub.subset hr)⟩;have hl:=Us t (p.rules.zip p.wats);obtain⟨c1,c2,c3⟩:=(Np _).1 h1;refine Uo ((Np _).2 ⟨Nat.le_trans hsub.length_le c1,fun x hx=>c2 x (hsub.subset hx),c3.sublist hsub⟩) hl.2.2.2.2 ?_;intro i r w hi hr hw;simp only[Gd,Ea,F8,List.getElem?_map,Option.map_eq_some_iff]at hr hw;obtain⟨x,hx,rfl⟩:=hr;obtain⟨y,hy,rfl⟩:=hw;rw[hx]at hy;injection hy with hy;subst hy;have hm:=List.mem_filter.1 (Ag hx);exact sC (h3 x hm.1) hm.2
theorem sE{s:Spc}{p:Pol}(h:PolS s p)(t:Spc):(Gd t p).2.length≤24∧(∀r∈(Gd t p).2,r.tests.length≤1000)∧((((Gd t p).1.rules.map AP).length:Int)+(((Gd t p).2.map AP).length:Int)=((p.rules.map AP).length:Int)):=by
 have hf:=h.few;have hl:=Us t (p.rules.zip p.wats);have hz:=Ut hf.2;refine⟨by show(FR t _).length≤24;omega,fun r hr=>?_,?_⟩
 ·simp only[Gd,FR,List.mem_map,List.mem_filter]at hr;obtain⟨x,⟨hx,_⟩,rfl⟩:=hr;exact(h.ins _ (List.of_mem_zip hx).1).2.2.2
 simp only[List.length_map,Gd];omega
end Go.Proofs.YtbgnigjfkbmceaaGreatDoor
