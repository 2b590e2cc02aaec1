/-
  Part 8 of the proof of FilterSilentP: what the statement's proof uses of the texts in wip/tpl.
-/
import Derived.Test.YtbgnigjfkbmceaaGreatDoorQe7
open Go.Proofs.Tryz (prog)
set_option maxRecDepth 10000
set_option maxHeartbeats 4000000
set_option linter.unusedVariables false
set_option linter.unusedSimpArgs false
namespace Go.Proofs.YtbgnigjfkbmceaaGreatDoor
open Go.RowKit
theorem Ll{h:AH}{sz:Nat}{r:List AV}{tok:Option Nat}:SrcA h sz (.sl sz [r] tok) 1 r:=by
 have:=SrcA.sl (h:=h) (sz:=sz) [r] tok
 simpa using this
theorem fH(n:Nod)(cap:Nat):AZ n++List.replicate ((cap - 1) * 8) .any=NB [n] cap:=by
 unfold NB CU;simp
theorem We(acc:List Nod)(n:Nod)(cap0 cap:Nat):((NB acc cap0).drop 0).take (acc.length * 8)++AZ n++List.replicate ((cap - (acc.length+1)) * 8) .any=NB (acc++[n]) cap:=by
 unfold NB;rw[Vy (MQ acc) (by simp),List.map_append];rfl
theorem Wf{acc:List Nod}{n:Nod}{cap:Nat}{row:List AV}(hs:SetAt (NB acc cap) (0+acc.length * 8) (AZ n) row)(hc:acc.length+1≤cap):row=NB (acc++[n]) cap:=by
 have key:=Vx (rows:=acc.map AZ) (sz:=8) (cap:=cap) (r:=AZ n) (row':=row) (MQ acc) rfl (by omega) (by simpa using hc) (by rw[List.length_map];exact hs);rw[key];unfold NB;rw[List.map_append];rfl
theorem R4{is:List Nat}:∀i,i<2→(0::1::is)[i]?=some i:=by
 intro i hi
 match i,hi with
 |0,_=>rfl
 |1,_=>rfl
theorem Wg{ns:List Nod}{j:Nat}{n:Nod}(h:ns[j]?=some n)(ino:Int):DK ino (ns.take (j+1))=DK ino (ns.take j)++(if n.ino=ino then[]else[n]):=by
 unfold DK;rw[List.take_add_one,h,List.filter_append];by_cases e:n.ino=ino<;>simp[e]
section
theorem fJ(f:AR)(q:Nat)(d:Dvc)(a:AB)(cap cap1:Nat)(hf:FlsB f)(hq:f[q]?=some d)(ha:a.1=(q:Int))(hcap:f.length≤cap)(hcap1:d.nodes.length≤cap1)(hne:0<(DK a.2 d.nodes).length):
    ACall prog 234 [.agg [.bs 0 0 2 f.length cap], .agg (AA a)] [DB f q d 1 cap cap1,NB d.nodes cap1] (fun r b t=>t=[]∧r= .tup []∧((0<KK f a∧b=[DB f q d 1 cap cap1,NB d.nodes cap1,[.bs 0 0 2 f.length cap],AA a])∨(KK f a=0∧∃cap2,(DK a.2 d.nodes).length≤cap2∧b=[DB f q {d with nodes:=DK a.2 d.nodes} 4 cap cap2,NB d.nodes cap1,[.bs 0 0 2 f.length cap],AA a,NB (DK a.2 d.nodes) cap2]))):=by
 have hql:=(Ab.1 hq).1;have hdn:=hf.nodes d (Aj hq);have hD0:(DB f q d 1 cap cap1)[0+q * 2+1]?=some (.bs 1 0 8 d.nodes.length cap1):=Ow hql;have hset:∀(acc:List Nod) (cap2:Nat),SetAt (DB f q d 1 cap cap1) (0+q * 2+1) [.bs 4 0 8 acc.length cap2] (DB f q {d with nodes:=acc} 4 cap cap2):=fun acc cap2=>T6 hql (by repeat constructor) (by simp);refine enter Tryz.func234 rfl rfl rfl rfl rfl 5 rfl ?_;refine Fd (h:=e_ (q_ (CN (h:=?_))));refine A3 rfl (Dm 2 rfl (.cons _ _ _ _ _ rfl (LeA.of_eq (MS hq hcap hcap1 (BH _) (BH _) rfl rfl)) (.cons _ _ _ _ _ rfl (A7 _) .nil)) (bR f a hf) ?_);rintro r rfl;refine⟨rfl,?_⟩;refine E6 (h:=e_ (?_));refine A4 rfl (fun hb1 hc1=>?_) (fun hb1 hc1=>?_)
 ·have hl:0<KK f a:=by omega
  refine B5 (Ba (?_));refine AU (r:= .tup []) none (h4:=(by simp[AW,AQ,AP,Ci,Cj,AA])) (h5:=(A7 _)) (h6:=⟨rfl,rfl, .inl ⟨hl,rfl⟩⟩)
 have hl:KK f a=0:=by omega
 refine AF (DG (h:=w_ (f_ (h:=?_))));refine A3 rfl (Dl rfl rfl rfl ?_);refine Aa (h:=?_);refine A3 rfl (Dx (m:=q) rfl rfl ha hql ?_);refine f_ (h:=?_);refine A3 rfl (Dl rfl rfl hD0 ?_);refine B4 (h:=Ca (h:=?_));refine BU (fun m t=>∃(j:Nat) (acc:List Nod),j≤d.nodes.length∧m=d.nodes.length - j∧DK a.2 (d.nodes.take j)=acc∧acc.length≤j∧((acc=[]∧t=⟨look [(2, .bp 2 0),(3, .bp 3 0),(4, .v (.slice none 0 0)),(5, .bs 1 0 8 d.nodes.length cap1),(6, .v (.int .i64 (j:Int)))],⟨[DB f q d 1 cap cap1,NB d.nodes cap1,[.bs 0 0 2 f.length cap],AA a],[]⟩⟩)∨(∃cap2,acc.length≤cap2∧t=⟨look [(2, .bp 2 0),(3, .bp 3 0),(4, .bs 4 0 8 acc.length cap2),(5, .bs 1 0 8 d.nodes.length cap1),(6, .v (.int .i64 (j:Int)))],⟨[DB f q d 1 cap cap1,NB d.nodes cap1,[.bs 0 0 2 f.length cap],AA a,NB acc cap2],[]⟩⟩))) (d.nodes.length) (Bd 4 0 (by simp[AW,AQ,AP,Ci,Cj,AA,AZ])) (⟨0,[],BH _,rfl,rfl,B3 _, .inl ⟨rfl,rfl⟩⟩) ?_;rintro m t ⟨j,acc,hj,rfl,hacc,hal,⟨rfl,rfl⟩|⟨cap2,hcp,rfl⟩⟩
 ·skip
  refine Dq (h:=?_);refine A3 rfl (SF rfl ?_);refine D2 (h:=?_);refine A4 rfl (fun hb2 hc2=>?_) (fun hb2 hc2=>?_)
  ·have hlt:j<d.nodes.length:=by omega
   obtain⟨n,hy⟩:∃n,d.nodes[j]?=some n:=⟨_,B2 hlt⟩;have hk:=Wg hy a.2;refine AF (q_ (BK (q_ (Dd 8 (h:=AG 0 (h:=AG 1 (h:=?_)))))));refine FO (i:=2) rfl (Dx (m:=j) rfl rfl rfl hlt ⟨rfl,rfl⟩) ?_;refine AD 3 (h:=?_);refine FO (i:=4) rfl (Dl rfl rfl (WP hy rfl) ⟨rfl,rfl⟩) ?_;refine AD 5 (h:=A9 6 (h:=Oe 7 (h:=z_ (h:=t_ (?_)))));refine A4 rfl (fun hb3 hc3=>?_) (fun hb3 hc3=>?_)
   ·rw[if_neg hc3]at hk;refine EQ (h:=m_ (h:=?_));refine A3 rfl (Dx (m:=j) rfl rfl rfl hlt ?_);refine A3 rfl (MT rfl rfl (by rw[Ou hcap1];omega) (Qr hy) ?_);refine BY (h:=?_);refine A3 rfl (Qe rfl rfl Ll (by omega) (by omega) ?_);rintro cap2 k bx2 hcp hs;rw[show CM (.agg (AZ n))++List.replicate ((cap2 - 1) * 8) AV.any=NB [n] cap2 from fH n cap2]at hs;obtain⟨rfl,rfl⟩:k=4∧bx2=[_,_,_,_,_]:=hs.eq;refine Gk (h:=Eg (h:=?_));exact⟨d.nodes.length - (j+1),_,by omega,⟨j+1,[n],by omega,rfl,(by rw[hk,hacc];rfl),by simp, .inr ⟨cap2,hcp,rfl⟩⟩,Ao 5 0 rfl rfl rfl (by simp[AW,AQ,AP,Ci,Cj,AA,AZ]) ((by repeat (first|exact Sub.nil|refine Ap rfl rfl ?_|refine At ?_|refine Au rfl ?_|refine Av rfl ?_)))⟩
   rw[if_pos hc3,List.append_nil]at hk;refine DH (h:=?_)
   first|exact⟨d.nodes.length - (j+1),_,by omega,⟨j+1,[n],by omega,rfl,(by rw[hk,hacc];rfl),by simp, .inr ⟨cap2,hcp,rfl⟩⟩,Ao 5 0 rfl rfl rfl (by simp[AW,AQ,AP,Ci,Cj,AA,AZ]) ((by repeat (first|exact Sub.nil|refine Ap rfl rfl ?_|refine At ?_|refine Au rfl ?_|refine Av rfl ?_)))⟩|exact⟨d.nodes.length - (j+1),_,by omega,⟨j+1,[],by omega,rfl,(by rw[hk,hacc]),by simp, .inl ⟨rfl,rfl⟩⟩,Ao 4 0 rfl rfl rfl (by simp[AW,AQ,AP,Ci,Cj,AA,AZ]) ((by repeat (first|exact Sub.nil|refine Ap rfl rfl ?_|refine At ?_|refine Au rfl ?_|refine Av rfl ?_)))⟩
  exfalso;obtain rfl:j=d.nodes.length:=by omega
  rw[List.take_length]at hacc;rw[hacc]at hne;exact absurd hne (by simp)
 skip
 refine Dq (h:=?_);refine A3 rfl (SF rfl ?_);refine D2 (h:=?_);refine A4 rfl (fun hb4 hc4=>?_) (fun hb4 hc4=>?_)
 ·have hlt:j<d.nodes.length:=by omega
  obtain⟨n,hy⟩:∃n,d.nodes[j]?=some n:=⟨_,B2 hlt⟩;have hk:=Wg hy a.2;refine AF (q_ (BK (q_ (Dd 8 (h:=AG 0 (h:=AG 1 (h:=?_)))))));refine FO (i:=2) rfl (Dx (m:=j) rfl rfl rfl hlt ⟨rfl,rfl⟩) ?_;refine AD 3 (h:=?_);refine FO (i:=4) rfl (Dl rfl rfl (WP hy rfl) ⟨rfl,rfl⟩) ?_;refine AD 5 (h:=A9 6 (h:=Oe 7 (h:=z_ (h:=t_ (?_)))));refine A4 rfl (fun hb5 hc5=>?_) (fun hb5 hc5=>?_)
  ·rw[if_neg hc5]at hk;refine EQ (h:=m_ (h:=?_));refine A3 rfl (Dx (m:=j) rfl rfl rfl hlt ?_);refine A3 rfl (MT rfl rfl (by rw[Ou hcap1];omega) (Qr hy) ?_);refine BY (h:=?_);refine A3 rfl (NZ rfl rfl rfl (by rw[Ou hcp];omega) Ll (by omega) (by omega) ?_ ?_)
   ·rintro hg row2 bx2 hs hb;obtain rfl:=Wf hs hg;obtain rfl:bx2=[_,_,_,_,_]:=hb.one.2;refine Gk (h:=Eg (h:=?_));exact⟨d.nodes.length - (j+1),_,by omega,⟨j+1,acc++[n],by omega,rfl,(by rw[hk,hacc]),by simp;omega, .inr ⟨cap2,by simpa using hg,by rw[List.length_append];rfl⟩⟩,Ao 5 0 rfl rfl rfl (by simp[AW,AQ,AP,Ci,Cj,AA,AZ]) ((by repeat (first|exact Sub.nil|refine Ap rfl rfl ?_|refine At ?_|refine Au rfl ?_|refine Av rfl ?_)))⟩
   rintro hg cap3 k bx2 hcp3 hs;rw[show((NB acc cap2).drop 0).take (acc.length * 8)++CM (.agg (AZ n))++List.replicate ((cap3 - (acc.length+1)) * 8) AV.any=NB (acc++[n]) cap3 from We acc n cap2 cap3]at hs;obtain⟨rfl,rfl⟩:k=5∧bx2=[_,_,_,_,_,_]:=hs.eq;refine Gk (h:=Eg (h:=?_))
   first|exact⟨d.nodes.length - (j+1),_,by omega,⟨j+1,acc++[n],by omega,rfl,(by rw[hk,hacc]),by simp;omega, .inr ⟨cap2,by simpa using hg,by rw[List.length_append];rfl⟩⟩,Ao 5 0 rfl rfl rfl (by simp[AW,AQ,AP,Ci,Cj,AA,AZ]) ((by repeat (first|exact Sub.nil|refine Ap rfl rfl ?_|refine At ?_|refine Au rfl ?_|refine Av rfl ?_)))⟩|exact⟨d.nodes.length - (j+1),_,by omega,⟨j+1,acc++[n],by omega,rfl,(by rw[hk,hacc]),by simp;omega, .inr ⟨cap3,by simpa using hcp3,by rw[List.length_append];rfl⟩⟩,GE [0,1,2,3,5] R4 (by decide) (.cons _ _ _ _ _ rfl (N8 (by rfl) _ _ _ _ _) (.cons _ _ _ _ _ rfl (Lj _ _ _) (.cons _ _ _ _ _ rfl rfl (.cons _ _ _ _ _ rfl rfl (.cons _ _ _ _ _ rfl (Lj _ _ _) .nil))))) (by repeat (first|exact SubK.nil|refine SubK.cons _ _ _ _ rfl (A7 _) ?_))⟩
  rw[if_pos hc5,List.append_nil]at hk;refine DH (h:=?_)
  first|exact⟨d.nodes.length - (j+1),_,by omega,⟨j+1,acc++[n],by omega,rfl,(by rw[hk,hacc]),by simp;omega, .inr ⟨cap2,by simpa using hg,by rw[List.length_append];rfl⟩⟩,Ao 5 0 rfl rfl rfl (by simp[AW,AQ,AP,Ci,Cj,AA,AZ]) ((by repeat (first|exact Sub.nil|refine Ap rfl rfl ?_|refine At ?_|refine Au rfl ?_|refine Av rfl ?_)))⟩|exact⟨d.nodes.length - (j+1),_,by omega,⟨j+1,acc++[n],by omega,rfl,(by rw[hk,hacc]),by simp;omega, .inr ⟨cap3,by simpa using hcp3,by rw[List.length_append];rfl⟩⟩,GE [0,1,2,3,5] R4 (by decide) (.cons _ _ _ _ _ rfl (N8 (by rfl) _ _ _ _ _) (.cons _ _ _ _ _ rfl (Lj _ _ _) (.cons _ _ _ _ _ rfl rfl (.cons _ _ _ _ _ rfl rfl (.cons _ _ _ _ _ rfl (Lj _ _ _) .nil))))) (by repeat (first|exact SubK.nil|refine SubK.cons _ _ _ _ rfl (A7 _) ?_))⟩|exact⟨d.nodes.length - (j+1),_,by omega,⟨j+1,acc,by omega,rfl,(by rw[hk,hacc]),by omega, .inr ⟨cap2,hcp,rfl⟩⟩,Ao 5 0 rfl rfl rfl (by simp[AW,AQ,AP,Ci,Cj,AA,AZ]) ((by repeat (first|exact Sub.nil|refine Ap rfl rfl ?_|refine At ?_|refine Au rfl ?_|refine Av rfl ?_)))⟩
 obtain rfl:j=d.nodes.length:=by omega
 rw[List.take_length]at hacc;refine CJ (h:=Aw (f_ (h:=?_)));refine A3 rfl (Dl rfl rfl rfl ?_);refine Fx (h:=?_);refine A3 rfl (Dx (m:=q) rfl rfl ha hql ?_);refine f_ (h:=?_);refine ME (Ed rfl rfl rfl rfl rfl rfl (hset _ _) (by repeat constructor) ?_);refine C4 (?_);refine Qf (r:= .tup []) none (h4:=(by simp[AW,AQ,AP,Ci,Cj,AA])) (h5:=(A7 _)) (h6:=⟨rfl,rfl, .inr ⟨hl,cap2,by rw[hacc];exact hcp,by rw[hacc];rfl⟩⟩)
end
end Go.Proofs.YtbgnigjfkbmceaaGreatDoor
namespace Go.Proofs.YtbgnigjfkbmceaaGreatDoor
theorem Wh:∀x:List UInt8,Op.bytesLess x x=false
 |[]=>rfl
 |a::x=>by simp[Op.bytesLess,Wh x]
theorem Wi:∀x y z:List UInt8,Op.bytesLess x y=true→Op.bytesLess y z=true→Op.bytesLess x z=true
 |_,[],_,h,_=>by cases ‹List UInt8›<;>simp[Op.bytesLess]at h
 |_,_::_,[],_,h=>by simp[Op.bytesLess]at h
 |[],_::_,_::_,_,_=>rfl
 |a::x,b::y,c::z,h,k=>by
   simp only[Op.bytesLess,Bool.or_eq_true,Bool.and_eq_true,decide_eq_true_iff,beq_iff_eq]at h k ⊢;rcases h with h|⟨rfl,h⟩
   ·rcases k with k|⟨rfl,k⟩
    ·exact .inl (UInt8.lt_trans h k)
    exact .inl h
   rcases k with k|⟨rfl,k⟩
   ·exact .inl k
   exact .inr ⟨rfl,Wi x y z h k⟩
theorem Wj:∀x y:List UInt8,Op.bytesLess x y=false→x≠y→Op.bytesLess y x=true
 |[],[],_,h=>absurd rfl h
 |[],_::_,h,_=>by simp[Op.bytesLess]at h
 |_::_,[],_,_=>rfl
 |a::x,b::y,h,k=>by
   simp only[Op.bytesLess,Bool.or_eq_false_iff,decide_eq_false_iff_not,Bool.and_eq_false_iff,beq_eq_false_iff_ne]at h;simp only[Op.bytesLess,Bool.or_eq_true,Bool.and_eq_true,decide_eq_true_iff,beq_iff_eq];by_cases e:a=b
   ·subst e;right;refine⟨rfl,Wj x y ?_ (fun e=>k (by rw[e]))⟩;rcases h.2 with h|h
    ·exact absurd rfl h
    exact h
   left;have h1:¬a.toNat<b.toNat:=h.1;have h2:a.toNat≠b.toNat:=fun e'=>e (UInt8.toNat_inj.1 e');show b.toNat<a.toNat;omega
theorem fK(a:AE):Gy a a=false:=Wh _
theorem fL{a b c:AE}(h:Gy a b=true)(k:Gy b c=true):Gy a c=true:=Wi _ _ _ h k
theorem Wk{a b:AE}(h:Gy a b=false)(k:a≠b):Gy b a=true:=by
 refine Wj _ _ h fun e=>k ?_;have:=Qk a b;rw[e]at this
 simpa using this
theorem Oz{a b:AE}(h:Gy a b=true):a≠b:=by rintro rfl;rw[fK]at h;cases h
def Hg(es:List BQ):Prop:=es.Pairwise fun a b=>Gy a.1 b.1=true
def Fl(name:AE)(es:List BQ):List BQ:=es.filter fun e=>decide (e.1≠name)
theorem P0(name:AE)(ino:Int):∀es:List BQ,JN name ino true es=Fl name es
 |[]=>rfl
 |e::r=>by
   unfold JN;simp only[Bool.not_true,Bool.false_and,Bool.true_or];rw[P0 name ino r];unfold Fl;rw[List.filter_cons];by_cases h:e.1=name<;>simp[h]
theorem LE(es:List BQ)(name:AE):D4 es name 0=Fl name es:=P0 name 0 es
theorem TF(name:AE)(ino:Int):∀es:List BQ,(JN name ino false es).Perm ((name,ino)::Fl name es)
 |[]=>by simp[JN,Fl]
 |e::r=>by
   unfold JN;simp only[Bool.not_false,Bool.true_and,Bool.false_or]
   cases hlt:Gy e.1 name with
   |false=>
     simp only[Bool.not_false,if_true];rw[P0 name ino r];unfold Fl;rw[List.filter_cons];by_cases h:e.1=name<;>simp[h]
   |true=>
     have hne:=Oz hlt;have ih:=TF name ino r;unfold Fl at ih ⊢;rw[List.filter_cons];simp only[Bool.not_true,Bool.false_eq_true,if_false,List.nil_append,hne,ne_eq,not_false_eq_true,decide_true,if_true];exact(List.Perm.cons e ih).trans (List.Perm.swap _ _ _)
theorem Lm(es:List BQ)(name:AE){ino:Int}(h:ino≠0):(D4 es name ino).Perm ((name,ino)::Fl name es):=by
 unfold D4;rw[show(ino==0)=false by simpa using h];exact TF name ino es
theorem TG{es:List BQ}(h:Hg es)(name:AE):Hg (Fl name es):=List.Pairwise.filter _ h
theorem Wl(name:AE)(ino:Int):∀es:List BQ,Hg es→Hg (JN name ino false es)
 |[],_=>by simp[JN,Hg]
 |e::r,h=>by
   obtain⟨h1,h2⟩:=List.pairwise_cons.1 h;unfold JN;simp only[Bool.not_false,Bool.true_and,Bool.false_or]
   cases hlt:Gy e.1 name with
   |false=>
     simp only[Bool.not_false,if_true];rw[P0 name ino r]
     have hr:∀x∈Fl name r,Gy name x.1=true:=fun x hx=>by
      obtain⟨hx1,_⟩:=List.mem_filter.1 hx;have h3:=h1 x hx1;by_cases he:e.1=name
      ·rw[←he];exact h3
      exact fL (Wk hlt he) h3
     by_cases he:e.1=name
     ·simp only[he,if_true,List.nil_append,List.cons_append];exact List.pairwise_cons.2 ⟨hr,TG h2 name⟩
     simp only[he,if_false,List.cons_append,List.nil_append];refine List.pairwise_cons.2 ⟨?_,List.pairwise_cons.2 ⟨fun x hx=>h1 x (List.mem_filter.1 hx).1,TG h2 name⟩⟩;intro x hx;rcases List.mem_cons.1 hx with rfl|hx
     ·exact Wk hlt he
     exact hr x hx
   |true=>
     have hne:=Oz hlt;simp only[Bool.not_true,Bool.false_eq_true,if_false,List.nil_append,hne,List.cons_append];refine List.pairwise_cons.2 ⟨fun x hx=>?_,Wl name ino r h2⟩;have hx':=(TF name ino r).mem_iff.1 hx;rcases List.mem_cons.1 hx' with rfl|hx'
     ·exact hlt
     exact h1 x (List.mem_filter.1 hx').1
theorem Nt{es:List BQ}(h:Hg es)(name:AE)(ino:Int):Hg (D4 es name ino):=by
 unfold D4
 cases (ino==0)with
 |true=>rw[P0];exact TG h name
 |false=>exact Wl name ino es h
def EK(es:List BQ)(name:AE):Option BQ:=es.find? fun e:BQ=>decide (e.1=name)
theorem Km{es:List BQ}{name:AE}{e:BQ}(h:EK es name=some e):e∈es∧e.1=name:=by
 have h1:=List.find?_some h;exact⟨List.mem_of_find?_eq_some h,by simpa using h1⟩
theorem R5{es:List BQ}{name:AE}(h:EK es name=none):∀e∈es,e.1≠name:=fun e he=>by
 have:=List.find?_eq_none.1 h e he
 simpa using this
theorem R6{es:List BQ}{name:AE}(h:EK es name=none):Fl name es=es:=by
 unfold Fl;rw[List.filter_eq_self];intro e he
 simpa using R5 h e he
theorem R7{es:List BQ}(hs:Hg es){name:AE}{e:BQ}(h:EK es name=some e):es.Perm (e::Fl name es):=by
 induction es with
 |nil=>simp[EK]at h
 |cons x r ih=>
   obtain⟨h1,h2⟩:=List.pairwise_cons.1 hs;unfold EK at h;rw[List.find?_cons]at h;unfold Fl;rw[List.filter_cons];by_cases hx:x.1=name
   ·simp only[hx,decide_true,Option.some.injEq]at h;subst h
    have:r.filter (fun e=>decide (e.1≠name))=r:=by
     rw[List.filter_eq_self];intro y hy;have:=Oz (h1 y hy);simp only[ne_eq,decide_not,Bool.not_eq_true',decide_eq_false_iff_not];rw[←hx];exact fun e=>this e.symm
    rw[this];simp[hx]
   simp only[hx,decide_false]at h;have:=ih h2 h;simp only[ne_eq,hx,not_false_eq_true,decide_true,if_true];exact(List.Perm.cons x this).trans (List.Perm.swap _ _ _)
theorem R8{i:Int}{a b:List BQ}(h:a.Perm b):DJ i a=DJ i b:=h.countP_eq _
theorem R9(i:Int)(e:BQ)(es:List BQ):DJ i (e::es)=DJ i es+(if e.2=i then 1 else 0):=by
 unfold DJ;rw[List.countP_cons];by_cases h:e.2=i<;>simp[h]
theorem fM{i:Int}{es:List BQ}:0<DJ i es↔∃e∈es,e.2=i:=by
 unfold DJ;rw[List.countP_pos_iff];simp
theorem TH{i:Int}{ns:List Nod}:0<Bj i ns↔∃n∈ns,∃e∈n.entries,e.2=i:=by
 unfold Bj;rw[fM];constructor
 ·rintro⟨e,he,h⟩;obtain⟨n,hn,he⟩:=List.mem_flatMap.1 he;exact⟨n,hn,e,he,h⟩
 rintro⟨n,hn,e,he,h⟩;exact⟨e,List.mem_flatMap.2 ⟨n,hn,he⟩,h⟩
theorem Wm(i:Int)(a b:List Nod):Bj i (a++b)=Bj i a+Bj i b:=by
 unfold Bj DJ;rw[List.flatMap_append,List.countP_append]
theorem P3(i:Int)(n:Nod)(b:List Nod):Bj i (n::b)=DJ i n.entries+Bj i b:=by
 unfold Bj DJ;rw[List.flatMap_cons,List.countP_append]
def Cv(ns:List Nod)(ino:Int)(g:Nod→Nod):List Nod:=ns.map fun n=>if n.ino=ino then g n else n
def Ey(ns:List Nod):Prop:=ns.Pairwise fun a b=>a.ino<b.ino
theorem EL{ns:List Nod}(h:Ey ns){a b:Nod}(ha:a∈ns)(hb:b∈ns)(e:a.ino=b.ino):a=b:=by
 induction ns with
 |nil=>cases ha
 |cons x r ih=>
   obtain⟨h1,h2⟩:=List.pairwise_cons.1 h;rcases List.mem_cons.1 ha with rfl|ha
   ·rcases List.mem_cons.1 hb with rfl|hb
    ·rfl
    have:=h1 b hb;omega
   rcases List.mem_cons.1 hb with hb|hb
   ·subst hb;have:=h1 a (by assumption);omega
   exact ih h2 (by assumption) hb
theorem fN{ns:List Nod}(h:Ey ns){n:Nod}(hn:n∈ns):∃A B,ns=A++n::B∧(∀m∈A,m.ino≠n.ino)∧∀m∈B,m.ino≠n.ino:=by
 obtain⟨A,B,rfl⟩:=List.append_of_mem hn;obtain⟨h1,h2,h3⟩:=List.pairwise_append.1 h;obtain⟨h4,_⟩:=List.pairwise_cons.1 h2;exact⟨A,B,rfl,fun m hm=>by have:=h3 m hm n (by simp);omega,fun m hm=>by have:=h4 m hm;omega⟩
theorem fO{A B:List Nod}{n:Nod}(hA:∀m∈A,m.ino≠n.ino)(hB:∀m∈B,m.ino≠n.ino)(g:Nod→Nod):Cv (A++n::B) n.ino g=A++g n::B:=by
 unfold Cv;rw[List.map_append,List.map_cons,if_pos rfl]
 congr 1
 ·rw[List.map_congr_left (g:=id) fun m hm=>by simp[hA m hm]];simp
 congr 1
 rw[List.map_congr_left (g:=id) fun m hm=>by simp[hB m hm]];simp
theorem Js{ns:List Nod}{ino:Int}{g:Nod→Nod}{m:Nod}:m∈Cv ns ino g↔∃n∈ns,m=if n.ino=ino then g n else n:=by
 unfold Cv;rw[List.mem_map];constructor
 ·rintro⟨n,hn,rfl⟩;exact⟨n,hn,rfl⟩
 rintro⟨n,hn,rfl⟩;exact⟨n,hn,rfl⟩
theorem fP{ns:List Nod}{ino:Int}{g:Nod→Nod}(hg:∀n,(g n).ino=n.ino):(Cv ns ino g).map (·.ino)=ns.map (·.ino):=by
 unfold Cv;rw[List.map_map];apply List.map_congr_left;intro n _;simp only[Function.comp];split
 ·exact hg n
 rfl
theorem TJ{ns:List Nod}:Ey ns↔(ns.map (·.ino)).Pairwise (· < ·):=by
 unfold Ey;rw[List.pairwise_map]
theorem Wn{ns:List Nod}(h:Ey ns)(ino:Int){g:Nod→Nod}(hg:∀n,(g n).ino=n.ino):Ey (Cv ns ino g):=by
 rw[TJ]at h ⊢;rw[fP hg];exact h
theorem TK{ns:List Nod}(h:Ey ns){n:Nod}(hn:n∈ns)(g:Nod→Nod)(i:Int):Bj i (Cv ns n.ino g)+DJ i n.entries=Bj i ns+DJ i (g n).entries:=by
 obtain⟨A,B,rfl,hA,hB⟩:=fN h hn;rw[fO hA hB];simp only[Wm,P3];omega
end Go.Proofs.YtbgnigjfkbmceaaGreatDoor
namespace Go.Proofs.YtbgnigjfkbmceaaGreatDoor
structure VD(d:Dvc):Prop where
 len:d.nodes.length≤16
 next2:2≤d.next
 nextM:d.next≤1073741824
 root:∃r rest,d.nodes=r::rest∧r.ino=1∧r.kind=2∧r.parent=1
 asc:Ey d.nodes
 lt:∀n∈d.nodes,n.ino<d.next
 plain:∀n∈d.nodes,Hd n=true
 leaf:∀n∈d.nodes,n.kind≠2→n.parent=0∧n.entries=[]
 many:∀n∈d.nodes,n.entries.length≤12
 sorted:∀n∈d.nodes,Hg n.entries
 ent:∀n∈d.nodes,∀e∈n.entries,Hc e.1=true∧e.2≠1∧∃m∈d.nodes,m.ino=e.2
 link:∀n∈d.nodes,n.ino≠1→0<Bj n.ino d.nodes
 one:∀n∈d.nodes,n.ino≠1→n.kind=2→Bj n.ino d.nodes=1
 par:∀n∈d.nodes,n.ino≠1→n.kind=2→∃p∈d.nodes,p.ino=n.parent∧∃e∈p.entries,e.2=n.ino
 rank:∃rk:Int→Nat,∀n∈d.nodes,n.ino≠1→n.kind=2→rk n.parent<rk n.ino
theorem VD.pos{d:Dvc}(h:VD d){n:Nod}(hn:n∈d.nodes):1≤n.ino:=by
 obtain⟨r,rest,hr,h1,_⟩:=h.root;have ha:=h.asc;rw[hr]at hn ha;rcases List.mem_cons.1 hn with rfl|hn
 ·omega
 have:=(List.pairwise_cons.1 ha).1 n hn;omega
theorem VD.rootMem{d:Dvc}(h:VD d):∃r∈d.nodes,r.ino=1∧r.kind=2∧r.parent=1:=by
 obtain⟨r,rest,hr,h1,h2,h3⟩:=h.root;exact⟨r,by rw[hr];simp,h1,h2,h3⟩
theorem VD.isRoot{d:Dvc}(h:VD d){n:Nod}(hn:n∈d.nodes)(h1:n.ino=1):n.kind=2∧n.parent=1:=by
 obtain⟨r,hr,h2,h3,h4⟩:=h.rootMem;obtain rfl:=EL h.asc hn hr (by omega);exact⟨h3,h4⟩
theorem VD.dirOf{d:Dvc}(h:VD d){n:Nod}(hn:n∈d.nodes){e:BQ}(he:e∈n.entries):n.kind=2:=by
 apply Classical.byContradiction;intro hk;rw[(h.leaf n hn hk).2]at he;cases he
def Nu(name:AE)(ino:Int)(n:Nod):Nod:={n with entries:=D4 n.entries name ino}
def Bc(ns:List Nod)(p:Int)(name:AE)(ino:Int):List Nod:=Cv ns p (Nu name ino)
structure AsWas(p:Int)(name:AE)(to_:Int)(n m:Nod):Prop where
 ino:m.ino=n.ino
 kind:m.kind=n.kind
 parent:m.parent=n.parent
 plain:Hd m=Hd n
 ents:m.entries=if n.ino=p then D4 n.entries name to_ else n.entries
theorem TL(p:Int)(name:AE)(ino:Int)(n:Nod):AsWas p name ino n (if n.ino=p then Nu name ino n else n):=by
 by_cases h:n.ino=p
 ·simp only[h,if_true];exact⟨h ▸ rfl,rfl,rfl,rfl,by simp[h,Nu]⟩
 simp only[h,if_false];exact⟨rfl,rfl,rfl,rfl,by simp[h]⟩
theorem GO{ns:List Nod}{p:Int}{name:AE}{ino:Int}{m:Nod}(h:m∈Bc ns p name ino):∃n∈ns,AsWas p name ino n m:=by
 obtain⟨n,hn,rfl⟩:=Js.1 h;exact⟨n,hn,TL p name ino n⟩
theorem MU{ns:List Nod}(p:Int)(name:AE)(ino:Int){n:Nod}(h:n∈ns):∃m∈Bc ns p name ino,AsWas p name ino n m:=⟨_,Js.2 ⟨n,h,rfl⟩,TL p name ino n⟩
theorem Nv{ns:List Nod}(h:Ey ns)(p:Int)(name:AE)(ino:Int):Ey (Bc ns p name ino):=Wn h p fun _=>rfl
theorem TM(ns:List Nod)(p:Int)(name:AE)(ino:Int):(Bc ns p name ino).length=ns.length:=by simp[Bc,Cv]
theorem P4{ns:List Nod}(h:Ey ns){n0:Nod}(hn:n0∈ns)(name:AE)(ino i:Int):Bj i (Bc ns n0.ino name ino)+DJ i n0.entries=Bj i ns+DJ i (D4 n0.entries name ino):=TK h hn (Nu name ino) i
theorem TN{ns:List Nod}(p:Int)(name:AE)(ino:Int)(h:∃r rest,ns=r::rest∧r.ino=1∧r.kind=2∧r.parent=1):∃r rest,Bc ns p name ino=r::rest∧r.ino=1∧r.kind=2∧r.parent=1:=by
 obtain⟨r,rest,rfl,h1,h2,h3⟩:=h;have:=TL p name ino r;exact⟨_,_,rfl,this.ino.trans h1,this.kind.trans h2,this.parent.trans h3⟩
def b1(p:Prop)[Decidable p]:Nat:=if p then 1 else 0
theorem Wo{es:List BQ}(hs:Hg es){name:AE}{e:BQ}(h:EK es name=some e)(i:Int):DJ i (D4 es name 0)+b1 (e.2=i)=DJ i es:=by
 rw[LE,R8 (R7 hs h),R9];rfl
theorem TO{es:List BQ}{name:AE}(h:EK es name=none){ino:Int}(h0:ino≠0)(i:Int):DJ i (D4 es name ino)=DJ i es+b1 (ino=i):=by
 rw[R8 (Lm es name h0),R9,R6 h];rfl
theorem fQ{es:List BQ}(hs:Hg es){name:AE}{e:BQ}(h:EK es name=some e){ino:Int}(h0:ino≠0)(i:Int):DJ i (D4 es name ino)+b1 (e.2=i)=DJ i es+b1 (ino=i):=by
 rw[R8 (Lm es name h0),R8 (R7 hs h),R9,R9];show DJ i _+b1 (ino=i)+b1 (e.2=i)=DJ i _+b1 (e.2=i)+b1 (ino=i);omega
theorem P5{es:List BQ}{name:AE}{ino:Int}{e:BQ}(h:e∈D4 es name ino):e∈es∨(e=(name,ino)∧ino≠0):=by
 by_cases h0:ino=0
 ·subst h0;rw[LE]at h;exact .inl (List.mem_filter.1 h).1
 rcases List.mem_cons.1 ((Lm es name h0).mem_iff.1 h)with h|h
 ·exact .inr ⟨h,h0⟩
 exact .inl (List.mem_filter.1 h).1
theorem P6{es:List BQ}{name:AE}{ino:Int}{e:BQ}(h:e∈es)(hn:e.1≠name):e∈D4 es name ino:=by
 have hw:e∈Fl name es:=List.mem_filter.2 ⟨h,by simpa using hn⟩;by_cases h0:ino=0
 ·subst h0;rw[LE];exact hw
 exact(Lm es name h0).mem_iff.2 (List.mem_cons_of_mem _ hw)
theorem Wp{es:List BQ}{name:AE}{ino:Int}(h0:ino≠0):(name,ino)∈D4 es name ino:=(Lm es name h0).mem_iff.2 (by simp)
theorem P7{p:Prop}[Decidable p](h:p):b1 p=1:=if_pos h
theorem NA{p:Prop}[Decidable p](h:¬p):b1 p=0:=if_neg h
theorem VD.cnt_next{d:Dvc}(h:VD d){i:Int}(hi:d.next≤i):Bj i d.nodes=0:=by
 apply Classical.byContradiction;intro hc;obtain⟨n,hn,e,he,rfl⟩:=TH.1 (Nat.pos_of_ne_zero hc);obtain⟨m,hm,e2⟩:=(h.ent n hn e he).2.2;have:=h.lt m hm;omega
theorem VD.make{d:Dvc}(h:VD d){n0:Nod}(hn0:n0∈d.nodes)(hk:n0.kind=2){name:AE}(hname:Hc name=true)(hnew:EK n0.entries name=none){n:Nod}(hp:Hd n=true)(hlen:d.nodes.length<16)(hnx:d.next<1073741824)(hfull:n0.entries.length<12):
    VD ⟨d.next+1,Bc d.nodes n0.ino name d.next++[G2 n d.next n0.ino]⟩:=by
 have hnext0:d.next≠0:=by have:=h.next2;omega
 have hcnt:∀i,Bj i (Bc d.nodes n0.ino name d.next++[G2 n d.next n0.ino])=Bj i d.nodes+b1 (d.next=i):=by
  intro i;have h1:=P4 h.asc hn0 name d.next i;rw[TO hnew hnext0]at h1;rw[Wm,P3];have h2:DJ i (G2 n d.next n0.ino).entries=0:=rfl;have h3:Bj i []=0:=rfl;omega
 have hmem:∀m,m∈Bc d.nodes n0.ino name d.next++[G2 n d.next n0.ino]→(∃n'∈d.nodes,AsWas n0.ino name d.next n' m)∨m=G2 n d.next n0.ino:=by
  intro m hm;rcases List.mem_append.1 hm with hm|hm
  ·exact .inl (GO hm)
  exact .inr (by simpa using hm)
 have hto:∀n'∈d.nodes,∃m∈Bc d.nodes n0.ino name d.next++[G2 n d.next n0.ino],AsWas n0.ino name d.next n' m:=fun n' hn'=>by
  obtain⟨m,hm,hw⟩:=MU n0.ino name d.next hn';exact⟨m,List.mem_append_left _ hm,hw⟩
 have hold:∀{n' m:Nod} {e:BQ},AsWas n0.ino name d.next n' m→n'∈d.nodes→e∈n'.entries→e∈m.entries:=by
  intro n' m e hw hn' he;rw[hw.ents];split
  ·rename_i heq;obtain rfl:=EL h.asc hn' hn0 heq;exact P6 he (R5 hnew e he)
  exact he
 refine⟨?_,?_,?_,?_,?_,?_,?_,?_,?_,?_,?_,?_,?_,?_,?_⟩
 ·show(Bc d.nodes n0.ino name d.next++[G2 n d.next n0.ino]).length≤16;rw[List.length_append,TM];simp;omega
 ·show 2≤d.next+1;have:=h.next2;omega
 ·show d.next+1≤1073741824;omega
 ·obtain⟨r,rest,hr,h1⟩:=TN n0.ino name d.next h.root;exact⟨r,rest++[G2 n d.next n0.ino],by show _++_=_;rw[hr];rfl,h1⟩
 ·refine List.pairwise_append.2 ⟨Nv h.asc _ _ _,by simp,fun a ha b hb=>?_⟩;obtain⟨n',hn',hw⟩:=GO ha;simp at hb;subst hb;have:=h.lt n' hn';rw[hw.ino];exact this
 ·intro m hm;show m.ino<d.next+1;rcases hmem m hm with⟨n',hn',hw⟩|rfl
  ·have:=h.lt n' hn';rw[hw.ino];omega
  show d.next<d.next+1;omega
 ·intro m hm;rcases hmem m hm with⟨n',hn',hw⟩|rfl
  ·rw[hw.plain];exact h.plain n' hn'
  exact hp
 ·intro m hm hk';rcases hmem m hm with⟨n',hn',hw⟩|rfl
  ·rw[hw.kind]at hk';obtain⟨h1,h2⟩:=h.leaf n' hn' hk';refine⟨hw.parent.trans h1,?_⟩;rw[hw.ents,if_neg,h2];intro e;obtain rfl:=EL h.asc hn' hn0 e;exact hk' hk
  exact⟨if_neg hk',rfl⟩
 ·intro m hm;rcases hmem m hm with⟨n',hn',hw⟩|rfl
  ·rw[hw.ents];split
   ·rename_i heq;obtain rfl:=EL h.asc hn' hn0 heq;rw[(Lm _ name hnext0).length_eq,List.length_cons,R6 hnew];omega
   exact h.many n' hn'
  exact BH _
 ·intro m hm;rcases hmem m hm with⟨n',hn',hw⟩|rfl
  ·rw[hw.ents];split
   ·exact Nt (h.sorted n' hn') _ _
   exact h.sorted n' hn'
  exact List.Pairwise.nil
 ·intro m hm e he;rcases hmem m hm with⟨n',hn',hw⟩|rfl
  ·have key:(e∈n'.entries)∨e=(name,d.next):=by
      rw[hw.ents]at he;split at he
      ·rcases P5 he with h1|h1
       ·exact .inl h1
       exact .inr h1.1
      exact .inl he
   rcases key with h1|rfl
   ·obtain⟨k1,k2,q,hq,k3⟩:=h.ent n' hn' e h1;obtain⟨m',hm',hw'⟩:=hto q hq;exact⟨k1,k2,m',hm',hw'.ino.trans k3⟩
   exact⟨hname,by show d.next≠1;have:=h.next2;omega,G2 n d.next n0.ino,by simp,rfl⟩
  cases he
 ·intro m hm h1;rw[hcnt];rcases hmem m hm with⟨n',hn',hw⟩|rfl
  ·have:=h.link n' hn' (by rw[←hw.ino];exact h1);rw[hw.ino];omega
  have:b1 (d.next=(G2 n d.next n0.ino).ino)=1:=P7 rfl;omega
 ·intro m hm h1 h2;rw[hcnt];rcases hmem m hm with⟨n',hn',hw⟩|rfl
  ·have:=h.one n' hn' (by rw[←hw.ino];exact h1) (by rw[←hw.kind];exact h2);rw[hw.ino,this,NA (by have:=h.lt n' hn';omega)]
  have e1:b1 (d.next=(G2 n d.next n0.ino).ino)=1:=P7 rfl;have e2:Bj (G2 n d.next n0.ino).ino d.nodes=0:=h.cnt_next (Int.le_refl _);omega
 ·intro m hm h1 h2;rcases hmem m hm with⟨n',hn',hw⟩|rfl
  ·obtain⟨p,hp',k1,e,he,k2⟩:=h.par n' hn' (by rw[←hw.ino];exact h1) (by rw[←hw.kind];exact h2);obtain⟨q,hq,hwq⟩:=hto p hp';exact⟨q,hq,by rw[hwq.ino,hw.parent];exact k1,e,hold hwq hp' he,by rw[hw.ino];exact k2⟩
  obtain⟨q,hq,hwq⟩:=hto n0 hn0;refine⟨q,hq,?_,(name,d.next),?_,rfl⟩
  ·rw[hwq.ino];exact(if_pos h2).symm
  rw[hwq.ents,if_pos rfl];exact Wp hnext0
 obtain⟨rk,hrk⟩:=h.rank;refine⟨fun i=>if i=d.next then rk n0.ino+1 else rk i,?_⟩;intro m hm h1 h2;rcases hmem m hm with⟨n',hn',hw⟩|rfl
 ·have hlt:=h.lt n' hn';have h1':n'.ino≠1:=by rw[←hw.ino];exact h1
  have h2':n'.kind=2:=by rw[←hw.kind];exact h2
  obtain⟨p,hp',k1,_⟩:=h.par n' hn' h1' h2';have hlp:=h.lt p hp';simp only;rw[hw.ino,hw.parent,if_neg (by omega),if_neg (by omega)];exact hrk n' hn' h1' h2'
 have e1:(G2 n d.next n0.ino).parent=n0.ino:=if_pos h2;have e2:(G2 n d.next n0.ino).ino=d.next:=rfl;have hl:=h.lt n0 hn0;simp only;rw[e1,e2,if_pos rfl,if_neg (by omega)];omega
theorem VD.linked{d:Dvc}(h:VD d){n0 a:Nod}(hn0:n0∈d.nodes)(hk:n0.kind=2)(ha:a∈d.nodes)(hka:a.kind≠2){name:AE}(hname:Hc name=true)(hnew:EK n0.entries name=none)(hfull:n0.entries.length<12):
    VD ⟨d.next,Bc d.nodes n0.ino name a.ino⟩:=by
 have ha0:a.ino≠0:=by have:=h.pos ha;omega
 have ha1:a.ino≠1:=fun e=>hka (h.isRoot ha e).1
 have hcnt:∀i,Bj i (Bc d.nodes n0.ino name a.ino)=Bj i d.nodes+b1 (a.ino=i):=by
  intro i;have h1:=P4 h.asc hn0 name a.ino i;rw[TO hnew ha0]at h1;omega
 have hto:=fun n' (hn':n'∈d.nodes)=>MU n0.ino name a.ino hn'
 have hold:∀{n' m:Nod} {e:BQ},AsWas n0.ino name a.ino n' m→n'∈d.nodes→e∈n'.entries→e∈m.entries:=by
  intro n' m e hw hn' he;rw[hw.ents];split
  ·rename_i heq;obtain rfl:=EL h.asc hn' hn0 heq;exact P6 he (R5 hnew e he)
  exact he
 refine⟨by rw[TM];exact h.len,h.next2,h.nextM,TN _ _ _ h.root,Nv h.asc _ _ _,?_,?_,?_,?_,?_,?_,?_,?_,?_,?_⟩
 ·intro m hm;obtain⟨n',hn',hw⟩:=GO hm;rw[hw.ino];exact h.lt n' hn'
 ·intro m hm;obtain⟨n',hn',hw⟩:=GO hm;rw[hw.plain];exact h.plain n' hn'
 ·intro m hm hk';obtain⟨n',hn',hw⟩:=GO hm;rw[hw.kind]at hk';obtain⟨h1,h2⟩:=h.leaf n' hn' hk';refine⟨hw.parent.trans h1,?_⟩;rw[hw.ents,if_neg,h2];intro e;obtain rfl:=EL h.asc hn' hn0 e;exact hk' hk
 ·intro m hm;obtain⟨n',hn',hw⟩:=GO hm;rw[hw.ents];split
  ·rename_i heq;obtain rfl:=EL h.asc hn' hn0 heq;rw[(Lm _ name ha0).length_eq,List.length_cons,R6 hnew];omega
  exact h.many n' hn'
 ·intro m hm;obtain⟨n',hn',hw⟩:=GO hm;rw[hw.ents];split
  ·exact Nt (h.sorted n' hn') _ _
  exact h.sorted n' hn'
 ·intro m hm e he;obtain⟨n',hn',hw⟩:=GO hm
  have key:(e∈n'.entries)∨e=(name,a.ino):=by
   rw[hw.ents]at he;split at he
   ·rcases P5 he with h1|h1
    ·exact .inl h1
    exact .inr h1.1
   exact .inl he
  rcases key with h1|rfl
  ·obtain⟨k1,k2,q,hq,k3⟩:=h.ent n' hn' e h1;obtain⟨m',hm',hw'⟩:=hto q hq;exact⟨k1,k2,m',hm',hw'.ino.trans k3⟩
  obtain⟨m',hm',hw'⟩:=hto a ha;exact⟨hname,ha1,m',hm',hw'.ino⟩
 ·intro m hm h1;obtain⟨n',hn',hw⟩:=GO hm;rw[hcnt,hw.ino];have:=h.link n' hn' (by rw[←hw.ino];exact h1);omega
 ·intro m hm h1 h2;obtain⟨n',hn',hw⟩:=GO hm;rw[hcnt,hw.ino,h.one n' hn' (by rw[←hw.ino];exact h1) (by rw[←hw.kind];exact h2),NA];intro e;obtain rfl:=EL h.asc hn' ha e.symm;exact hka (by rw[←hw.kind];exact h2)
 ·intro m hm h1 h2;obtain⟨n',hn',hw⟩:=GO hm;obtain⟨p,hp',k1,e,he,k2⟩:=h.par n' hn' (by rw[←hw.ino];exact h1) (by rw[←hw.kind];exact h2);obtain⟨q,hq,hwq⟩:=hto p hp';exact⟨q,hq,by rw[hwq.ino,hw.parent];exact k1,e,hold hwq hp' he,by rw[hw.ino];exact k2⟩
 obtain⟨rk,hrk⟩:=h.rank;refine⟨rk,fun m hm h1 h2=>?_⟩;obtain⟨n',hn',hw⟩:=GO hm;rw[hw.ino,hw.parent];exact hrk n' hn' (by rw[←hw.ino];exact h1) (by rw[←hw.kind];exact h2)
def G4(mode uid gid:Int)(n:Nod):Nod:={n with mode:=mode,uid:=uid,gid:=gid}
theorem VD.attrs{d:Dvc}(h:VD d){n0:Nod}(hn0:n0∈d.nodes)(mode uid gid:Int)(hp:Hd (G4 mode uid gid n0)=true):VD ⟨d.next,Cv d.nodes n0.ino (G4 mode uid gid)⟩:=by
 have hsame:∀n:Nod,(if n.ino=n0.ino then G4 mode uid gid n else n).ino=n.ino∧(if n.ino=n0.ino then G4 mode uid gid n else n).kind=n.kind∧(if n.ino=n0.ino then G4 mode uid gid n else n).parent=n.parent∧(if n.ino=n0.ino then G4 mode uid gid n else n).entries=n.entries:=by
  intro n;split<;>exact⟨rfl,rfl,rfl,rfl⟩
 have hcnt:∀i,Bj i (Cv d.nodes n0.ino (G4 mode uid gid))=Bj i d.nodes:=by
  intro i;have h1:Bj i (Cv d.nodes n0.ino (G4 mode uid gid))+DJ i n0.entries=Bj i d.nodes+DJ i n0.entries:=TK h.asc hn0 (G4 mode uid gid) i;omega
 have hto:∀n∈d.nodes,∃m∈Cv d.nodes n0.ino (G4 mode uid gid),m.ino=n.ino∧m.kind=n.kind∧m.parent=n.parent∧m.entries=n.entries:=fun n hn=>⟨_,Js.2 ⟨n,hn,rfl⟩,hsame n⟩;refine⟨by simpa[Cv]using h.len,h.next2,h.nextM,?_,Wn h.asc _ (fun _=>rfl),?_,?_,?_,?_,?_,?_,?_,?_,?_,?_⟩
 ·obtain⟨r,rest,hr,h1,h2,h3⟩:=h.root;obtain⟨s1,s2,s3,_⟩:=hsame r;refine⟨_,_,by show Cv d.nodes _ _=_;rw[hr];rfl,s1.trans h1,s2.trans h2,s3.trans h3⟩
 ·intro m hm;obtain⟨n,hn,rfl⟩:=Js.1 hm;rw[(hsame n).1];exact h.lt n hn
 ·intro m hm;obtain⟨n,hn,rfl⟩:=Js.1 hm;split
  ·rename_i e;obtain rfl:=EL h.asc hn hn0 e;exact hp
  exact h.plain n hn
 ·intro m hm hk;obtain⟨n,hn,rfl⟩:=Js.1 hm;obtain⟨s1,s2,s3,s4⟩:=hsame n;rw[s2]at hk;rw[s3,s4];exact h.leaf n hn hk
 ·intro m hm;obtain⟨n,hn,rfl⟩:=Js.1 hm;rw[(hsame n).2.2.2];exact h.many n hn
 ·intro m hm;obtain⟨n,hn,rfl⟩:=Js.1 hm;rw[(hsame n).2.2.2];exact h.sorted n hn
 ·intro m hm e he;obtain⟨n,hn,rfl⟩:=Js.1 hm;rw[(hsame n).2.2.2]at he;obtain⟨k1,k2,q,hq,k3⟩:=h.ent n hn e he;obtain⟨m',hm',s1,_⟩:=hto q hq;exact⟨k1,k2,m',hm',s1.trans k3⟩
 ·intro m hm h1;obtain⟨n,hn,rfl⟩:=Js.1 hm;rw[(hsame n).1]at h1 ⊢;rw[hcnt];exact h.link n hn h1
 ·intro m hm h1 h2;obtain⟨n,hn,rfl⟩:=Js.1 hm;rw[(hsame n).1]at h1 ⊢;rw[(hsame n).2.1]at h2;rw[hcnt];exact h.one n hn h1 h2
 ·intro m hm h1 h2;obtain⟨n,hn,rfl⟩:=Js.1 hm;obtain⟨s1,s2,s3,s4⟩:=hsame n;rw[s1]at h1 ⊢;rw[s2]at h2;rw[s3];obtain⟨p,hp',k1,e,he,k2⟩:=h.par n hn h1 h2;obtain⟨q,hq,t1,_,_,t4⟩:=hto p hp';exact⟨q,hq,t1.trans k1,e,by rw[t4];exact he,k2⟩
 obtain⟨rk,hrk⟩:=h.rank;refine⟨rk,fun m hm h1 h2=>?_⟩;obtain⟨n,hn,rfl⟩:=Js.1 hm;obtain⟨s1,s2,s3,s4⟩:=hsame n;rw[s1]at h1 ⊢;rw[s2]at h2;rw[s3];exact hrk n hn h1 h2
end Go.Proofs.YtbgnigjfkbmceaaGreatDoor
namespace Go.Proofs.YtbgnigjfkbmceaaGreatDoor
def C3(ns:List Nod)(i:Int):List Nod:=ns.filter fun m=>decide (m.ino≠i∨0<Bj i ns)
theorem P8{ns:List Nod}{i:Int}{m:Nod}:m∈C3 ns i↔m∈ns∧(m.ino≠i∨0<Bj i ns):=by
 unfold C3;rw[List.mem_filter,decide_eq_true_iff]
theorem Wq{ns:List Nod}{p:Nod→Bool}(h:∀m∈ns,p m=false→m.entries=[])(i:Int):Bj i (ns.filter p)=Bj i ns:=by
 induction ns with
 |nil=>rfl
 |cons x r ih=>
   rw[List.filter_cons];have ih':=ih fun m hm=>h m (by simp[hm])
   cases hp:p x with
   |true=>simp only[if_true];rw[P3,P3,ih']
   |false=>
     simp only[Bool.false_eq_true,if_false];rw[P3,h x (by simp) hp,ih'];simp[DJ]
theorem TP{es:List BQ}(hs:Hg es){a b:BQ}(ha:a∈es)(hb:b∈es)(e:a.1=b.1):a=b:=by
 induction es with
 |nil=>cases ha
 |cons x r ih=>
   obtain⟨h1,h2⟩:=List.pairwise_cons.1 hs;rcases List.mem_cons.1 ha with rfl|ha
   ·rcases List.mem_cons.1 hb with rfl|hb
    ·rfl
    exact absurd e (Oz (h1 b hb))
   rcases List.mem_cons.1 hb with hb|hb
   ·subst hb;exact absurd e.symm (Oz (h1 a (by assumption)))
   exact ih h2 (by assumption) hb
theorem VD.removed{d:Dvc}(h:VD d){n0 a:Nod}(hn0:n0∈d.nodes)(ha:a∈d.nodes)(hae:a.entries=[]){name:AE}{e0:BQ}(he0:EK n0.entries name=some e0)(hea:e0.2=a.ino):
    VD ⟨d.next,C3 (Bc d.nodes n0.ino name 0) a.ino⟩:=by
 obtain⟨hem,hen⟩:=Km he0;have ha1:a.ino≠1:=by rw[←hea];exact(h.ent n0 hn0 e0 hem).2.1
 have hk:n0.kind=2:=h.dirOf hn0 hem
 have hna:n0.ino≠a.ino:=fun e=>by
  obtain rfl:=EL h.asc hn0 ha e;rw[hae]at hem;cases hem
 have hcnt1:∀i,Bj i (Bc d.nodes n0.ino name 0)+b1 (a.ino=i)=Bj i d.nodes:=by
  intro i;have h1:=P4 h.asc hn0 name 0 i;have h2:=Wo (h.sorted n0 hn0) he0 i;rw[hea]at h2;omega
 have hcnt:∀i,Bj i (C3 (Bc d.nodes n0.ino name 0) a.ino)=Bj i (Bc d.nodes n0.ino name 0):=by
  refine fun i=>Wq (fun m hm hp=>?_) i;have hp':=of_decide_eq_false hp;obtain⟨n',hn',hw⟩:=GO hm;have hmi:m.ino=a.ino:=Classical.byContradiction fun h=>hp' (.inl h);obtain rfl:=EL h.asc hn' ha (hw.ino.symm.trans hmi);rw[hw.ents,if_neg (fun e=>hna e.symm),hae]
 have hkeep:∀{m:Nod},m∈Bc d.nodes n0.ino name 0→(m.ino=a.ino→0<Bj a.ino (Bc d.nodes n0.ino name 0))→m∈C3 (Bc d.nodes n0.ino name 0) a.ino:=by
  intro m hm hc;refine P8.2 ⟨hm,?_⟩;by_cases e:m.ino=a.ino
  ·exact .inr (hc e)
  exact .inl e
 have hfrom:∀{m:Nod},m∈C3 (Bc d.nodes n0.ino name 0) a.ino→(∃n'∈d.nodes,AsWas n0.ino name 0 n' m)∧m∈Bc d.nodes n0.ino name 0∧(m.ino≠a.ino∨0<Bj a.ino (Bc d.nodes n0.ino name 0)):=by
  intro m hm;obtain⟨h1,h2⟩:=P8.1 hm;exact⟨GO h1,h1,h2⟩
 have hsub:∀{n' m:Nod} {e:BQ},AsWas n0.ino name 0 n' m→e∈m.entries→e∈n'.entries:=by
  intro n' m e hw he;rw[hw.ents]at he;split at he
  ·rcases P5 he with h1|h1
   ·exact h1
   exact absurd rfl h1.2
  exact he
 refine⟨?_,h.next2,h.nextM,?_,?_,?_,?_,?_,?_,?_,?_,?_,?_,?_,?_⟩
 ·have h1:(C3 (Bc d.nodes n0.ino name 0) a.ino).length≤(Bc d.nodes n0.ino name 0).length:=List.length_filter_le _ _;rw[TM]at h1;exact Nat.le_trans h1 h.len
 ·obtain⟨r,rest,hr,h1,h2,h3⟩:=TN n0.ino name 0 h.root;refine⟨r,rest.filter fun m=>decide (m.ino≠a.ino∨0<Bj a.ino (Bc d.nodes n0.ino name 0)),?_,h1,h2,h3⟩;show C3 (Bc d.nodes n0.ino name 0) a.ino=_;unfold C3
  conv=>lhs;rw[hr]
  rw[List.filter_cons,if_pos (decide_eq_true (.inl (by rw[h1];exact fun e=>ha1 e.symm))),hr]
 ·exact List.Pairwise.filter _ (Nv h.asc _ _ _)
 ·intro m hm;obtain⟨⟨n',hn',hw⟩,_⟩:=hfrom hm;rw[hw.ino];exact h.lt n' hn'
 ·intro m hm;obtain⟨⟨n',hn',hw⟩,_⟩:=hfrom hm;rw[hw.plain];exact h.plain n' hn'
 ·intro m hm hk';obtain⟨⟨n',hn',hw⟩,_⟩:=hfrom hm;rw[hw.kind]at hk';obtain⟨h1,h2⟩:=h.leaf n' hn' hk';refine⟨hw.parent.trans h1,?_⟩;rw[hw.ents,if_neg,h2];intro e;obtain rfl:=EL h.asc hn' hn0 e;exact hk' hk
 ·intro m hm;obtain⟨⟨n',hn',hw⟩,_⟩:=hfrom hm;rw[hw.ents];split
  ·rw[LE];exact Nat.le_trans (List.length_filter_le _ _) (h.many n' hn')
  exact h.many n' hn'
 ·intro m hm;obtain⟨⟨n',hn',hw⟩,_⟩:=hfrom hm;rw[hw.ents];split
  ·exact Nt (h.sorted n' hn') _ _
  exact h.sorted n' hn'
 ·intro m hm e he;obtain⟨⟨n',hn',hw⟩,hm1,_⟩:=hfrom hm;obtain⟨k1,k2,q,hq,k3⟩:=h.ent n' hn' e (hsub hw he);obtain⟨m',hm',hw'⟩:=MU n0.ino name 0 hq;refine⟨k1,k2,m',hkeep hm' (fun e1=>TH.2 ⟨m,hm1,e,he,?_⟩),hw'.ino.trans k3⟩;rw[←k3,←hw'.ino,e1]
 ·intro m hm h1;rw[hcnt];obtain⟨⟨n',hn',hw⟩,_,h2⟩:=hfrom hm;have h3:=hcnt1 m.ino;by_cases e:m.ino=a.ino
  ·rw[e]at h2 ⊢;rcases h2 with h2|h2
   ·exact absurd rfl h2
   exact h2
  rw[NA (fun h=>e h.symm)]at h3;have:=h.link n' hn' (by rw[←hw.ino];exact h1);rw[←hw.ino]at this;omega
 ·intro m hm h1 h4;rw[hcnt];obtain⟨⟨n',hn',hw⟩,_,h2⟩:=hfrom hm;have h3:=hcnt1 m.ino;have h5:=h.one n' hn' (by rw[←hw.ino];exact h1) (by rw[←hw.kind];exact h4);rw[←hw.ino]at h5;by_cases e:m.ino=a.ino
  ·exfalso;rw[P7 e.symm]at h3;rcases h2 with h2|h2
   ·exact h2 e
   rw[←e]at h2;omega
  rw[NA (fun h=>e h.symm)]at h3;omega
 ·intro m hm h1 h4;obtain⟨⟨n',hn',hw⟩,_,h2⟩:=hfrom hm;obtain⟨p,hp',k1,e,he,k2⟩:=h.par n' hn' (by rw[←hw.ino];exact h1) (by rw[←hw.kind];exact h4);obtain⟨q,hq,hwq⟩:=MU n0.ino name 0 hp'
  have hpa:p.ino≠a.ino:=fun e'=>by
   obtain rfl:=EL h.asc hp' ha e';rw[hae]at he;cases he
  have hna':n'.ino≠a.ino:=fun e'=>by
   have h3:=hcnt1 m.ino;have h5:=h.one n' hn' (by rw[←hw.ino];exact h1) (by rw[←hw.kind];exact h4);rw[←hw.ino]at h5 e';rw[P7 e'.symm]at h3;rcases h2 with h2|h2
   ·exact h2 e'
   rw[←e']at h2;omega
  refine⟨q,hkeep hq (fun e'=>absurd (hwq.ino.symm.trans e') hpa),by rw[hwq.ino,hw.parent];exact k1,e,?_,by rw[hw.ino];exact k2⟩;rw[hwq.ents];split
  ·rename_i heq;obtain rfl:=EL h.asc hp' hn0 heq;refine P6 he fun hnm=>?_;have:=TP (h.sorted p hp') he hem (hnm.trans hen.symm);rw[this,hea]at k2;exact hna' k2.symm
  exact he
 obtain⟨rk,hrk⟩:=h.rank;refine⟨rk,fun m hm h1 h2=>?_⟩;obtain⟨⟨n',hn',hw⟩,_⟩:=hfrom hm;rw[hw.ino,hw.parent];exact hrk n' hn' (by rw[←hw.ino];exact h1) (by rw[←hw.kind];exact h2)
end Go.Proofs.YtbgnigjfkbmceaaGreatDoor
namespace Go.Proofs.YtbgnigjfkbmceaaGreatDoor
theorem Wr:∀(xs l:List Int),xs.Nodup→(∀x∈xs,x∈l)→xs.length≤l.length
 |[],_,_,_=>BH _
 |x::xs,l,hd,hs=>by
   obtain⟨h1,h2⟩:=List.nodup_cons.1 hd;have hx:x∈l:=hs x (by simp);have ih:=Wr xs (l.erase x) h2 fun y hy=>(List.mem_erase_of_ne (fun e:y=x=>h1 (e ▸ hy))).2 (hs y (by simp[hy]));have hl:=List.length_erase_of_mem hx;have hp:0<l.length:=List.length_pos_of_mem hx;simp only[List.length_cons];omega
def P9(ns:List Nod):Nat→Int→Int→Prop
 |0,x,y=>x=y
 |k+1,x,y=>∃n∈ns,n.ino=x∧n.ino≠1∧n.kind=2∧P9 ns k n.parent y
def Jt(ns:List Nod)(x y:Int):Prop:=∃k,P9 ns k x y
theorem Ws{ns:List Nod}{rk:Int→Nat}(hrk:∀n∈ns,n.ino≠1→n.kind=2→rk n.parent<rk n.ino):∀(k:Nat) (x y:Int),P9 ns k x y→∃l:List Int,l.length=k∧l.Nodup∧∀z∈l,(∃n∈ns,n.ino=z)∧rk y<rk z∧rk z≤rk x
 |0,_,_,_=>⟨[],rfl,List.nodup_nil,by simp⟩
 |k+1,x,y,h=>by
   obtain⟨n,hn,rfl,h1,h2,h3⟩:=h;obtain⟨l,e,hd,hl⟩:=Ws hrk k _ _ h3;have hlt:=hrk n hn h1 h2
   have hy:rk y≤rk n.parent:=by
    cases l with
    |nil=>
      have hk:k=0:=by simpa using e.symm
      subst hk;have:n.parent=y:=h3;rw[this];exact B3 _
    |cons z l=>
      have:=hl z (by simp);omega
   refine⟨n.ino::l,by simp[e],List.nodup_cons.2 ⟨fun hm=>?_,hd⟩,?_⟩
   ·have:=(hl _ hm).2.2;omega
   intro z hz;rcases List.mem_cons.1 hz with rfl|hz
   ·exact⟨⟨n,hn,rfl⟩,by omega,B3 _⟩
   obtain⟨q1,q2,q3⟩:=hl z hz;exact⟨q1,q2,by omega⟩
theorem VD.anc_len{d:Dvc}(h:VD d){k:Nat}{x:Int}{a:Nod}(ha:a∈d.nodes)(hk:P9 d.nodes k x a.ino):k+1≤d.nodes.length:=by
 obtain⟨rk,hrk⟩:=h.rank;obtain⟨l,e,hd,hl⟩:=Ws hrk k x a.ino hk
 have:=Wr (a.ino::l) (d.nodes.map (·.ino)) (List.nodup_cons.2 ⟨fun hm=>by have:=(hl _ hm).2.1;omega,hd⟩) (fun z hz=>by
  rcases List.mem_cons.1 hz with rfl|hz
  ·exact List.mem_map.2 ⟨a,ha,rfl⟩
  obtain⟨n,hn,e⟩:=(hl z hz).1
  exact List.mem_map.2 ⟨n,hn,e⟩)
 simp only[List.length_cons,List.length_map]at this;omega
def G5(p1 p2:Int)(name name2:AE)(a:Int)(n:Nod):List BQ:=
 let es:=if n.ino=p1 then D4 n.entries name 0 else n.entries
 if n.ino=p2 then D4 es name2 a else es
def LF(p1 p2:Int)(name name2:AE)(a:Int)(n:Nod):Nod:=
 {n with entries:=G5 p1 p2 name name2 a n,parent:=if n.ino=a∧n.kind=2 then p2 else n.parent}
def Ek(ns:List Nod)(p1 p2:Int)(name name2:AE)(a:Int):List Nod:=ns.map (LF p1 p2 name name2 a)
def Kn(p:Int)(n:Nod):Nod:=if n.kind=2 then{n with parent:=p}else n
theorem Wt(ns:List Nod)(p1 p2:Int)(name name2:AE)(a:Int):Cv (Bc (Bc ns p1 name 0) p2 name2 a) a (Kn p2)=Ek ns p1 p2 name name2 a:=by
 unfold Bc Cv Ek;rw[List.map_map,List.map_map];apply List.map_congr_left;intro n _;obtain⟨ino,kind,mode,uid,gid,parent,target,entries⟩:=n;simp only[Function.comp];unfold LF G5 Nu Kn;by_cases h1:ino=p1<;>by_cases h2:ino=p2<;>by_cases h3:ino=a<;>by_cases h4:kind=2<;>simp[h1,h2,h3,h4]<;>(try simp_all)
theorem fR{es:List BQ}{name name2:AE}(h:name≠name2):EK (Fl name es) name2=EK es name2:=by
 unfold EK Fl;rw[List.find?_filter]
 congr 1
 funext e
 by_cases h2:e.1=name2
 ·have:e.1≠name:=fun e'=>h (e'.symm.trans h2);simp[h2];intro e';exact h e'.symm
 simp[h2]
end Go.Proofs.YtbgnigjfkbmceaaGreatDoor
namespace Go.Proofs.YtbgnigjfkbmceaaGreatDoor
section
variable {p1 p2:Int}{name name2:AE}{a:Int}{n:Nod}
theorem fS{e:BQ}(h:e∈G5 p1 p2 name name2 a n):e∈n.entries∨(n.ino=p2∧e=(name2,a)):=by
 unfold G5 at h
 have base:∀{x:BQ},x∈(if n.ino=p1 then D4 n.entries name 0 else n.entries)→x∈n.entries:=by
  intro x hx;split at hx
  ·rcases P5 hx with h1|h1
   ·exact h1
   exact absurd rfl h1.2
  exact hx
 simp only at h;split at h
 ·rename_i h2;rcases P5 h with h1|h1
  ·exact .inl (base h1)
  exact .inr ⟨h2,h1.1⟩
 exact .inl (base h)
theorem fT{e:BQ}(h:e∈n.entries)(h1:n.ino=p1→e.1≠name)(h2:n.ino=p2→e.1≠name2):e∈G5 p1 p2 name name2 a n:=by
 unfold G5
 have base:e∈(if n.ino=p1 then D4 n.entries name 0 else n.entries):=by
  split
  ·rename_i e1;exact P6 h (h1 e1)
  exact h
 simp only;split
 ·rename_i e2;exact P6 base (h2 e2)
 exact base
theorem fU(h:n.ino=p2)(ha:a≠0):(name2,a)∈G5 p1 p2 name name2 a n:=by
 unfold G5;simp only[h,if_true];exact Wp ha
theorem fV(h:Hg n.entries):Hg (G5 p1 p2 name name2 a n):=by
 unfold G5
 have base:Hg (if n.ino=p1 then D4 n.entries name 0 else n.entries):=by
  split
  ·exact Nt h _ _
  exact h
 simp only;split
 ·exact Nt base _ _
 exact base
end
open Classical in
noncomputable def PA (S:Int→Prop) (rk:Int→Nat) (c:Nat) (x:Int):Nat:=if S x then rk x+c else rk x
theorem TQ{S:Int→Prop}{rk:Int→Nat}{c:Nat}{x:Int}(h:S x):PA S rk c x=rk x+c:=by unfold PA;rw[if_pos h]
theorem TR{S:Int→Prop}{rk:Int→Nat}{c:Nat}{x:Int}(h:¬S x):PA S rk c x=rk x:=by unfold PA;rw[if_neg h]
theorem VD.renamed{d:Dvc}(h:VD d){n1 n2 a:Nod}(hn1:n1∈d.nodes)(hn2:n2∈d.nodes)(ha:a∈d.nodes)(hk2:n2.kind=2){name name2:AE}{e1:BQ}(he1:EK n1.entries name=some e1)(hea:e1.2=a.ino)
    (hname2:Hc name2=true) (hdiff:n1.ino=n2.ino→name≠name2) (hanc:a.kind=2→¬Jt d.nodes n2.ino a.ino) {oi:Int}
    (ho:(EK n2.entries name2=none∧(n2.entries.length<12∨n1.ino=n2.ino)∧oi=0)∨(∃eo o,EK n2.entries name2=some eo∧o∈d.nodes∧eo.2=oi∧o.ino=oi∧oi≠a.ino∧o.entries=[])):
    VD ⟨d.next,C3 (Ek d.nodes n1.ino n2.ino name name2 a.ino) oi⟩:=by
 obtain⟨hem,hen⟩:=Km he1;have ha1:a.ino≠1:=by rw[←hea];exact(h.ent n1 hn1 e1 hem).2.1
 have ha0:a.ino≠0:=by have:=h.pos ha;omega
 have hoa:oi≠a.ino:=by
  rcases ho with⟨_,_,h1⟩|⟨_,_,_,_,_,_,h1,_⟩
  ·omega
  exact h1
 have ho1:oi≠1:=by
  rcases ho with⟨_,_,h1⟩|⟨eo,o,h1,_,h2,_⟩
  ·omega
  obtain⟨q1,_⟩:=Km h1;rw[←h2];exact(h.ent n2 hn2 eo q1).2.1
 have hoe:∀m∈d.nodes,m.ino=oi→m.entries=[]:=by
  intro m hm e;rcases ho with⟨_,_,h1⟩|⟨eo,o,_,h1,_,h2,_,h3⟩
  ·have:=h.pos hm;omega
  obtain rfl:=EL h.asc hm h1 (by omega);exact h3
 have hm2:=MU n1.ino name 0 hn2;obtain⟨m2,hm2,hw2⟩:=hm2
 have hf2:EK m2.entries name2=EK n2.entries name2:=by
  rw[hw2.ents];split
  ·rename_i e;rw[LE,fR (hdiff e.symm)]
  rfl
 have hasc1:=Nv h.asc n1.ino name 0;have hasc2:=Nv hasc1 n2.ino name2 a.ino
 have hsort2:Hg m2.entries:=by
  rw[hw2.ents];split
  ·exact Nt (h.sorted n2 hn2) _ _
  exact h.sorted n2 hn2
 have hcntR:∀i,1≤i→Bj i (Ek d.nodes n1.ino n2.ino name name2 a.ino)+b1 (oi=i)=Bj i d.nodes:=by
  intro i hi;have c1:=P4 h.asc hn1 name 0 i;have c2:=Wo (h.sorted n1 hn1) he1 i;rw[hea]at c2;have c3:=P4 hasc1 hm2 name2 a.ino i;rw[hw2.ino]at c3;obtain⟨m',hm',hw'⟩:=MU n1.ino name 0 ha;obtain⟨m'',hm'',hw''⟩:=MU (ns:=Bc d.nodes n1.ino name 0) n2.ino name2 a.ino hm';have c4:=TK hasc2 hm'' (Kn n2.ino) i;have e4:(Kn n2.ino m'').entries=m''.entries:=by unfold Kn;split<;>rfl
  rw[e4,hw''.ino,hw'.ino,Wt]at c4;rcases ho with⟨h1,_,h2⟩|⟨eo,o,h1,_,h2,_⟩
  ·have c5:=TO (hf2.trans h1) ha0 i;rw[NA (show¬oi=i by omega)];omega
  have c5:=fQ hsort2 (hf2.trans h1) ha0 i;rw[h2]at c5;omega
 have hmem:∀{m:Nod},m∈C3 (Ek d.nodes n1.ino n2.ino name name2 a.ino) oi→(∃n∈d.nodes,m=LF n1.ino n2.ino name name2 a.ino n)∧m∈Ek d.nodes n1.ino n2.ino name name2 a.ino∧(m.ino≠oi∨0<Bj oi (Ek d.nodes n1.ino n2.ino name name2 a.ino)):=by
  intro m hm;obtain⟨q1,q2⟩:=P8.1 hm;obtain⟨n,hn,e⟩:=List.mem_map.1 q1;exact⟨⟨n,hn,e.symm⟩,q1,q2⟩
 have hkeep:∀{n:Nod},n∈d.nodes→(n.ino=oi→0<Bj oi (Ek d.nodes n1.ino n2.ino name name2 a.ino))→LF n1.ino n2.ino name name2 a.ino n∈C3 (Ek d.nodes n1.ino n2.ino name name2 a.ino) oi:=by
  intro n hn hc;refine P8.2 ⟨List.mem_map.2 ⟨n,hn,rfl⟩,?_⟩;by_cases e:n.ino=oi
  ·exact .inr (hc e)
  exact .inl e
 have hcnt:∀i,Bj i (C3 (Ek d.nodes n1.ino n2.ino name name2 a.ino) oi)=Bj i (Ek d.nodes n1.ino n2.ino name name2 a.ino):=by
  refine fun i=>Wq (fun m hm hp=>?_) i;have hp':=of_decide_eq_false hp;obtain⟨n,hn,rfl⟩:=List.mem_map.1 hm;have hmi:n.ino=oi:=Classical.byContradiction fun h=>hp' (.inl h);have h0:=hoe n hn hmi
  have q1:n.ino≠n1.ino:=fun e=>by
   obtain rfl:=EL h.asc hn hn1 e;rw[h0]at hem;cases hem
  have q2:n.ino≠n2.ino:=fun e=>by
   obtain rfl:=EL h.asc hn hn2 e;rcases ho with⟨_,_,h1⟩|⟨eo,o,h1,_⟩
   ·have:=h.pos hn;omega
   obtain⟨q,_⟩:=Km h1;rw[h0]at q;cases q
  show G5 n1.ino n2.ino name name2 a.ino n=[];unfold G5;simp only[q1,q2,if_false];exact h0
 have hdo:∀{n:Nod},n∈d.nodes→n.ino≠1→n.kind=2→(n.ino≠oi∨0<Bj oi (Ek d.nodes n1.ino n2.ino name name2 a.ino))→n.ino≠oi:=by
  intro n hn h1 h2 hc e;rcases hc with hc|hc
  ·exact hc e
  have c1:=h.one n hn h1 h2;have c2:=hcntR n.ino (h.pos hn);rw[P7 e.symm]at c2;rw[←e]at hc;omega
 refine⟨?_,h.next2,h.nextM,?_,?_,?_,?_,?_,?_,?_,?_,?_,?_,?_,?_⟩
 ·have q1:(C3 (Ek d.nodes n1.ino n2.ino name name2 a.ino) oi).length≤(Ek d.nodes n1.ino n2.ino name name2 a.ino).length:=List.length_filter_le _ _;have q2:(Ek d.nodes n1.ino n2.ino name name2 a.ino).length=d.nodes.length:=by simp[Ek]
  have:=h.len;show(C3 _ _).length≤16;omega
 ·obtain⟨r,rest,hr,h1,h2,h3⟩:=h.root;refine⟨LF n1.ino n2.ino name name2 a.ino r,(rest.map (LF n1.ino n2.ino name name2 a.ino)).filter fun m=>decide (m.ino≠oi∨0<Bj oi (Ek d.nodes n1.ino n2.ino name name2 a.ino)),?_,h1,h2,?_⟩
  ·show C3 (Ek d.nodes n1.ino n2.ino name name2 a.ino) oi=_;have e:Ek d.nodes n1.ino n2.ino name name2 a.ino=LF n1.ino n2.ino name name2 a.ino r::rest.map (LF n1.ino n2.ino name name2 a.ino):=by unfold Ek;rw[hr];rfl
   unfold C3
   conv=>lhs;arg 2;rw[e]
   rw[List.filter_cons,if_pos (decide_eq_true (.inl (by show r.ino≠oi;rw[h1];exact fun e=>ho1 e.symm)))]
  show(if r.ino=a.ino∧r.kind=2 then n2.ino else r.parent)=1;rw[if_neg (fun e=>ha1 (by rw[←e.1];exact h1))];exact h3
 ·refine List.Pairwise.filter _ ?_;show Ey (Ek d.nodes n1.ino n2.ino name name2 a.ino);rw[TJ]
  have e:(Ek d.nodes n1.ino n2.ino name name2 a.ino).map (·.ino)=d.nodes.map (·.ino):=by
   unfold Ek;rw[List.map_map];rfl
  rw[e,←TJ];exact h.asc
 ·intro m hm;obtain⟨⟨n,hn,rfl⟩,_⟩:=hmem hm;exact h.lt n hn
 ·intro m hm;obtain⟨⟨n,hn,rfl⟩,_⟩:=hmem hm;exact h.plain n hn
 ·intro m hm hk;obtain⟨⟨n,hn,rfl⟩,_⟩:=hmem hm;have hk':n.kind≠2:=hk;obtain⟨q1,q2⟩:=h.leaf n hn hk';refine⟨?_,?_⟩
  ·show(if n.ino=a.ino∧n.kind=2 then n2.ino else n.parent)=0;rw[if_neg (fun e=>hk' e.2)];exact q1
  show G5 n1.ino n2.ino name name2 a.ino n=[]
  have r1:n.ino≠n1.ino:=fun e=>by
   obtain rfl:=EL h.asc hn hn1 e;rw[q2]at hem;cases hem
  have r2:n.ino≠n2.ino:=fun e=>by
   obtain rfl:=EL h.asc hn hn2 e;exact hk' hk2
  unfold G5;simp only[r1,r2,if_false];exact q2
 ·intro m hm;obtain⟨⟨n,hn,rfl⟩,_⟩:=hmem hm;show(G5 n1.ino n2.ino name name2 a.ino n).length≤12;by_cases q2:n.ino=n2.ino
  ·obtain rfl:=EL h.asc hn hn2 q2
   have e2:G5 n1.ino n.ino name name2 a.ino n=D4 m2.entries name2 a.ino:=by
    unfold G5;simp only[if_true];rw[hw2.ents]
   rw[e2,(Lm _ name2 ha0).length_eq,List.length_cons];rcases ho with⟨h1,h2,_⟩|⟨eo,o,h1,_⟩
   ·rw[R6 (hf2.trans h1),hw2.ents];rcases h2 with h2|h2
    ·split
     ·rw[LE];have:(Fl name n.entries).length≤n.entries.length:=List.length_filter_le _ _;omega
     omega
    rw[if_pos h2.symm,LE];obtain rfl:=EL h.asc hn1 hn h2;have:=(R7 (h.sorted n1 hn1) he1).length_eq;rw[List.length_cons]at this;have:=h.many n1 hn1;omega
   have c1:=(R7 hsort2 (hf2.trans h1)).length_eq;rw[List.length_cons]at c1
   have c2:m2.entries.length≤n.entries.length:=by
    rw[hw2.ents];split
    ·rw[LE];exact List.length_filter_le _ _
    exact B3 _
   have:=h.many n hn;omega
  unfold G5;simp only[q2,if_false];split
  ·rw[LE];exact Nat.le_trans (List.length_filter_le _ _) (h.many n hn)
  exact h.many n hn
 ·intro m hm;obtain⟨⟨n,hn,rfl⟩,_⟩:=hmem hm;exact fV (h.sorted n hn)
 ·intro m hm e he;obtain⟨⟨n,hn,rfl⟩,hmR,_⟩:=hmem hm;have he':e∈G5 n1.ino n2.ino name name2 a.ino n:=he;rcases fS he' with q|⟨_,rfl⟩
  ·obtain⟨k1,k2,x,hx,k3⟩:=h.ent n hn e q;refine⟨k1,k2,_,hkeep hx (fun e1=>TH.2 ⟨_,hmR,e,he,?_⟩),k3⟩;rw[←k3,e1]
  exact⟨hname2,ha1,_,hkeep ha (fun e1=>absurd e1.symm hoa),rfl⟩
 ·intro m hm h1;rw[hcnt];obtain⟨⟨n,hn,rfl⟩,_,hc⟩:=hmem hm;have h1':n.ino≠1:=h1;show 0<Bj n.ino _;have c1:=hcntR n.ino (h.pos hn);by_cases e:n.ino=oi
  ·rcases hc with hc|hc
   ·exact absurd e hc
   rw[e];exact hc
  rw[NA (fun h=>e h.symm)]at c1;have:=h.link n hn h1';omega
 ·intro m hm h1 h2;rw[hcnt];obtain⟨⟨n,hn,rfl⟩,_,hc⟩:=hmem hm;have h1':n.ino≠1:=h1;have h2':n.kind=2:=h2;show Bj n.ino _=1;have c1:=hcntR n.ino (h.pos hn);rw[NA (fun e=>hdo hn h1' h2' hc e.symm)]at c1;have:=h.one n hn h1' h2';omega
 ·intro m hm h1 h2;obtain⟨⟨n,hn,rfl⟩,_,hc⟩:=hmem hm;have h1':n.ino≠1:=h1;have h2':n.kind=2:=h2;have hno:=hdo hn h1' h2' hc;by_cases hna:n.ino=a.ino
  ·refine⟨_,hkeep hn2 (fun e=>?_),?_,(name2,a.ino),fU rfl ha0,hna.symm⟩
   ·exfalso;rcases ho with⟨_,_,q⟩|⟨eo,o,q,_⟩
    ·have:=h.pos hn2;omega
    obtain⟨q1,_⟩:=Km q;rw[hoe n2 hn2 e]at q1;cases q1
   show n2.ino=if n.ino=a.ino∧n.kind=2 then n2.ino else n.parent
   rw[if_pos ⟨hna,h2'⟩]
  obtain⟨p,hp,k1,e,he,k2⟩:=h.par n hn h1' h2';refine⟨_,hkeep hp (fun e'=>?_),?_,e,fT he (fun e' hnm=>?_) (fun e' hnm=>?_),k2⟩
  ·exfalso;rw[hoe p hp e']at he;cases he
  ·show p.ino=if n.ino=a.ino∧n.kind=2 then n2.ino else n.parent
   rw[if_neg (fun q=>hna q.1)];exact k1
  ·obtain rfl:=EL h.asc hp hn1 e';have:=TP (h.sorted p hp) he hem (hnm.trans hen.symm);rw[this,hea]at k2;exact hna k2.symm
  obtain rfl:=EL h.asc hp hn2 e';rcases ho with⟨q,_⟩|⟨eo,o,q,_,q2,_⟩
  ·exact R5 q e he hnm
  obtain⟨r1,r2⟩:=Km q;have:=TP (h.sorted p hp) he r1 (hnm.trans r2.symm);rw[this,q2]at k2;exact hno k2.symm
 obtain⟨rk,hrk⟩:=h.rank;by_cases hka:a.kind=2
 ·have hS:=hanc hka;refine⟨PA (fun x=>Jt d.nodes x a.ino) rk (rk n2.ino+1),fun m hm h1 h2=>?_⟩;obtain⟨⟨n,hn,rfl⟩,_,_⟩:=hmem hm;have h1':n.ino≠1:=h1;have h2':n.kind=2:=h2;have eP:(LF n1.ino n2.ino name name2 a.ino n).parent=if n.ino=a.ino∧n.kind=2 then n2.ino else n.parent:=rfl
  have eI:(LF n1.ino n2.ino name name2 a.ino n).ino=n.ino:=rfl;rw[eP,eI];by_cases hna:n.ino=a.ino
  ·rw[if_pos ⟨hna,h2'⟩,TR (S:=fun x=>Jt d.nodes x a.ino) hS,TQ (S:=fun x=>Jt d.nodes x a.ino) (show Jt d.nodes n.ino a.ino from⟨0,hna⟩)];omega
  have hlt:=hrk n hn h1' h2';rw[if_neg (fun q=>hna q.1)];by_cases hA:Jt d.nodes n.ino a.ino
  ·have hP:Jt d.nodes n.parent a.ino:=by
      obtain⟨k,hk⟩:=hA
      cases k with
      |zero=>exact absurd hk hna
      |succ k=>
        obtain⟨n',hn',e1,_,_,q⟩:=hk;obtain rfl:=EL h.asc hn' hn e1;exact⟨k,q⟩
   rw[TQ (S:=fun x=>Jt d.nodes x a.ino) hP,TQ (S:=fun x=>Jt d.nodes x a.ino) hA];omega
  have hP:¬Jt d.nodes n.parent a.ino:=fun⟨k,hk⟩=>hA ⟨k+1,n,hn,rfl,h1',h2',hk⟩;rw[TR (S:=fun x=>Jt d.nodes x a.ino) hP,TR (S:=fun x=>Jt d.nodes x a.ino) hA];exact hlt
 refine⟨rk,fun m hm h1 h2=>?_⟩;obtain⟨⟨n,hn,rfl⟩,_,_⟩:=hmem hm;have h2':n.kind=2:=h2;show rk (if n.ino=a.ino∧n.kind=2 then n2.ino else n.parent)<rk n.ino
 rw[if_neg (fun q=>hka (by
  obtain rfl:=EL h.asc hn ha q.1
  exact q.2))]
 exact hrk n hn h1 h2'
end Go.Proofs.YtbgnigjfkbmceaaGreatDoor
namespace Go.Proofs.YtbgnigjfkbmceaaGreatDoor
open Go.RowKit
theorem fW(n:Nat):∀j,Ee [] n j=some (n+j):=fun j=>by simp[Ee]
theorem Nw{bx:List (List AV)}{n:Nat}(hn:bx.length=n)(f:AR)(q:Nat)(d:Dvc)(ns:List Nod)(cap cap1:Nat):Back bx [] [DB f q d 1 cap cap1,NB ns cap1] (bx++[DB f q d (n+1) cap cap1,NB ns cap1]):=by
 subst hn;refine⟨by simp,fun i row _ h=>?_,fun k i row h=>by simp at h,fun k row h=>?_⟩
 ·rw[DF (Ab.1 h).1];exact h
 rw[Ep (by omega),show bx.length+k - bx.length=k by omega];simp only[List.length_nil,Nat.zero_add]at h
 match k,h with
 |0,h=>injection h with h;subst h;rw[Jr (fW _ 1)];rfl
 |1,h=>injection h with h;subst h;rw[JQ];rfl
 |k+2,h=>simp at h
theorem Nx{bx:List (List AV)}{i0 i1:Nat}(h0:i0<bx.length)(h1:i1<bx.length)(hne:i0≠i1)(f:AR)(q:Nat)(d:Dvc)(ns:List Nod)(cap cap1 cap1':Nat):
    Back bx [i0,i1] [DB f q d 1 cap cap1,NB ns cap1'] ((bx.set i0 (DB f q d i1 cap cap1)).set i1 (NB ns cap1')):=by
 refine⟨by simp,fun i row hi h=>?_,fun k i row h hr=>?_,fun k row h=>by simp at h⟩
 ·simp only[List.mem_cons,List.not_mem_nil,or_false,not_or]at hi;rw[List.getElem?_set_ne (Ne.symm hi.2),List.getElem?_set_ne (Ne.symm hi.1)];exact h
 match k,h,hr with
 |0,h,hr=>
   simp at h hr;subst h;subst hr;rw[List.getElem?_set_ne (Ne.symm hne),List.getElem?_set_self h0,Jr (g:=Ee [i0,i1] bx.length) (j:=1) (j':=i1) rfl]
 |1,h,hr=>
   simp at h hr;subst h;subst hr;rw[List.getElem?_set_self (by simpa using h1),JQ]
 |k+2,h,_=>simp at h
theorem TS{bx:List (List AV)}{n i0 i1:Nat}(hn:bx.length=n)(h0:i0<n)(h1:i1<n)(hne:i0≠i1)(f:AR)(q:Nat)(d:Dvc)(ns ns':List Nod)(a:AB)(l cap0 cap cap1 cap2:Nat):
    Back bx [i0,i1] [DB f q d 4 cap cap2,NB ns cap1,[.bs 0 0 2 l cap0],AA a,NB ns' cap2] ((bx.set i0 (DB f q d (n+2) cap cap2)).set i1 (NB ns cap1)++[[.bs i0 0 2 l cap0],AA a,NB ns' cap2]):=by
 subst hn;have hl:((bx.set i0 (DB f q d (bx.length+2) cap cap2)).set i1 (NB ns cap1)).length=bx.length:=by simp
 refine⟨by simp,fun i row hi h=>?_,fun k i row h hr=>?_,fun k row h=>?_⟩
 ·simp only[List.mem_cons,List.not_mem_nil,or_false,not_or]at hi;rw[DF (by rw[hl];exact(Ab.1 h).1),List.getElem?_set_ne (Ne.symm hi.2),List.getElem?_set_ne (Ne.symm hi.1)];exact h
 ·match k,h,hr with
  |0,h,hr=>
    simp at h hr;subst h;subst hr;rw[DF (by rw[hl];exact h0),List.getElem?_set_ne (Ne.symm hne),List.getElem?_set_self h0,Jr (g:=Ee [i0,i1] bx.length) (j:=4) (j':=bx.length+2) rfl]
  |1,h,hr=>
    simp at h hr;subst h;subst hr;rw[DF (by rw[hl];exact h1),List.getElem?_set_self (by simpa using h1),JQ]
  |k+2,h,_=>simp at h
 rw[Ep (by rw[hl];omega),hl,show bx.length+k - bx.length=k by omega]
 match k,h with
 |0,h=>injection h with h;subst h;rfl
 |1,h=>injection h with h;subst h;rfl
 |2,h=>injection h with h;subst h;rw[JQ];rfl
 |k+3,h=>rw[List.getElem?_eq_none (by simp;omega)]at h;cases h
theorem TT{bx:List (List AV)}{n i0 i1:Nat}(hn:bx.length=n)(h0:i0<n)(h1:i1<n)(hne:i0≠i1)(f:AR)(q:Nat)(d:Dvc)(ns:List Nod)(a:AB)(l cap0 cap cap1 cap1':Nat):
    Back bx [i0,i1] [DB f q d 1 cap cap1,NB ns cap1',[.bs 0 0 2 l cap0],AA a] ((bx.set i0 (DB f q d i1 cap cap1)).set i1 (NB ns cap1')++[[.bs i0 0 2 l cap0],AA a]):=by
 subst hn;have hl:((bx.set i0 (DB f q d i1 cap cap1)).set i1 (NB ns cap1')).length=bx.length:=by simp
 refine⟨by simp,fun i row hi h=>?_,fun k i row h hr=>?_,fun k row h=>?_⟩
 ·simp only[List.mem_cons,List.not_mem_nil,or_false,not_or]at hi;rw[DF (by rw[hl];exact(Ab.1 h).1),List.getElem?_set_ne (Ne.symm hi.2),List.getElem?_set_ne (Ne.symm hi.1)];exact h
 ·match k,h,hr with
  |0,h,hr=>
    simp at h hr;subst h;subst hr;rw[DF (by rw[hl];exact h0),List.getElem?_set_ne (Ne.symm hne),List.getElem?_set_self h0,Jr (g:=Ee [i0,i1] bx.length) (j:=1) (j':=i1) rfl]
  |1,h,hr=>
    simp at h hr;subst h;subst hr;rw[DF (by rw[hl];exact h1),List.getElem?_set_self (by simpa using h1),JQ]
  |k+2,h,_=>simp at h
 rw[Ep (by rw[hl];omega),hl,show bx.length+k - bx.length=k by omega]
 match k,h with
 |0,h=>injection h with h;subst h;rfl
 |1,h=>injection h with h;subst h;rfl
 |k+2,h=>rw[List.getElem?_eq_none (by simp;omega)]at h;cases h
theorem Wu{f:AR}{q:Nat}{d d':Dvc}(hn:d'.next=d.next)(hl:d'.nodes.length=d.nodes.length)(j cap cap1:Nat):DB f q d j cap cap1=DB (f.set q d') q d' j cap cap1:=by
 unfold DB Hf KM;rw[List.map_set,List.set_set,hn,hl]
theorem LG{n:Nat}{bx:List (List AV)}{k i j:Nat}{f:AR}{q:Nat}{d d':Dvc}{cap cap0 cap1:Nat}(hq:q<f.length)(hn:d'.next=d.next)(hl:d'.nodes.length=d.nodes.length)(hc:f.length≤cap)(hc1:d'.nodes.length≤cap1)(hni:n≤i)(hnj:n≤j)
    (hi:bx[i]?=some (DB f q d j cap cap1)) (hj:bx[j]?=some (NB d'.nodes cap1)):Jj n (EV n bx (k+2)) [.bs i 0 2 f.length cap0]=Al (f.set q d'):=by
 have:Nat.blt i n=false:=by rw[←Bool.not_eq_true,Nat.blt_eq];omega
 have key:=MS (n:=n) (bx:=bx) (k:=k) (i:=i) (j:=j) (f:=f.set q d') (K:=q) (d:=d') (cap:=cap) (cap0:=cap0) (cap1:=cap1) (by simp[hq]) (by simpa using hc) hc1 hni hnj (by rw[hi,Wu hn hl]) hj;rw[List.length_set]at key;have key2:AV.agg [Et (EV n bx (k+2)) (.bs i 0 2 f.length cap0)]=AV.agg (Al (f.set q d')):=key;have e:Jj n (EV n bx (k+2)) [.bs i 0 2 f.length cap0]=[Et (EV n bx (k+2)) (.bs i 0 2 f.length cap0)]:=by simp only[Jj,Gf,this]
 rw[e];injection key2
structure FlsV(f:AR):Prop where
 few:f.length≤3
 vd:∀d∈f,VD d
theorem FlsV.b{f:AR}(h:FlsV f):FlsB f:=⟨by have:=h.few;omega,fun d hd=>by have:=(h.vd d hd).len;omega,fun d hd n hn=>by have:=(h.vd d hd).many n hn;omega⟩
theorem PB{ns:List Nod}(h:Ey ns){i:Nat}{n:Nod}(hi:ns[i]?=some n)(g:Nod→Nod):ns.set i (g n)=Cv ns n.ino g:=by
 apply List.ext_getElem?;intro k;unfold Cv;rw[List.getElem?_map,List.getElem?_set];have hil:=(Ab.1 hi).1;split
 ·rename_i e;subst e;rw[hi];simp[hil]
 rename_i e
 cases hk:ns[k]? with
 |none=>rfl
 |some m=>
   have:m.ino≠n.ino:=by
    intro em;obtain⟨l1,e1⟩:=Ab.1 hi;obtain⟨l2,e2⟩:=Ab.1 hk;have hp:=List.pairwise_iff_getElem.1 h;rcases Nat.lt_or_gt_of_ne e with hlt|hlt
    ·have:=hp i k l1 l2 hlt;rw[e1,e2]at this;omega
    have:=hp k i l2 l1 hlt;rw[e1,e2]at this;omega
   simp[this]
def JR(f:AR)(q:Nat)(g:List Nod→List Nod):AR:=f.modify q fun d=>{d with nodes:=g d.nodes}
theorem Ju{f:AR}{q:Nat}{d:Dvc}(h:f[q]?=some d)(g:List Nod→List Nod):JR f q g=f.set q {d with nodes:=g d.nodes}:=by
 apply List.ext_getElem?;intro k;unfold JR;rw[List.getElem?_modify,List.getElem?_set];split
 ·rename_i e;subst e;rw[h];simp[(Ab.1 h).1]
 simp
theorem KN{f:AR}{dir:AB}{name:AE}(h:Cb f dir name=0):∃(q i:Nat) (d:Dvc) (n0:Nod),dir.1=(q:Int)∧f[q]?=some d∧d.nodes[i]?=some n0∧n0.ino=dir.2∧Hb f dir=(i:Int)∧CE f dir=some n0∧n0.kind=2∧Hc name=true:=by
 rcases Ld f dir with⟨_,h2⟩|⟨q,i,d,n,h1,h2,h3,h4,h5,h6⟩
 ·simp[Cb,h2]at h
 refine⟨q,i,d,n,h1,h2,h3,h4,h5,h6,?_⟩;simp only[Cb,h6]at h;split at h
 ·rename_i hk;split at h
  ·rename_i hn;exact⟨hk,hn⟩
  omega
 omega
def Cd(R:Ex):AV:= .tup [.agg (Al R.1), .sl 7 (R.2.1.map EZ) none, .v (.int .i64 R.2.2)]
theorem EM(e:Int):LeA (.tup [.agg [.v (.slice none 0 0)], .v (.slice none 0 0), .v (.int .i64 e)]) (Cd ([],[],e)):=(by repeat (first|exact A7 _|exact LeA.nil _|exact LeL.refl _|refine LeA.agg ?_|refine LeA.tup ?_|exact LeL.nil|refine LeL.cons ?_ ?_|exact LeA.any _))
def El(f:AR)(dir:AB)(name:AE)(a:AB):Ex:=
 if Cb f dir name≠0 then([],[],Cb f dir name)else if Du f a=false then([],[],2)else if a.1≠dir.1 then([],[],18)else if(Ac f a).kind=2 then([],[],1)else
 if(AK f dir name).2=0 then([],[],17)else if Lf f dir=true then([],[],28)else(JR f dir.1.toNat fun ns=>Bc ns dir.2 name a.2,[(dir,name,(0,0),a)],0)
section
theorem fX(f:AR)(dir:AB)(name:AE)(a:AB)(hv:FlsV f)(hs:name.size≤100000):AFn prog 172 [.agg (Al f), .agg (AA dir), .v (.string name), .agg (AA a)] (fun r=>r=Cd (El f dir name a)):=by
 have hf:=hv.b;refine enter Tryz.func172 rfl rfl rfl rfl rfl 0 rfl ?_;refine Fd (h:=b_ (h:=CY (h:=a_ (h:=B4 (h:=q_ (Ha (h:=?_)))))));refine A3 rfl (A8 (Nh f dir name hf hs) ?_);rintro r rfl;refine Bu (h:=Bo (h:=?_));refine A4 rfl (fun hb1 hc1=>?_) (fun hb1 hc1=>?_)
 ·refine w_ (Gw (h:=EO (h:=?_)));refine AU (r:=Cd (El f dir name a)) none (h5:=?_) (h6:=⟨rfl,rfl,rfl⟩);rw[El,if_pos (by omega)];exact EM _
 refine AF (CN (h:=?_));refine A3 rfl (A8 (FF f a hf) ?_);rintro r rfl;refine Gr (h:=?_);refine A4 rfl (fun hb2 hc2=>?_) (fun hb2 hc2=>?_)
 ·refine Ew (h:=?_);refine AU (r:=Cd (El f dir name a)) none (h5:=?_) (h6:=⟨rfl,rfl,rfl⟩);rw[El,if_neg (by omega),if_pos hc2];exact EM _
 refine DQ (h:=C6 (h:=e_ (?_)));refine A4 rfl (fun hb3 hc3=>?_) (fun hb3 hc3=>?_)
 ·refine Ew (h:=?_);refine AU (r:=Cd (El f dir name a)) none (h5:=?_) (h6:=⟨rfl,rfl,rfl⟩);rw[El,if_neg (by omega),if_neg (by simp[hc2]),if_pos (by omega)];exact EM _
 refine DQ (h:=BN (h:=?_));refine A4 rfl (fun hb4 hc4=>?_) (fun hb4 hc4=>?_)
 ·refine Ew (h:=?_);refine AU (r:=Cd (El f dir name a)) none (h5:=?_) (h6:=⟨rfl,rfl,rfl⟩);rw[El,if_neg (by omega),if_neg (by simp[hc2]),if_neg (by omega),if_pos hc4];exact EM _
 refine FD (h:=Ha (h:=?_));refine A3 rfl (A8 (Kk f dir name hf) ?_);rintro r rfl;refine FC (h:=Bu (h:=BN (h:=?_)));refine A4 rfl (fun hb5 hc5=>?_) (fun hb5 hc5=>?_)
 ·refine Ew (h:=?_);refine AU (r:=Cd (El f dir name a)) none (h5:=?_) (h6:=⟨rfl,rfl,rfl⟩);rw[El,if_neg (by omega),if_neg (by simp[hc2]),if_neg (by omega),if_neg hc4,if_pos hc5];exact EM _
 refine FD (h:=CN (h:=?_));refine A3 rfl (A8 (Sb f dir hf) ?_);rintro r rfl;refine e_ (?_);refine A4 rfl (fun hb6 hc6=>?_) (fun hb6 hc6=>?_)
 ·refine Ew (h:=?_);refine AU (r:=Cd (El f dir name a)) none (h5:=?_) (h6:=⟨rfl,rfl,rfl⟩);rw[El,if_neg (by omega),if_neg (by simp[hc2]),if_neg (by omega),if_neg hc4,if_neg hc5,if_pos hc6];exact EM _
 obtain⟨q,i,d,n0,hdq,hq,hn0,hino,hidx,hnode,hk0,hnm⟩:=KN (name:=name) (dir:=dir) (f:=f) (by omega);have hil:=(Ab.1 hn0).1;have hql:=(Ab.1 hq).1;refine AF (C5 (h:=?_));refine A3 rfl (Bg [] rfl (.cons _ _ _ _ _ rfl (A7 _) .nil) (by decide) .nil (Nr f q d hf hq (by omega)) ?_);rintro r bc tc ⟨rfl,cap,cap1,hcap,hcap1,rfl,rfl⟩;refine⟨rfl,_,(Nw (n:=6) rfl f q d d.nodes cap cap1:Back _ [] _ [_,_,_,_,_,_,_,_]),?_⟩;refine Dz (h:=Ha (h:=Aa (h:=?_)));refine A3 rfl (Bg [6,7] rfl (.cons _ _ _ _ _ rfl (A7 _) (.cons _ _ _ _ _ rfl (A7 _) (.cons _ _ _ _ _ rfl (A7 _) (.cons _ _ _ _ _ rfl (A7 _) .nil)))) (by decide) (.cons _ _ _ _ _ rfl (Jr (by rfl) _ _ _ _ _) (.cons _ _ _ _ _ rfl (JQ _ _ _) .nil)) (Oy f q d n0 i dir name a.2 cap cap1 hf hq hdq hidx hn0 hcap hcap1) ?_);rintro r bc tc ⟨rfl,rfl,rfl⟩;refine⟨rfl,_,(Nx (BW rfl) (BW rfl) (by decide) f q d _ cap cap1 cap1:Back _ [6,7] _ [_,_,_,_,_,_,_,_,_]),?_⟩;refine e_ (?_);refine B9 (fun t=>t=⟨look [(8, .bp 3 0),(9, .sl 7 [EZ (dir,name,(0,0),a)] none),(10, .v (.int .i64 0))],⟨[Al f,AA dir,AA a,Al (f.set q {d with nodes:=d.nodes.set i {n0 with entries:=D4 n0.entries name a.2}})],[]⟩⟩) ?_ ?_
 ·skip
  refine BO ([(0,Al f),(1,AA dir),(2,AA a),(6,DB f q d 7 cap cap1),(7,NB (d.nodes.set i {n0 with entries:=D4 n0.entries name a.2}) cap1),(8,[.bs 6 0 2 f.length cap])]) 9 (h:=A9 0 (h:=A9 1 (h:=AG 2 (h:=?_))));refine By 3 rfl (fun _ hS=>H7 (y:= .agg (AA (0,0))) (Dn ⟨rfl,rfl⟩) (by repeat (first|exact A7 _|exact LeA.nil _|exact LeL.refl _|refine LeA.agg ⟨rfl,rfl⟩|refine LeA.tup ⟨rfl,rfl⟩|exact LeL.nil|refine LeL.cons ⟨rfl,rfl⟩ ⟨rfl,rfl⟩|exact LeA.any _)) ⟨rfl,rfl⟩) ?_;refine A9 4 (h:=?_);refine c_ 5 rfl (A8 (N0 dir name (0,0) a) ?_);rintro r rfl;refine o_ (h:=?_);refine B6 6 (h:=BB 7 (h:=BB 8 (h:=z_ (h:=?_))));refine AT ?_;exact⟨_,rfl,H8 4 2 rfl (by show[_,_,_,Jj 4 (EV 4 _ 2) [.bs 6 0 2 f.length cap]]=_;rw[LG (k:=0) (i:=6) (j:=7) (d:=d) (d':={d with nodes:=d.nodes.set i {n0 with entries:=D4 n0.entries name a.2}}) hql rfl (by simp) hcap (by simpa using hcap1) (by decide) (by decide) rfl rfl];rfl) (.cons _ _ _ _ rfl (A7 _) (.cons _ _ _ _ rfl (A7 _) (.cons _ _ _ _ rfl (A7 _) .nil)))⟩
 rintro t rfl;refine B5 (?_);refine A6 ?_;rw[El,if_neg (by omega),if_neg (by simp[hc2]),if_neg (by omega),if_neg hc4,if_neg hc5,if_neg (by simp[hc6]),hdq,Int.toNat_natCast,Ju hq,←hino];unfold Bc;rw[←PB (hv.vd d (Aj hq)).asc hn0];rfl
end
end Go.Proofs.YtbgnigjfkbmceaaGreatDoor
