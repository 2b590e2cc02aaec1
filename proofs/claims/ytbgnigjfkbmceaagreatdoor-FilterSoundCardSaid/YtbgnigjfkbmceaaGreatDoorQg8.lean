/-
  Part 8 of the proof of FilterSoundP: what the statement's proof uses of the texts in wip/tpl.
-/
import Derived.Test.YtbgnigjfkbmceaaGreatDoorQg7
open Go.Proofs.Tryz (prog)
set_option maxRecDepth 10000
set_option maxHeartbeats 4000000
set_option linter.unusedVariables false
set_option linter.unusedSimpArgs false
namespace Go.Proofs.YtbgnigjfkbmceaaGreatDoor
open Go.RowKit
theorem JQ{h:AH}{sz:Nat}{r:List AV}{tok:Option Nat}:SrcA h sz (.sl sz [r] tok) 1 r:=by
 have:=SrcA.sl (h:=h) (sz:=sz) [r] tok
 simpa using this
theorem ZA(n:Nod)(cap:Nat):AU n++List.replicate ((cap - 1) * 8) .any=NB [n] cap:=by
 unfold NB Br;simp
theorem Tu(acc:List Nod)(n:Nod)(cap0 cap:Nat):((NB acc cap0).drop 0).take (acc.length * 8)++AU n++List.replicate ((cap - (acc.length+1)) * 8) .any=NB (acc++[n]) cap:=by
 unfold NB;rw[TO (Jw acc) (by simp),List.map_append];rfl
theorem Tv{acc:List Nod}{n:Nod}{cap:Nat}{row:List AV}(hs:SetAt (NB acc cap) (0+acc.length * 8) (AU n) row)(hc:acc.length+1≤cap):row=NB (acc++[n]) cap:=by
 have key:=TN (rows:=acc.map AU) (sz:=8) (cap:=cap) (r:=AU n) (row':=row) (Jw acc) rfl (by omega) (by simpa using hc) (by rw[List.length_map];exact hs);rw[key];unfold NB;rw[List.map_append];rfl
theorem Tw{is:List Nat}:∀i,i<2→(0::1::is)[i]?=some i:=by
 intro i hi
 match i,hi with
 |0,_=>rfl
 |1,_=>rfl
theorem Tx{ns:List Nod}{j:Nat}{n:Nod}(h:ns[j]?=some n)(ino:Int):CR ino (ns.take (j+1))=CR ino (ns.take j)++(if n.ino=ino then[]else[n]):=by
 unfold CR;rw[List.take_add_one,h,List.filter_append];by_cases e:n.ino=ino<;>simp[e]
section
theorem ZB(f:AM)(q:Nat)(d:Dvc)(a:A7)(cap cap1:Nat)(hf:FlsB f)(hq:f[q]?=some d)(ha:a.1=(q:Int))(hcap:f.length≤cap)(hcap1:d.nodes.length≤cap1)(hne:0<(CR a.2 d.nodes).length):
    ACall prog 234 [.agg [.bs 0 0 2 f.length cap], .agg (A8 a)] [DB f q d 1 cap cap1,NB d.nodes cap1] (fun r b t=>t=[]∧r= .tup []∧((0<Gu f a∧b=[DB f q d 1 cap cap1,NB d.nodes cap1,[.bs 0 0 2 f.length cap],A8 a])∨(Gu f a=0∧∃cap2,(CR a.2 d.nodes).length≤cap2∧b=[DB f q {d with nodes:=CR a.2 d.nodes} 4 cap cap2,NB d.nodes cap1,[.bs 0 0 2 f.length cap],A8 a,NB (CR a.2 d.nodes) cap2]))):=by
 have hql:=(AP.1 hq).1;have hdn:=hf.nodes d (AT hq);have hD0:(DB f q d 1 cap cap1)[0+q * 2+1]?=some (.bs 1 0 8 d.nodes.length cap1):=MT hql;have hset:∀(acc:List Nod) (cap2:Nat),SetAt (DB f q d 1 cap cap1) (0+q * 2+1) [.bs 4 0 8 acc.length cap2] (DB f q {d with nodes:=acc} 4 cap cap2):=fun acc cap2=>QT hql (by repeat constructor) (by simp);refine enter Tryz.func234 rfl rfl rfl rfl rfl 5 rfl ?_;refine EV (h:=e_ (q_ (Bl (h:=?_))));refine A3 rfl (KO 2 rfl (.cons _ _ _ _ _ rfl (LeA.of_eq (Jz hq hcap hcap1 (BO _) (BO _) rfl rfl)) (.cons _ _ _ _ _ rfl (A9 _) .nil)) (Xg f a hf) ?_);rintro r rfl;refine⟨rfl,?_⟩;refine Dk (h:=?_);refine A6 rfl (fun hb1 hc1=>?_) (fun hb1 hc1=>?_)
 ·have hl:0<Gu f a:=by omega
  refine Ax (BS (?_));refine Ag (r:= .tup []) none (h4:=(by simp[B4,Az,Aw,C3,C4,A8])) (h5:=(A9 _)) (h6:=⟨rfl,rfl, .inl ⟨hl,rfl⟩⟩)
 have hl:Gu f a=0:=by omega
 refine AK (Df (h:=w_ (f_ (h:=?_))));refine A3 rfl (Cy rfl rfl rfl ?_);refine AN (h:=?_);refine A3 rfl (Cr (m:=q) rfl rfl ha hql ?_);refine f_ (h:=?_);refine A3 rfl (Cy rfl rfl hD0 ?_);refine B5 (h:=D8 (h:=?_));refine BX (fun m t=>∃(j:Nat) (acc:List Nod),j≤d.nodes.length∧m=d.nodes.length - j∧CR a.2 (d.nodes.take j)=acc∧acc.length≤j∧((acc=[]∧t=⟨look [(2, .bp 2 0),(3, .bp 3 0),(4, .v (.slice none 0 0)),(5, .bs 1 0 8 d.nodes.length cap1),(6, .v (.int .i64 (j:Int)))],⟨[DB f q d 1 cap cap1,NB d.nodes cap1,[.bs 0 0 2 f.length cap],A8 a],[]⟩⟩)∨(∃cap2,acc.length≤cap2∧t=⟨look [(2, .bp 2 0),(3, .bp 3 0),(4, .bs 4 0 8 acc.length cap2),(5, .bs 1 0 8 d.nodes.length cap1),(6, .v (.int .i64 (j:Int)))],⟨[DB f q d 1 cap cap1,NB d.nodes cap1,[.bs 0 0 2 f.length cap],A8 a,NB acc cap2],[]⟩⟩))) (d.nodes.length) (CK 4 0 (by simp[B4,Az,Aw,C3,C4,A8,AU])) (⟨0,[],BO _,rfl,rfl,Al _, .inl ⟨rfl,rfl⟩⟩) ?_;rintro m t ⟨j,acc,hj,rfl,hacc,hal,⟨rfl,rfl⟩|⟨cap2,hcp,rfl⟩⟩
 ·skip
  refine Dv (h:=?_);refine A3 rfl (Ph rfl ?_);refine BZ (h:=?_);refine A6 rfl (fun hb2 hc2=>?_) (fun hb2 hc2=>?_)
  ·have hlt:j<d.nodes.length:=by omega
   obtain⟨n,hy⟩:∃n,d.nodes[j]?=some n:=⟨_,BA hlt⟩;have hk:=Tx hy a.2;refine AK (q_ (BL (q_ (E4 8 (h:=Ac 0 (h:=Ac 1 (h:=?_)))))));refine Ft (i:=2) rfl (Cr (m:=j) rfl rfl rfl hlt ⟨rfl,rfl⟩) ?_;refine Ar 3 (h:=?_);refine Ft (i:=4) rfl (Cy rfl rfl (Tg hy rfl) ⟨rfl,rfl⟩) ?_;refine Ar 5 (h:=AD 6 (h:=O1 7 (h:=z_ (h:=t_ (?_)))));refine A6 rfl (fun hb3 hc3=>?_) (fun hb3 hc3=>?_)
   ·rw[if_neg hc3]at hk;refine BV (h:=DF (h:=?_));refine A3 rfl (Cr (m:=j) rfl rfl rfl hlt ?_);refine A3 rfl (J0 rfl rfl (by rw[MS hcap1];omega) (OJ hy) ?_);refine Cd (h:=?_);refine A3 rfl (Po rfl rfl JQ (by omega) (by omega) ?_);rintro cap2 k bx2 hcp hs;rw[show Bu (.agg (AU n))++List.replicate ((cap2 - 1) * 8) AV.any=NB [n] cap2 from ZA n cap2]at hs;obtain⟨rfl,rfl⟩:k=4∧bx2=[_,_,_,_,_]:=hs.eq;refine EG (h:=EH (h:=?_));exact⟨d.nodes.length - (j+1),_,by omega,⟨j+1,[n],by omega,rfl,(by rw[hk,hacc];rfl),by simp, .inr ⟨cap2,hcp,rfl⟩⟩,Aj 5 0 rfl rfl rfl (by simp[B4,Az,Aw,C3,C4,A8,AU]) ((by repeat (first|exact Sub.nil|refine Ak rfl rfl ?_|refine Ao ?_|refine Ap rfl ?_|refine Aq rfl ?_)))⟩
   rw[if_pos hc3,List.append_nil]at hk;refine Di (h:=?_)
   first|exact⟨d.nodes.length - (j+1),_,by omega,⟨j+1,[n],by omega,rfl,(by rw[hk,hacc];rfl),by simp, .inr ⟨cap2,hcp,rfl⟩⟩,Aj 5 0 rfl rfl rfl (by simp[B4,Az,Aw,C3,C4,A8,AU]) ((by repeat (first|exact Sub.nil|refine Ak rfl rfl ?_|refine Ao ?_|refine Ap rfl ?_|refine Aq rfl ?_)))⟩|exact⟨d.nodes.length - (j+1),_,by omega,⟨j+1,[],by omega,rfl,(by rw[hk,hacc]),by simp, .inl ⟨rfl,rfl⟩⟩,Aj 4 0 rfl rfl rfl (by simp[B4,Az,Aw,C3,C4,A8,AU]) ((by repeat (first|exact Sub.nil|refine Ak rfl rfl ?_|refine Ao ?_|refine Ap rfl ?_|refine Aq rfl ?_)))⟩
  exfalso;obtain rfl:j=d.nodes.length:=by omega
  rw[List.take_length]at hacc;rw[hacc]at hne;exact absurd hne (by simp)
 skip
 refine Dv (h:=?_);refine A3 rfl (Ph rfl ?_);refine BZ (h:=?_);refine A6 rfl (fun hb4 hc4=>?_) (fun hb4 hc4=>?_)
 ·have hlt:j<d.nodes.length:=by omega
  obtain⟨n,hy⟩:∃n,d.nodes[j]?=some n:=⟨_,BA hlt⟩;have hk:=Tx hy a.2;refine AK (q_ (BL (q_ (E4 8 (h:=Ac 0 (h:=Ac 1 (h:=?_)))))));refine Ft (i:=2) rfl (Cr (m:=j) rfl rfl rfl hlt ⟨rfl,rfl⟩) ?_;refine Ar 3 (h:=?_);refine Ft (i:=4) rfl (Cy rfl rfl (Tg hy rfl) ⟨rfl,rfl⟩) ?_;refine Ar 5 (h:=AD 6 (h:=O1 7 (h:=z_ (h:=t_ (?_)))));refine A6 rfl (fun hb5 hc5=>?_) (fun hb5 hc5=>?_)
  ·rw[if_neg hc5]at hk;refine BV (h:=DF (h:=?_));refine A3 rfl (Cr (m:=j) rfl rfl rfl hlt ?_);refine A3 rfl (J0 rfl rfl (by rw[MS hcap1];omega) (OJ hy) ?_);refine Cd (h:=?_);refine A3 rfl (L6 rfl rfl rfl (by rw[MS hcp];omega) JQ (by omega) (by omega) ?_ ?_)
   ·rintro hg row2 bx2 hs hb;obtain rfl:=Tv hs hg;obtain rfl:bx2=[_,_,_,_,_]:=hb.one.2;refine EG (h:=EH (h:=?_));exact⟨d.nodes.length - (j+1),_,by omega,⟨j+1,acc++[n],by omega,rfl,(by rw[hk,hacc]),by simp;omega, .inr ⟨cap2,by simpa using hg,by rw[List.length_append];rfl⟩⟩,Aj 5 0 rfl rfl rfl (by simp[B4,Az,Aw,C3,C4,A8,AU]) ((by repeat (first|exact Sub.nil|refine Ak rfl rfl ?_|refine Ao ?_|refine Ap rfl ?_|refine Aq rfl ?_)))⟩
   rintro hg cap3 k bx2 hcp3 hs;rw[show((NB acc cap2).drop 0).take (acc.length * 8)++Bu (.agg (AU n))++List.replicate ((cap3 - (acc.length+1)) * 8) AV.any=NB (acc++[n]) cap3 from Tu acc n cap2 cap3]at hs;obtain⟨rfl,rfl⟩:k=5∧bx2=[_,_,_,_,_,_]:=hs.eq;refine EG (h:=EH (h:=?_))
   first|exact⟨d.nodes.length - (j+1),_,by omega,⟨j+1,acc++[n],by omega,rfl,(by rw[hk,hacc]),by simp;omega, .inr ⟨cap2,by simpa using hg,by rw[List.length_append];rfl⟩⟩,Aj 5 0 rfl rfl rfl (by simp[B4,Az,Aw,C3,C4,A8,AU]) ((by repeat (first|exact Sub.nil|refine Ak rfl rfl ?_|refine Ao ?_|refine Ap rfl ?_|refine Aq rfl ?_)))⟩|exact⟨d.nodes.length - (j+1),_,by omega,⟨j+1,acc++[n],by omega,rfl,(by rw[hk,hacc]),by simp;omega, .inr ⟨cap3,by simpa using hcp3,by rw[List.length_append];rfl⟩⟩,E3 [0,1,2,3,5] Tw (by decide) (.cons _ _ _ _ _ rfl (Ki (by rfl) _ _ _ _ _) (.cons _ _ _ _ _ rfl (JP _ _ _) (.cons _ _ _ _ _ rfl rfl (.cons _ _ _ _ _ rfl rfl (.cons _ _ _ _ _ rfl (JP _ _ _) .nil))))) (by repeat (first|exact SubK.nil|refine SubK.cons _ _ _ _ rfl (A9 _) ?_))⟩
  rw[if_pos hc5,List.append_nil]at hk;refine Di (h:=?_)
  first|exact⟨d.nodes.length - (j+1),_,by omega,⟨j+1,acc++[n],by omega,rfl,(by rw[hk,hacc]),by simp;omega, .inr ⟨cap2,by simpa using hg,by rw[List.length_append];rfl⟩⟩,Aj 5 0 rfl rfl rfl (by simp[B4,Az,Aw,C3,C4,A8,AU]) ((by repeat (first|exact Sub.nil|refine Ak rfl rfl ?_|refine Ao ?_|refine Ap rfl ?_|refine Aq rfl ?_)))⟩|exact⟨d.nodes.length - (j+1),_,by omega,⟨j+1,acc++[n],by omega,rfl,(by rw[hk,hacc]),by simp;omega, .inr ⟨cap3,by simpa using hcp3,by rw[List.length_append];rfl⟩⟩,E3 [0,1,2,3,5] Tw (by decide) (.cons _ _ _ _ _ rfl (Ki (by rfl) _ _ _ _ _) (.cons _ _ _ _ _ rfl (JP _ _ _) (.cons _ _ _ _ _ rfl rfl (.cons _ _ _ _ _ rfl rfl (.cons _ _ _ _ _ rfl (JP _ _ _) .nil))))) (by repeat (first|exact SubK.nil|refine SubK.cons _ _ _ _ rfl (A9 _) ?_))⟩|exact⟨d.nodes.length - (j+1),_,by omega,⟨j+1,acc,by omega,rfl,(by rw[hk,hacc]),by omega, .inr ⟨cap2,hcp,rfl⟩⟩,Aj 5 0 rfl rfl rfl (by simp[B4,Az,Aw,C3,C4,A8,AU]) ((by repeat (first|exact Sub.nil|refine Ak rfl rfl ?_|refine Ao ?_|refine Ap rfl ?_|refine Aq rfl ?_)))⟩
 obtain rfl:j=d.nodes.length:=by omega
 rw[List.take_length]at hacc;refine Cg (h:=B2 (f_ (h:=?_)));refine A3 rfl (Cy rfl rfl rfl ?_);refine AN (h:=m_ (h:=?_));refine A3 rfl (Cr (m:=q) rfl rfl ha hql ?_);refine f_ (h:=?_);refine Ng (F1 rfl rfl rfl rfl rfl rfl (hset _ _) (by repeat constructor) ?_);refine CP (?_);refine Pq (r:= .tup []) none (h4:=(by simp[B4,Az,Aw,C3,C4,A8])) (h5:=(A9 _)) (h6:=⟨rfl,rfl, .inr ⟨hl,cap2,by rw[hacc];exact hcp,by rw[hacc];rfl⟩⟩)
end
end Go.Proofs.YtbgnigjfkbmceaaGreatDoor
namespace Go.Proofs.YtbgnigjfkbmceaaGreatDoor
theorem Ty:∀x:List UInt8,Op.bytesLess x x=false
 |[]=>rfl
 |a::x=>by simp[Op.bytesLess,Ty x]
theorem Tz:∀x y z:List UInt8,Op.bytesLess x y=true→Op.bytesLess y z=true→Op.bytesLess x z=true
 |_,[],_,h,_=>by cases ‹List UInt8›<;>simp[Op.bytesLess]at h
 |_,_::_,[],_,h=>by simp[Op.bytesLess]at h
 |[],_::_,_::_,_,_=>rfl
 |a::x,b::y,c::z,h,k=>by
   simp only[Op.bytesLess,Bool.or_eq_true,Bool.and_eq_true,decide_eq_true_iff,beq_iff_eq]at h k ⊢;rcases h with h|⟨rfl,h⟩
   ·rcases k with k|⟨rfl,k⟩
    ·exact .inl (UInt8.lt_trans h k)
    exact .inl h
   rcases k with k|⟨rfl,k⟩
   ·exact .inl k
   exact .inr ⟨rfl,Tz x y z h k⟩
theorem U0:∀x y:List UInt8,Op.bytesLess x y=false→x≠y→Op.bytesLess y x=true
 |[],[],_,h=>absurd rfl h
 |[],_::_,h,_=>by simp[Op.bytesLess]at h
 |_::_,[],_,_=>rfl
 |a::x,b::y,h,k=>by
   simp only[Op.bytesLess,Bool.or_eq_false_iff,decide_eq_false_iff_not,Bool.and_eq_false_iff,beq_eq_false_iff_ne]at h;simp only[Op.bytesLess,Bool.or_eq_true,Bool.and_eq_true,decide_eq_true_iff,beq_iff_eq];by_cases e:a=b
   ·subst e;right;refine⟨rfl,U0 x y ?_ (fun e=>k (by rw[e]))⟩;rcases h.2 with h|h
    ·exact absurd rfl h
    exact h
   left;have h1:¬a.toNat<b.toNat:=h.1;have h2:a.toNat≠b.toNat:=fun e'=>e (UInt8.toNat_inj.1 e');show b.toNat<a.toNat;omega
theorem ZC(a:AB):FA a a=false:=Ty _
theorem ZD{a b c:AB}(h:FA a b=true)(k:FA b c=true):FA a c=true:=Tz _ _ _ h k
theorem U1{a b:AB}(h:FA a b=false)(k:a≠b):FA b a=true:=by
 refine U0 _ _ h fun e=>k ?_;have:=O5 a b;rw[e]at this
 simpa using this
theorem MW{a b:AB}(h:FA a b=true):a≠b:=by rintro rfl;rw[ZC]at h;cases h
def FX(es:List B0):Prop:=es.Pairwise fun a b=>FA a.1 b.1=true
def EN(name:AB)(es:List B0):List B0:=es.filter fun e=>decide (e.1≠name)
theorem MX(name:AB)(ino:Int):∀es:List B0,G6 name ino true es=EN name es
 |[]=>rfl
 |e::r=>by
   unfold G6;simp only[Bool.not_true,Bool.false_and,Bool.true_or];rw[MX name ino r];unfold EN;rw[List.filter_cons];by_cases h:e.1=name<;>simp[h]
theorem J2(es:List B0)(name:AB):CH es name 0=EN name es:=MX name 0 es
theorem Qc(name:AB)(ino:Int):∀es:List B0,(G6 name ino false es).Perm ((name,ino)::EN name es)
 |[]=>by simp[G6,EN]
 |e::r=>by
   unfold G6;simp only[Bool.not_false,Bool.true_and,Bool.false_or]
   cases hlt:FA e.1 name with
   |false=>
     simp only[Bool.not_false,if_true];rw[MX name ino r];unfold EN;rw[List.filter_cons];by_cases h:e.1=name<;>simp[h]
   |true=>
     have hne:=MW hlt;have ih:=Qc name ino r;unfold EN at ih ⊢;rw[List.filter_cons];simp only[Bool.not_true,Bool.false_eq_true,if_false,List.nil_append,hne,ne_eq,not_false_eq_true,decide_true,if_true];exact(List.Perm.cons e ih).trans (List.Perm.swap _ _ _)
theorem JR(es:List B0)(name:AB){ino:Int}(h:ino≠0):(CH es name ino).Perm ((name,ino)::EN name es):=by
 unfold CH;rw[show(ino==0)=false by simpa using h];exact Qc name ino es
theorem Qd{es:List B0}(h:FX es)(name:AB):FX (EN name es):=List.Pairwise.filter _ h
theorem U2(name:AB)(ino:Int):∀es:List B0,FX es→FX (G6 name ino false es)
 |[],_=>by simp[G6,FX]
 |e::r,h=>by
   obtain⟨h1,h2⟩:=List.pairwise_cons.1 h;unfold G6;simp only[Bool.not_false,Bool.true_and,Bool.false_or]
   cases hlt:FA e.1 name with
   |false=>
     simp only[Bool.not_false,if_true];rw[MX name ino r]
     have hr:∀x∈EN name r,FA name x.1=true:=fun x hx=>by
      obtain⟨hx1,_⟩:=List.mem_filter.1 hx;have h3:=h1 x hx1;by_cases he:e.1=name
      ·rw[←he];exact h3
      exact ZD (U1 hlt he) h3
     by_cases he:e.1=name
     ·simp only[he,if_true,List.nil_append,List.cons_append];exact List.pairwise_cons.2 ⟨hr,Qd h2 name⟩
     simp only[he,if_false,List.cons_append,List.nil_append];refine List.pairwise_cons.2 ⟨?_,List.pairwise_cons.2 ⟨fun x hx=>h1 x (List.mem_filter.1 hx).1,Qd h2 name⟩⟩;intro x hx;rcases List.mem_cons.1 hx with rfl|hx
     ·exact U1 hlt he
     exact hr x hx
   |true=>
     have hne:=MW hlt;simp only[Bool.not_true,Bool.false_eq_true,if_false,List.nil_append,hne,List.cons_append];refine List.pairwise_cons.2 ⟨fun x hx=>?_,U2 name ino r h2⟩;have hx':=(Qc name ino r).mem_iff.1 hx;rcases List.mem_cons.1 hx' with rfl|hx'
     ·exact hlt
     exact h1 x (List.mem_filter.1 hx').1
theorem LT{es:List B0}(h:FX es)(name:AB)(ino:Int):FX (CH es name ino):=by
 unfold CH
 cases (ino==0)with
 |true=>rw[MX];exact Qd h name
 |false=>exact U2 name ino es h
def D9(es:List B0)(name:AB):Option B0:=es.find? fun e:B0=>decide (e.1=name)
theorem HU{es:List B0}{name:AB}{e:B0}(h:D9 es name=some e):e∈es∧e.1=name:=by
 have h1:=List.find?_some h;exact⟨List.mem_of_find?_eq_some h,by simpa using h1⟩
theorem OT{es:List B0}{name:AB}(h:D9 es name=none):∀e∈es,e.1≠name:=fun e he=>by
 have:=List.find?_eq_none.1 h e he
 simpa using this
theorem OU{es:List B0}{name:AB}(h:D9 es name=none):EN name es=es:=by
 unfold EN;rw[List.filter_eq_self];intro e he
 simpa using OT h e he
theorem OV{es:List B0}(hs:FX es){name:AB}{e:B0}(h:D9 es name=some e):es.Perm (e::EN name es):=by
 induction es with
 |nil=>simp[D9]at h
 |cons x r ih=>
   obtain⟨h1,h2⟩:=List.pairwise_cons.1 hs;unfold D9 at h;rw[List.find?_cons]at h;unfold EN;rw[List.filter_cons];by_cases hx:x.1=name
   ·simp only[hx,decide_true,Option.some.injEq]at h;subst h
    have:r.filter (fun e=>decide (e.1≠name))=r:=by
     rw[List.filter_eq_self];intro y hy;have:=MW (h1 y hy);simp only[ne_eq,decide_not,Bool.not_eq_true',decide_eq_false_iff_not];rw[←hx];exact fun e=>this e.symm
    rw[this];simp[hx]
   simp only[hx,decide_false]at h;have:=ih h2 h;simp only[ne_eq,hx,not_false_eq_true,decide_true,if_true];exact(List.Perm.cons x this).trans (List.Perm.swap _ _ _)
theorem OW{i:Int}{a b:List B0}(h:a.Perm b):CQ i a=CQ i b:=h.countP_eq _
theorem OX(i:Int)(e:B0)(es:List B0):CQ i (e::es)=CQ i es+(if e.2=i then 1 else 0):=by
 unfold CQ;rw[List.countP_cons];by_cases h:e.2=i<;>simp[h]
theorem U3{i:Int}{es:List B0}:0<CQ i es↔∃e∈es,e.2=i:=by
 unfold CQ;rw[List.countP_pos_iff];simp
theorem MY{i:Int}{ns:List Nod}:0<BN i ns↔∃n∈ns,∃e∈n.entries,e.2=i:=by
 unfold BN;rw[U3];constructor
 ·rintro⟨e,he,h⟩;obtain⟨n,hn,he⟩:=List.mem_flatMap.1 he;exact⟨n,hn,e,he,h⟩
 rintro⟨n,hn,e,he,h⟩;exact⟨e,List.mem_flatMap.2 ⟨n,hn,he⟩,h⟩
theorem Qe(i:Int)(a b:List Nod):BN i (a++b)=BN i a+BN i b:=by
 unfold BN CQ;rw[List.flatMap_append,List.countP_append]
theorem LU(i:Int)(n:Nod)(b:List Nod):BN i (n::b)=CQ i n.entries+BN i b:=by
 unfold BN CQ;rw[List.flatMap_cons,List.countP_append]
def CL(ns:List Nod)(ino:Int)(g:Nod→Nod):List Nod:=ns.map fun n=>if n.ino=ino then g n else n
def Dm(ns:List Nod):Prop:=ns.Pairwise fun a b=>a.ino<b.ino
theorem DA{ns:List Nod}(h:Dm ns){a b:Nod}(ha:a∈ns)(hb:b∈ns)(e:a.ino=b.ino):a=b:=by
 induction ns with
 |nil=>cases ha
 |cons x r ih=>
   obtain⟨h1,h2⟩:=List.pairwise_cons.1 h;rcases List.mem_cons.1 ha with rfl|ha
   ·rcases List.mem_cons.1 hb with rfl|hb
    ·rfl
    have:=h1 b hb;omega
   rcases List.mem_cons.1 hb with hb|hb
   ·subst hb;have:=h1 a (by assumption);omega
   exact ih h2 (by assumption) hb
theorem U4{ns:List Nod}(h:Dm ns){n:Nod}(hn:n∈ns):∃A B,ns=A++n::B∧(∀m∈A,m.ino≠n.ino)∧∀m∈B,m.ino≠n.ino:=by
 obtain⟨A,B,rfl⟩:=List.append_of_mem hn;obtain⟨h1,h2,h3⟩:=List.pairwise_append.1 h;obtain⟨h4,_⟩:=List.pairwise_cons.1 h2;exact⟨A,B,rfl,fun m hm=>by have:=h3 m hm n (by simp);omega,fun m hm=>by have:=h4 m hm;omega⟩
theorem ZE{A B:List Nod}{n:Nod}(hA:∀m∈A,m.ino≠n.ino)(hB:∀m∈B,m.ino≠n.ino)(g:Nod→Nod):CL (A++n::B) n.ino g=A++g n::B:=by
 unfold CL;rw[List.map_append,List.map_cons,if_pos rfl]
 congr 1
 ·rw[List.map_congr_left (g:=id) fun m hm=>by simp[hA m hm]];simp
 congr 1
 rw[List.map_congr_left (g:=id) fun m hm=>by simp[hB m hm]];simp
theorem GT{ns:List Nod}{ino:Int}{g:Nod→Nod}{m:Nod}:m∈CL ns ino g↔∃n∈ns,m=if n.ino=ino then g n else n:=by
 unfold CL;rw[List.mem_map];constructor
 ·rintro⟨n,hn,rfl⟩;exact⟨n,hn,rfl⟩
 rintro⟨n,hn,rfl⟩;exact⟨n,hn,rfl⟩
theorem ZF{ns:List Nod}{ino:Int}{g:Nod→Nod}(hg:∀n,(g n).ino=n.ino):(CL ns ino g).map (·.ino)=ns.map (·.ino):=by
 unfold CL;rw[List.map_map];apply List.map_congr_left;intro n _;simp only[Function.comp];split
 ·exact hg n
 rfl
theorem Qf{ns:List Nod}:Dm ns↔(ns.map (·.ino)).Pairwise (· < ·):=by
 unfold Dm;rw[List.pairwise_map]
theorem U5{ns:List Nod}(h:Dm ns)(ino:Int){g:Nod→Nod}(hg:∀n,(g n).ino=n.ino):Dm (CL ns ino g):=by
 rw[Qf]at h ⊢;rw[ZF hg];exact h
theorem Qg{ns:List Nod}(h:Dm ns){n:Nod}(hn:n∈ns)(g:Nod→Nod)(i:Int):BN i (CL ns n.ino g)+CQ i n.entries=BN i ns+CQ i (g n).entries:=by
 obtain⟨A,B,rfl,hA,hB⟩:=U4 h hn;rw[ZE hA hB];simp only[Qe,LU];omega
end Go.Proofs.YtbgnigjfkbmceaaGreatDoor
namespace Go.Proofs.YtbgnigjfkbmceaaGreatDoor
structure VD(d:Dvc):Prop where
 len:d.nodes.length≤16
 next2:2≤d.next
 nextM:d.next≤1073741824
 root:∃r rest,d.nodes=r::rest∧r.ino=1∧r.kind=2∧r.parent=1
 asc:Dm d.nodes
 lt:∀n∈d.nodes,n.ino<d.next
 plain:∀n∈d.nodes,FU n=true
 leaf:∀n∈d.nodes,n.kind≠2→n.parent=0∧n.entries=[]
 many:∀n∈d.nodes,n.entries.length≤12
 sorted:∀n∈d.nodes,FX n.entries
 ent:∀n∈d.nodes,∀e∈n.entries,Dl e.1=true∧e.2≠1∧∃m∈d.nodes,m.ino=e.2
 link:∀n∈d.nodes,n.ino≠1→0<BN n.ino d.nodes
 one:∀n∈d.nodes,n.ino≠1→n.kind=2→BN n.ino d.nodes=1
 par:∀n∈d.nodes,n.ino≠1→n.kind=2→∃p∈d.nodes,p.ino=n.parent∧∃e∈p.entries,e.2=n.ino
 rank:∃rk:Int→Nat,∀n∈d.nodes,n.ino≠1→n.kind=2→rk n.parent<rk n.ino
theorem VD.pos{d:Dvc}(h:VD d){n:Nod}(hn:n∈d.nodes):1≤n.ino:=by
 obtain⟨r,rest,hr,h1,_⟩:=h.root;have ha:=h.asc;rw[hr]at hn ha;rcases List.mem_cons.1 hn with rfl|hn
 ·omega
 have:=(List.pairwise_cons.1 ha).1 n hn;omega
theorem VD.rootMem{d:Dvc}(h:VD d):∃r∈d.nodes,r.ino=1∧r.kind=2∧r.parent=1:=by
 obtain⟨r,rest,hr,h1,h2,h3⟩:=h.root;exact⟨r,by rw[hr];simp,h1,h2,h3⟩
theorem VD.isRoot{d:Dvc}(h:VD d){n:Nod}(hn:n∈d.nodes)(h1:n.ino=1):n.kind=2∧n.parent=1:=by
 obtain⟨r,hr,h2,h3,h4⟩:=h.rootMem;obtain rfl:=DA h.asc hn hr (by omega);exact⟨h3,h4⟩
theorem VD.dirOf{d:Dvc}(h:VD d){n:Nod}(hn:n∈d.nodes){e:B0}(he:e∈n.entries):n.kind=2:=by
 apply Classical.byContradiction;intro hk;rw[(h.leaf n hn hk).2]at he;cases he
def MZ(name:AB)(ino:Int)(n:Nod):Nod:={n with entries:=CH n.entries name ino}
def BE(ns:List Nod)(p:Int)(name:AB)(ino:Int):List Nod:=CL ns p (MZ name ino)
structure AsWas(p:Int)(name:AB)(to_:Int)(n m:Nod):Prop where
 ino:m.ino=n.ino
 kind:m.kind=n.kind
 parent:m.parent=n.parent
 plain:FU m=FU n
 ents:m.entries=if n.ino=p then CH n.entries name to_ else n.entries
theorem Qh(p:Int)(name:AB)(ino:Int)(n:Nod):AsWas p name ino n (if n.ino=p then MZ name ino n else n):=by
 by_cases h:n.ino=p
 ·simp only[h,if_true];exact⟨h ▸ rfl,rfl,rfl,rfl,by simp[h,MZ]⟩
 simp only[h,if_false];exact⟨rfl,rfl,rfl,rfl,by simp[h]⟩
theorem Eu{ns:List Nod}{p:Int}{name:AB}{ino:Int}{m:Nod}(h:m∈BE ns p name ino):∃n∈ns,AsWas p name ino n m:=by
 obtain⟨n,hn,rfl⟩:=GT.1 h;exact⟨n,hn,Qh p name ino n⟩
theorem K0{ns:List Nod}(p:Int)(name:AB)(ino:Int){n:Nod}(h:n∈ns):∃m∈BE ns p name ino,AsWas p name ino n m:=⟨_,GT.2 ⟨n,h,rfl⟩,Qh p name ino n⟩
theorem LV{ns:List Nod}(h:Dm ns)(p:Int)(name:AB)(ino:Int):Dm (BE ns p name ino):=U5 h p fun _=>rfl
theorem Qi(ns:List Nod)(p:Int)(name:AB)(ino:Int):(BE ns p name ino).length=ns.length:=by simp[BE,CL]
theorem Ma{ns:List Nod}(h:Dm ns){n0:Nod}(hn:n0∈ns)(name:AB)(ino i:Int):BN i (BE ns n0.ino name ino)+CQ i n0.entries=BN i ns+CQ i (CH n0.entries name ino):=Qg h hn (MZ name ino) i
theorem Qj{ns:List Nod}(p:Int)(name:AB)(ino:Int)(h:∃r rest,ns=r::rest∧r.ino=1∧r.kind=2∧r.parent=1):∃r rest,BE ns p name ino=r::rest∧r.ino=1∧r.kind=2∧r.parent=1:=by
 obtain⟨r,rest,rfl,h1,h2,h3⟩:=h;have:=Qh p name ino r;exact⟨_,_,rfl,this.ino.trans h1,this.kind.trans h2,this.parent.trans h3⟩
def b1(p:Prop)[Decidable p]:Nat:=if p then 1 else 0
theorem U6{es:List B0}(hs:FX es){name:AB}{e:B0}(h:D9 es name=some e)(i:Int):CQ i (CH es name 0)+b1 (e.2=i)=CQ i es:=by
 rw[J2,OW (OV hs h),OX];rfl
theorem Qk{es:List B0}{name:AB}(h:D9 es name=none){ino:Int}(h0:ino≠0)(i:Int):CQ i (CH es name ino)=CQ i es+b1 (ino=i):=by
 rw[OW (JR es name h0),OX,OU h];rfl
theorem ZG{es:List B0}(hs:FX es){name:AB}{e:B0}(h:D9 es name=some e){ino:Int}(h0:ino≠0)(i:Int):CQ i (CH es name ino)+b1 (e.2=i)=CQ i es+b1 (ino=i):=by
 rw[OW (JR es name h0),OW (OV hs h),OX,OX];show CQ i _+b1 (ino=i)+b1 (e.2=i)=CQ i _+b1 (e.2=i)+b1 (ino=i);omega
theorem Mb{es:List B0}{name:AB}{ino:Int}{e:B0}(h:e∈CH es name ino):e∈es∨(e=(name,ino)∧ino≠0):=by
 by_cases h0:ino=0
 ·subst h0;rw[J2]at h;exact .inl (List.mem_filter.1 h).1
 rcases List.mem_cons.1 ((JR es name h0).mem_iff.1 h)with h|h
 ·exact .inr ⟨h,h0⟩
 exact .inl (List.mem_filter.1 h).1
theorem Mc{es:List B0}{name:AB}{ino:Int}{e:B0}(h:e∈es)(hn:e.1≠name):e∈CH es name ino:=by
 have hw:e∈EN name es:=List.mem_filter.2 ⟨h,by simpa using hn⟩;by_cases h0:ino=0
 ·subst h0;rw[J2];exact hw
 exact(JR es name h0).mem_iff.2 (List.mem_cons_of_mem _ hw)
theorem U7{es:List B0}{name:AB}{ino:Int}(h0:ino≠0):(name,ino)∈CH es name ino:=(JR es name h0).mem_iff.2 (by simp)
theorem Md{p:Prop}[Decidable p](h:p):b1 p=1:=if_pos h
theorem Kk{p:Prop}[Decidable p](h:¬p):b1 p=0:=if_neg h
theorem VD.cnt_next{d:Dvc}(h:VD d){i:Int}(hi:d.next≤i):BN i d.nodes=0:=by
 apply Classical.byContradiction;intro hc;obtain⟨n,hn,e,he,rfl⟩:=MY.1 (Nat.pos_of_ne_zero hc);obtain⟨m,hm,e2⟩:=(h.ent n hn e he).2.2;have:=h.lt m hm;omega
theorem VD.make{d:Dvc}(h:VD d){n0:Nod}(hn0:n0∈d.nodes)(hk:n0.kind=2){name:AB}(hname:Dl name=true)(hnew:D9 n0.entries name=none){n:Nod}(hp:FU n=true)(hlen:d.nodes.length<16)(hnx:d.next<1073741824)(hfull:n0.entries.length<12):
    VD ⟨d.next+1,BE d.nodes n0.ino name d.next++[Ec n d.next n0.ino]⟩:=by
 have hnext0:d.next≠0:=by have:=h.next2;omega
 have hcnt:∀i,BN i (BE d.nodes n0.ino name d.next++[Ec n d.next n0.ino])=BN i d.nodes+b1 (d.next=i):=by
  intro i;have h1:=Ma h.asc hn0 name d.next i;rw[Qk hnew hnext0]at h1;rw[Qe,LU];have h2:CQ i (Ec n d.next n0.ino).entries=0:=rfl;have h3:BN i []=0:=rfl;omega
 have hmem:∀m,m∈BE d.nodes n0.ino name d.next++[Ec n d.next n0.ino]→(∃n'∈d.nodes,AsWas n0.ino name d.next n' m)∨m=Ec n d.next n0.ino:=by
  intro m hm;rcases List.mem_append.1 hm with hm|hm
  ·exact .inl (Eu hm)
  exact .inr (by simpa using hm)
 have hto:∀n'∈d.nodes,∃m∈BE d.nodes n0.ino name d.next++[Ec n d.next n0.ino],AsWas n0.ino name d.next n' m:=fun n' hn'=>by
  obtain⟨m,hm,hw⟩:=K0 n0.ino name d.next hn';exact⟨m,List.mem_append_left _ hm,hw⟩
 have hold:∀{n' m:Nod} {e:B0},AsWas n0.ino name d.next n' m→n'∈d.nodes→e∈n'.entries→e∈m.entries:=by
  intro n' m e hw hn' he;rw[hw.ents];split
  ·rename_i heq;obtain rfl:=DA h.asc hn' hn0 heq;exact Mc he (OT hnew e he)
  exact he
 refine⟨?_,?_,?_,?_,?_,?_,?_,?_,?_,?_,?_,?_,?_,?_,?_⟩
 ·show(BE d.nodes n0.ino name d.next++[Ec n d.next n0.ino]).length≤16;rw[List.length_append,Qi];simp;omega
 ·show 2≤d.next+1;have:=h.next2;omega
 ·show d.next+1≤1073741824;omega
 ·obtain⟨r,rest,hr,h1⟩:=Qj n0.ino name d.next h.root;exact⟨r,rest++[Ec n d.next n0.ino],by show _++_=_;rw[hr];rfl,h1⟩
 ·refine List.pairwise_append.2 ⟨LV h.asc _ _ _,by simp,fun a ha b hb=>?_⟩;obtain⟨n',hn',hw⟩:=Eu ha;simp at hb;subst hb;have:=h.lt n' hn';rw[hw.ino];exact this
 ·intro m hm;show m.ino<d.next+1;rcases hmem m hm with⟨n',hn',hw⟩|rfl
  ·have:=h.lt n' hn';rw[hw.ino];omega
  show d.next<d.next+1;omega
 ·intro m hm;rcases hmem m hm with⟨n',hn',hw⟩|rfl
  ·rw[hw.plain];exact h.plain n' hn'
  exact hp
 ·intro m hm hk';rcases hmem m hm with⟨n',hn',hw⟩|rfl
  ·rw[hw.kind]at hk';obtain⟨h1,h2⟩:=h.leaf n' hn' hk';refine⟨hw.parent.trans h1,?_⟩;rw[hw.ents,if_neg,h2];intro e;obtain rfl:=DA h.asc hn' hn0 e;exact hk' hk
  exact⟨if_neg hk',rfl⟩
 ·intro m hm;rcases hmem m hm with⟨n',hn',hw⟩|rfl
  ·rw[hw.ents];split
   ·rename_i heq;obtain rfl:=DA h.asc hn' hn0 heq;rw[(JR _ name hnext0).length_eq,List.length_cons,OU hnew];omega
   exact h.many n' hn'
  exact BO _
 ·intro m hm;rcases hmem m hm with⟨n',hn',hw⟩|rfl
  ·rw[hw.ents];split
   ·exact LT (h.sorted n' hn') _ _
   exact h.sorted n' hn'
  exact List.Pairwise.nil
 ·intro m hm e he;rcases hmem m hm with⟨n',hn',hw⟩|rfl
  ·have key:(e∈n'.entries)∨e=(name,d.next):=by
      rw[hw.ents]at he;split at he
      ·rcases Mb he with h1|h1
       ·exact .inl h1
       exact .inr h1.1
      exact .inl he
   rcases key with h1|rfl
   ·obtain⟨k1,k2,q,hq,k3⟩:=h.ent n' hn' e h1;obtain⟨m',hm',hw'⟩:=hto q hq;exact⟨k1,k2,m',hm',hw'.ino.trans k3⟩
   exact⟨hname,by show d.next≠1;have:=h.next2;omega,Ec n d.next n0.ino,by simp,rfl⟩
  cases he
 ·intro m hm h1;rw[hcnt];rcases hmem m hm with⟨n',hn',hw⟩|rfl
  ·have:=h.link n' hn' (by rw[←hw.ino];exact h1);rw[hw.ino];omega
  have:b1 (d.next=(Ec n d.next n0.ino).ino)=1:=Md rfl;omega
 ·intro m hm h1 h2;rw[hcnt];rcases hmem m hm with⟨n',hn',hw⟩|rfl
  ·have:=h.one n' hn' (by rw[←hw.ino];exact h1) (by rw[←hw.kind];exact h2);rw[hw.ino,this,Kk (by have:=h.lt n' hn';omega)]
  have e1:b1 (d.next=(Ec n d.next n0.ino).ino)=1:=Md rfl;have e2:BN (Ec n d.next n0.ino).ino d.nodes=0:=h.cnt_next (Int.le_refl _);omega
 ·intro m hm h1 h2;rcases hmem m hm with⟨n',hn',hw⟩|rfl
  ·obtain⟨p,hp',k1,e,he,k2⟩:=h.par n' hn' (by rw[←hw.ino];exact h1) (by rw[←hw.kind];exact h2);obtain⟨q,hq,hwq⟩:=hto p hp';exact⟨q,hq,by rw[hwq.ino,hw.parent];exact k1,e,hold hwq hp' he,by rw[hw.ino];exact k2⟩
  obtain⟨q,hq,hwq⟩:=hto n0 hn0;refine⟨q,hq,?_,(name,d.next),?_,rfl⟩
  ·rw[hwq.ino];exact(if_pos h2).symm
  rw[hwq.ents,if_pos rfl];exact U7 hnext0
 obtain⟨rk,hrk⟩:=h.rank;refine⟨fun i=>if i=d.next then rk n0.ino+1 else rk i,?_⟩;intro m hm h1 h2;rcases hmem m hm with⟨n',hn',hw⟩|rfl
 ·have hlt:=h.lt n' hn';have h1':n'.ino≠1:=by rw[←hw.ino];exact h1
  have h2':n'.kind=2:=by rw[←hw.kind];exact h2
  obtain⟨p,hp',k1,_⟩:=h.par n' hn' h1' h2';have hlp:=h.lt p hp';simp only;rw[hw.ino,hw.parent,if_neg (by omega),if_neg (by omega)];exact hrk n' hn' h1' h2'
 have e1:(Ec n d.next n0.ino).parent=n0.ino:=if_pos h2;have e2:(Ec n d.next n0.ino).ino=d.next:=rfl;have hl:=h.lt n0 hn0;simp only;rw[e1,e2,if_pos rfl,if_neg (by omega)];omega
theorem VD.linked{d:Dvc}(h:VD d){n0 a:Nod}(hn0:n0∈d.nodes)(hk:n0.kind=2)(ha:a∈d.nodes)(hka:a.kind≠2){name:AB}(hname:Dl name=true)(hnew:D9 n0.entries name=none)(hfull:n0.entries.length<12):
    VD ⟨d.next,BE d.nodes n0.ino name a.ino⟩:=by
 have ha0:a.ino≠0:=by have:=h.pos ha;omega
 have ha1:a.ino≠1:=fun e=>hka (h.isRoot ha e).1
 have hcnt:∀i,BN i (BE d.nodes n0.ino name a.ino)=BN i d.nodes+b1 (a.ino=i):=by
  intro i;have h1:=Ma h.asc hn0 name a.ino i;rw[Qk hnew ha0]at h1;omega
 have hto:=fun n' (hn':n'∈d.nodes)=>K0 n0.ino name a.ino hn'
 have hold:∀{n' m:Nod} {e:B0},AsWas n0.ino name a.ino n' m→n'∈d.nodes→e∈n'.entries→e∈m.entries:=by
  intro n' m e hw hn' he;rw[hw.ents];split
  ·rename_i heq;obtain rfl:=DA h.asc hn' hn0 heq;exact Mc he (OT hnew e he)
  exact he
 refine⟨by rw[Qi];exact h.len,h.next2,h.nextM,Qj _ _ _ h.root,LV h.asc _ _ _,?_,?_,?_,?_,?_,?_,?_,?_,?_,?_⟩
 ·intro m hm;obtain⟨n',hn',hw⟩:=Eu hm;rw[hw.ino];exact h.lt n' hn'
 ·intro m hm;obtain⟨n',hn',hw⟩:=Eu hm;rw[hw.plain];exact h.plain n' hn'
 ·intro m hm hk';obtain⟨n',hn',hw⟩:=Eu hm;rw[hw.kind]at hk';obtain⟨h1,h2⟩:=h.leaf n' hn' hk';refine⟨hw.parent.trans h1,?_⟩;rw[hw.ents,if_neg,h2];intro e;obtain rfl:=DA h.asc hn' hn0 e;exact hk' hk
 ·intro m hm;obtain⟨n',hn',hw⟩:=Eu hm;rw[hw.ents];split
  ·rename_i heq;obtain rfl:=DA h.asc hn' hn0 heq;rw[(JR _ name ha0).length_eq,List.length_cons,OU hnew];omega
  exact h.many n' hn'
 ·intro m hm;obtain⟨n',hn',hw⟩:=Eu hm;rw[hw.ents];split
  ·exact LT (h.sorted n' hn') _ _
  exact h.sorted n' hn'
 ·intro m hm e he;obtain⟨n',hn',hw⟩:=Eu hm
  have key:(e∈n'.entries)∨e=(name,a.ino):=by
   rw[hw.ents]at he;split at he
   ·rcases Mb he with h1|h1
    ·exact .inl h1
    exact .inr h1.1
   exact .inl he
  rcases key with h1|rfl
  ·obtain⟨k1,k2,q,hq,k3⟩:=h.ent n' hn' e h1;obtain⟨m',hm',hw'⟩:=hto q hq;exact⟨k1,k2,m',hm',hw'.ino.trans k3⟩
  obtain⟨m',hm',hw'⟩:=hto a ha;exact⟨hname,ha1,m',hm',hw'.ino⟩
 ·intro m hm h1;obtain⟨n',hn',hw⟩:=Eu hm;rw[hcnt,hw.ino];have:=h.link n' hn' (by rw[←hw.ino];exact h1);omega
 ·intro m hm h1 h2;obtain⟨n',hn',hw⟩:=Eu hm;rw[hcnt,hw.ino,h.one n' hn' (by rw[←hw.ino];exact h1) (by rw[←hw.kind];exact h2),Kk];intro e;obtain rfl:=DA h.asc hn' ha e.symm;exact hka (by rw[←hw.kind];exact h2)
 ·intro m hm h1 h2;obtain⟨n',hn',hw⟩:=Eu hm;obtain⟨p,hp',k1,e,he,k2⟩:=h.par n' hn' (by rw[←hw.ino];exact h1) (by rw[←hw.kind];exact h2);obtain⟨q,hq,hwq⟩:=hto p hp';exact⟨q,hq,by rw[hwq.ino,hw.parent];exact k1,e,hold hwq hp' he,by rw[hw.ino];exact k2⟩
 obtain⟨rk,hrk⟩:=h.rank;refine⟨rk,fun m hm h1 h2=>?_⟩;obtain⟨n',hn',hw⟩:=Eu hm;rw[hw.ino,hw.parent];exact hrk n' hn' (by rw[←hw.ino];exact h1) (by rw[←hw.kind];exact h2)
def Ew(mode uid gid:Int)(n:Nod):Nod:={n with mode:=mode,uid:=uid,gid:=gid}
theorem VD.attrs{d:Dvc}(h:VD d){n0:Nod}(hn0:n0∈d.nodes)(mode uid gid:Int)(hp:FU (Ew mode uid gid n0)=true):VD ⟨d.next,CL d.nodes n0.ino (Ew mode uid gid)⟩:=by
 have hsame:∀n:Nod,(if n.ino=n0.ino then Ew mode uid gid n else n).ino=n.ino∧(if n.ino=n0.ino then Ew mode uid gid n else n).kind=n.kind∧(if n.ino=n0.ino then Ew mode uid gid n else n).parent=n.parent∧(if n.ino=n0.ino then Ew mode uid gid n else n).entries=n.entries:=by
  intro n;split<;>exact⟨rfl,rfl,rfl,rfl⟩
 have hcnt:∀i,BN i (CL d.nodes n0.ino (Ew mode uid gid))=BN i d.nodes:=by
  intro i;have h1:BN i (CL d.nodes n0.ino (Ew mode uid gid))+CQ i n0.entries=BN i d.nodes+CQ i n0.entries:=Qg h.asc hn0 (Ew mode uid gid) i;omega
 have hto:∀n∈d.nodes,∃m∈CL d.nodes n0.ino (Ew mode uid gid),m.ino=n.ino∧m.kind=n.kind∧m.parent=n.parent∧m.entries=n.entries:=fun n hn=>⟨_,GT.2 ⟨n,hn,rfl⟩,hsame n⟩;refine⟨by simpa[CL]using h.len,h.next2,h.nextM,?_,U5 h.asc _ (fun _=>rfl),?_,?_,?_,?_,?_,?_,?_,?_,?_,?_⟩
 ·obtain⟨r,rest,hr,h1,h2,h3⟩:=h.root;obtain⟨s1,s2,s3,_⟩:=hsame r;refine⟨_,_,by show CL d.nodes _ _=_;rw[hr];rfl,s1.trans h1,s2.trans h2,s3.trans h3⟩
 ·intro m hm;obtain⟨n,hn,rfl⟩:=GT.1 hm;rw[(hsame n).1];exact h.lt n hn
 ·intro m hm;obtain⟨n,hn,rfl⟩:=GT.1 hm;split
  ·rename_i e;obtain rfl:=DA h.asc hn hn0 e;exact hp
  exact h.plain n hn
 ·intro m hm hk;obtain⟨n,hn,rfl⟩:=GT.1 hm;obtain⟨s1,s2,s3,s4⟩:=hsame n;rw[s2]at hk;rw[s3,s4];exact h.leaf n hn hk
 ·intro m hm;obtain⟨n,hn,rfl⟩:=GT.1 hm;rw[(hsame n).2.2.2];exact h.many n hn
 ·intro m hm;obtain⟨n,hn,rfl⟩:=GT.1 hm;rw[(hsame n).2.2.2];exact h.sorted n hn
 ·intro m hm e he;obtain⟨n,hn,rfl⟩:=GT.1 hm;rw[(hsame n).2.2.2]at he;obtain⟨k1,k2,q,hq,k3⟩:=h.ent n hn e he;obtain⟨m',hm',s1,_⟩:=hto q hq;exact⟨k1,k2,m',hm',s1.trans k3⟩
 ·intro m hm h1;obtain⟨n,hn,rfl⟩:=GT.1 hm;rw[(hsame n).1]at h1 ⊢;rw[hcnt];exact h.link n hn h1
 ·intro m hm h1 h2;obtain⟨n,hn,rfl⟩:=GT.1 hm;rw[(hsame n).1]at h1 ⊢;rw[(hsame n).2.1]at h2;rw[hcnt];exact h.one n hn h1 h2
 ·intro m hm h1 h2;obtain⟨n,hn,rfl⟩:=GT.1 hm;obtain⟨s1,s2,s3,s4⟩:=hsame n;rw[s1]at h1 ⊢;rw[s2]at h2;rw[s3];obtain⟨p,hp',k1,e,he,k2⟩:=h.par n hn h1 h2;obtain⟨q,hq,t1,_,_,t4⟩:=hto p hp';exact⟨q,hq,t1.trans k1,e,by rw[t4];exact he,k2⟩
 obtain⟨rk,hrk⟩:=h.rank;refine⟨rk,fun m hm h1 h2=>?_⟩;obtain⟨n,hn,rfl⟩:=GT.1 hm;obtain⟨s1,s2,s3,s4⟩:=hsame n;rw[s1]at h1 ⊢;rw[s2]at h2;rw[s3];exact hrk n hn h1 h2
end Go.Proofs.YtbgnigjfkbmceaaGreatDoor
namespace Go.Proofs.YtbgnigjfkbmceaaGreatDoor
def Bf(ns:List Nod)(i:Int):List Nod:=ns.filter fun m=>decide (m.ino≠i∨0<BN i ns)
theorem Me{ns:List Nod}{i:Int}{m:Nod}:m∈Bf ns i↔m∈ns∧(m.ino≠i∨0<BN i ns):=by
 unfold Bf;rw[List.mem_filter,decide_eq_true_iff]
theorem U8{ns:List Nod}{p:Nod→Bool}(h:∀m∈ns,p m=false→m.entries=[])(i:Int):BN i (ns.filter p)=BN i ns:=by
 induction ns with
 |nil=>rfl
 |cons x r ih=>
   rw[List.filter_cons];have ih':=ih fun m hm=>h m (by simp[hm])
   cases hp:p x with
   |true=>simp only[if_true];rw[LU,LU,ih']
   |false=>
     simp only[Bool.false_eq_true,if_false];rw[LU,h x (by simp) hp,ih'];simp[CQ]
theorem Ql{es:List B0}(hs:FX es){a b:B0}(ha:a∈es)(hb:b∈es)(e:a.1=b.1):a=b:=by
 induction es with
 |nil=>cases ha
 |cons x r ih=>
   obtain⟨h1,h2⟩:=List.pairwise_cons.1 hs;rcases List.mem_cons.1 ha with rfl|ha
   ·rcases List.mem_cons.1 hb with rfl|hb
    ·rfl
    exact absurd e (MW (h1 b hb))
   rcases List.mem_cons.1 hb with hb|hb
   ·subst hb;exact absurd e.symm (MW (h1 a (by assumption)))
   exact ih h2 (by assumption) hb
theorem VD.removed{d:Dvc}(h:VD d){n0 a:Nod}(hn0:n0∈d.nodes)(ha:a∈d.nodes)(hae:a.entries=[]){name:AB}{e0:B0}(he0:D9 n0.entries name=some e0)(hea:e0.2=a.ino):
    VD ⟨d.next,Bf (BE d.nodes n0.ino name 0) a.ino⟩:=by
 obtain⟨hem,hen⟩:=HU he0;have ha1:a.ino≠1:=by rw[←hea];exact(h.ent n0 hn0 e0 hem).2.1
 have hk:n0.kind=2:=h.dirOf hn0 hem
 have hna:n0.ino≠a.ino:=fun e=>by
  obtain rfl:=DA h.asc hn0 ha e;rw[hae]at hem;cases hem
 have hcnt1:∀i,BN i (BE d.nodes n0.ino name 0)+b1 (a.ino=i)=BN i d.nodes:=by
  intro i;have h1:=Ma h.asc hn0 name 0 i;have h2:=U6 (h.sorted n0 hn0) he0 i;rw[hea]at h2;omega
 have hcnt:∀i,BN i (Bf (BE d.nodes n0.ino name 0) a.ino)=BN i (BE d.nodes n0.ino name 0):=by
  refine fun i=>U8 (fun m hm hp=>?_) i;have hp':=of_decide_eq_false hp;obtain⟨n',hn',hw⟩:=Eu hm;have hmi:m.ino=a.ino:=Classical.byContradiction fun h=>hp' (.inl h);obtain rfl:=DA h.asc hn' ha (hw.ino.symm.trans hmi);rw[hw.ents,if_neg (fun e=>hna e.symm),hae]
 have hkeep:∀{m:Nod},m∈BE d.nodes n0.ino name 0→(m.ino=a.ino→0<BN a.ino (BE d.nodes n0.ino name 0))→m∈Bf (BE d.nodes n0.ino name 0) a.ino:=by
  intro m hm hc;refine Me.2 ⟨hm,?_⟩;by_cases e:m.ino=a.ino
  ·exact .inr (hc e)
  exact .inl e
 have hfrom:∀{m:Nod},m∈Bf (BE d.nodes n0.ino name 0) a.ino→(∃n'∈d.nodes,AsWas n0.ino name 0 n' m)∧m∈BE d.nodes n0.ino name 0∧(m.ino≠a.ino∨0<BN a.ino (BE d.nodes n0.ino name 0)):=by
  intro m hm;obtain⟨h1,h2⟩:=Me.1 hm;exact⟨Eu h1,h1,h2⟩
 have hsub:∀{n' m:Nod} {e:B0},AsWas n0.ino name 0 n' m→e∈m.entries→e∈n'.entries:=by
  intro n' m e hw he;rw[hw.ents]at he;split at he
  ·rcases Mb he with h1|h1
   ·exact h1
   exact absurd rfl h1.2
  exact he
 refine⟨?_,h.next2,h.nextM,?_,?_,?_,?_,?_,?_,?_,?_,?_,?_,?_,?_⟩
 ·have h1:(Bf (BE d.nodes n0.ino name 0) a.ino).length≤(BE d.nodes n0.ino name 0).length:=List.length_filter_le _ _;rw[Qi]at h1;exact Nat.le_trans h1 h.len
 ·obtain⟨r,rest,hr,h1,h2,h3⟩:=Qj n0.ino name 0 h.root;refine⟨r,rest.filter fun m=>decide (m.ino≠a.ino∨0<BN a.ino (BE d.nodes n0.ino name 0)),?_,h1,h2,h3⟩;show Bf (BE d.nodes n0.ino name 0) a.ino=_;unfold Bf
  conv=>lhs;rw[hr]
  rw[List.filter_cons,if_pos (decide_eq_true (.inl (by rw[h1];exact fun e=>ha1 e.symm))),hr]
 ·exact List.Pairwise.filter _ (LV h.asc _ _ _)
 ·intro m hm;obtain⟨⟨n',hn',hw⟩,_⟩:=hfrom hm;rw[hw.ino];exact h.lt n' hn'
 ·intro m hm;obtain⟨⟨n',hn',hw⟩,_⟩:=hfrom hm;rw[hw.plain];exact h.plain n' hn'
 ·intro m hm hk';obtain⟨⟨n',hn',hw⟩,_⟩:=hfrom hm;rw[hw.kind]at hk';obtain⟨h1,h2⟩:=h.leaf n' hn' hk';refine⟨hw.parent.trans h1,?_⟩;rw[hw.ents,if_neg,h2];intro e;obtain rfl:=DA h.asc hn' hn0 e;exact hk' hk
 ·intro m hm;obtain⟨⟨n',hn',hw⟩,_⟩:=hfrom hm;rw[hw.ents];split
  ·rw[J2];exact Nat.le_trans (List.length_filter_le _ _) (h.many n' hn')
  exact h.many n' hn'
 ·intro m hm;obtain⟨⟨n',hn',hw⟩,_⟩:=hfrom hm;rw[hw.ents];split
  ·exact LT (h.sorted n' hn') _ _
  exact h.sorted n' hn'
 ·intro m hm e he;obtain⟨⟨n',hn',hw⟩,hm1,_⟩:=hfrom hm;obtain⟨k1,k2,q,hq,k3⟩:=h.ent n' hn' e (hsub hw he);obtain⟨m',hm',hw'⟩:=K0 n0.ino name 0 hq;refine⟨k1,k2,m',hkeep hm' (fun e1=>MY.2 ⟨m,hm1,e,he,?_⟩),hw'.ino.trans k3⟩;rw[←k3,←hw'.ino,e1]
 ·intro m hm h1;rw[hcnt];obtain⟨⟨n',hn',hw⟩,_,h2⟩:=hfrom hm;have h3:=hcnt1 m.ino;by_cases e:m.ino=a.ino
  ·rw[e]at h2 ⊢;rcases h2 with h2|h2
   ·exact absurd rfl h2
   exact h2
  rw[Kk (fun h=>e h.symm)]at h3;have:=h.link n' hn' (by rw[←hw.ino];exact h1);rw[←hw.ino]at this;omega
 ·intro m hm h1 h4;rw[hcnt];obtain⟨⟨n',hn',hw⟩,_,h2⟩:=hfrom hm;have h3:=hcnt1 m.ino;have h5:=h.one n' hn' (by rw[←hw.ino];exact h1) (by rw[←hw.kind];exact h4);rw[←hw.ino]at h5;by_cases e:m.ino=a.ino
  ·exfalso;rw[Md e.symm]at h3;rcases h2 with h2|h2
   ·exact h2 e
   rw[←e]at h2;omega
  rw[Kk (fun h=>e h.symm)]at h3;omega
 ·intro m hm h1 h4;obtain⟨⟨n',hn',hw⟩,_,h2⟩:=hfrom hm;obtain⟨p,hp',k1,e,he,k2⟩:=h.par n' hn' (by rw[←hw.ino];exact h1) (by rw[←hw.kind];exact h4);obtain⟨q,hq,hwq⟩:=K0 n0.ino name 0 hp'
  have hpa:p.ino≠a.ino:=fun e'=>by
   obtain rfl:=DA h.asc hp' ha e';rw[hae]at he;cases he
  have hna':n'.ino≠a.ino:=fun e'=>by
   have h3:=hcnt1 m.ino;have h5:=h.one n' hn' (by rw[←hw.ino];exact h1) (by rw[←hw.kind];exact h4);rw[←hw.ino]at h5 e';rw[Md e'.symm]at h3;rcases h2 with h2|h2
   ·exact h2 e'
   rw[←e']at h2;omega
  refine⟨q,hkeep hq (fun e'=>absurd (hwq.ino.symm.trans e') hpa),by rw[hwq.ino,hw.parent];exact k1,e,?_,by rw[hw.ino];exact k2⟩;rw[hwq.ents];split
  ·rename_i heq;obtain rfl:=DA h.asc hp' hn0 heq;refine Mc he fun hnm=>?_;have:=Ql (h.sorted p hp') he hem (hnm.trans hen.symm);rw[this,hea]at k2;exact hna' k2.symm
  exact he
 obtain⟨rk,hrk⟩:=h.rank;refine⟨rk,fun m hm h1 h2=>?_⟩;obtain⟨⟨n',hn',hw⟩,_⟩:=hfrom hm;rw[hw.ino,hw.parent];exact hrk n' hn' (by rw[←hw.ino];exact h1) (by rw[←hw.kind];exact h2)
end Go.Proofs.YtbgnigjfkbmceaaGreatDoor
namespace Go.Proofs.YtbgnigjfkbmceaaGreatDoor
theorem U9:∀(xs l:List Int),xs.Nodup→(∀x∈xs,x∈l)→xs.length≤l.length
 |[],_,_,_=>BO _
 |x::xs,l,hd,hs=>by
   obtain⟨h1,h2⟩:=List.nodup_cons.1 hd;have hx:x∈l:=hs x (by simp);have ih:=U9 xs (l.erase x) h2 fun y hy=>(List.mem_erase_of_ne (fun e:y=x=>h1 (e ▸ hy))).2 (hs y (by simp[hy]));have hl:=List.length_erase_of_mem hx;have hp:0<l.length:=List.length_pos_of_mem hx;simp only[List.length_cons];omega
def Mf(ns:List Nod):Nat→Int→Int→Prop
 |0,x,y=>x=y
 |k+1,x,y=>∃n∈ns,n.ino=x∧n.ino≠1∧n.kind=2∧Mf ns k n.parent y
def GU(ns:List Nod)(x y:Int):Prop:=∃k,Mf ns k x y
theorem UA{ns:List Nod}{rk:Int→Nat}(hrk:∀n∈ns,n.ino≠1→n.kind=2→rk n.parent<rk n.ino):∀(k:Nat) (x y:Int),Mf ns k x y→∃l:List Int,l.length=k∧l.Nodup∧∀z∈l,(∃n∈ns,n.ino=z)∧rk y<rk z∧rk z≤rk x
 |0,_,_,_=>⟨[],rfl,List.nodup_nil,by simp⟩
 |k+1,x,y,h=>by
   obtain⟨n,hn,rfl,h1,h2,h3⟩:=h;obtain⟨l,e,hd,hl⟩:=UA hrk k _ _ h3;have hlt:=hrk n hn h1 h2
   have hy:rk y≤rk n.parent:=by
    cases l with
    |nil=>
      have hk:k=0:=by simpa using e.symm
      subst hk;have:n.parent=y:=h3;rw[this];exact Al _
    |cons z l=>
      have:=hl z (by simp);omega
   refine⟨n.ino::l,by simp[e],List.nodup_cons.2 ⟨fun hm=>?_,hd⟩,?_⟩
   ·have:=(hl _ hm).2.2;omega
   intro z hz;rcases List.mem_cons.1 hz with rfl|hz
   ·exact⟨⟨n,hn,rfl⟩,by omega,Al _⟩
   obtain⟨q1,q2,q3⟩:=hl z hz;exact⟨q1,q2,by omega⟩
theorem VD.anc_len{d:Dvc}(h:VD d){k:Nat}{x:Int}{a:Nod}(ha:a∈d.nodes)(hk:Mf d.nodes k x a.ino):k+1≤d.nodes.length:=by
 obtain⟨rk,hrk⟩:=h.rank;obtain⟨l,e,hd,hl⟩:=UA hrk k x a.ino hk
 have:=U9 (a.ino::l) (d.nodes.map (·.ino)) (List.nodup_cons.2 ⟨fun hm=>by have:=(hl _ hm).2.1;omega,hd⟩) (fun z hz=>by
  rcases List.mem_cons.1 hz with rfl|hz
  ·exact List.mem_map.2 ⟨a,ha,rfl⟩
  obtain⟨n,hn,e⟩:=(hl z hz).1
  exact List.mem_map.2 ⟨n,hn,e⟩)
 simp only[List.length_cons,List.length_map]at this;omega
def Ef(p1 p2:Int)(name name2:AB)(a:Int)(n:Nod):List B0:=
 let es:=if n.ino=p1 then CH n.entries name 0 else n.entries
 if n.ino=p2 then CH es name2 a else es
def J3(p1 p2:Int)(name name2:AB)(a:Int)(n:Nod):Nod:=
 {n with entries:=Ef p1 p2 name name2 a n,parent:=if n.ino=a∧n.kind=2 then p2 else n.parent}
def DX(ns:List Nod)(p1 p2:Int)(name name2:AB)(a:Int):List Nod:=ns.map (J3 p1 p2 name name2 a)
def Ha(p:Int)(n:Nod):Nod:=if n.kind=2 then{n with parent:=p}else n
theorem UB(ns:List Nod)(p1 p2:Int)(name name2:AB)(a:Int):CL (BE (BE ns p1 name 0) p2 name2 a) a (Ha p2)=DX ns p1 p2 name name2 a:=by
 unfold BE CL DX;rw[List.map_map,List.map_map];apply List.map_congr_left;intro n _;obtain⟨ino,kind,mode,uid,gid,parent,target,entries⟩:=n;simp only[Function.comp];unfold J3 Ef MZ Ha;by_cases h1:ino=p1<;>by_cases h2:ino=p2<;>by_cases h3:ino=a<;>by_cases h4:kind=2<;>simp[h1,h2,h3,h4]<;>(try simp_all)
theorem ZH{es:List B0}{name name2:AB}(h:name≠name2):D9 (EN name es) name2=D9 es name2:=by
 unfold D9 EN;rw[List.find?_filter]
 congr 1
 funext e
 by_cases h2:e.1=name2
 ·have:e.1≠name:=fun e'=>h (e'.symm.trans h2);simp[h2];intro e';exact h e'.symm
 simp[h2]
end Go.Proofs.YtbgnigjfkbmceaaGreatDoor
namespace Go.Proofs.YtbgnigjfkbmceaaGreatDoor
section
variable {p1 p2:Int}{name name2:AB}{a:Int}{n:Nod}
theorem ZJ{e:B0}(h:e∈Ef p1 p2 name name2 a n):e∈n.entries∨(n.ino=p2∧e=(name2,a)):=by
 unfold Ef at h
 have base:∀{x:B0},x∈(if n.ino=p1 then CH n.entries name 0 else n.entries)→x∈n.entries:=by
  intro x hx;split at hx
  ·rcases Mb hx with h1|h1
   ·exact h1
   exact absurd rfl h1.2
  exact hx
 simp only at h;split at h
 ·rename_i h2;rcases Mb h with h1|h1
  ·exact .inl (base h1)
  exact .inr ⟨h2,h1.1⟩
 exact .inl (base h)
theorem ZK{e:B0}(h:e∈n.entries)(h1:n.ino=p1→e.1≠name)(h2:n.ino=p2→e.1≠name2):e∈Ef p1 p2 name name2 a n:=by
 unfold Ef
 have base:e∈(if n.ino=p1 then CH n.entries name 0 else n.entries):=by
  split
  ·rename_i e1;exact Mc h (h1 e1)
  exact h
 simp only;split
 ·rename_i e2;exact Mc base (h2 e2)
 exact base
theorem ZL(h:n.ino=p2)(ha:a≠0):(name2,a)∈Ef p1 p2 name name2 a n:=by
 unfold Ef;simp only[h,if_true];exact U7 ha
theorem ZM(h:FX n.entries):FX (Ef p1 p2 name name2 a n):=by
 unfold Ef
 have base:FX (if n.ino=p1 then CH n.entries name 0 else n.entries):=by
  split
  ·exact LT h _ _
  exact h
 simp only;split
 ·exact LT base _ _
 exact base
end
open Classical in
noncomputable def Mg (S:Int→Prop) (rk:Int→Nat) (c:Nat) (x:Int):Nat:=if S x then rk x+c else rk x
theorem Qm{S:Int→Prop}{rk:Int→Nat}{c:Nat}{x:Int}(h:S x):Mg S rk c x=rk x+c:=by unfold Mg;rw[if_pos h]
theorem Qn{S:Int→Prop}{rk:Int→Nat}{c:Nat}{x:Int}(h:¬S x):Mg S rk c x=rk x:=by unfold Mg;rw[if_neg h]
theorem VD.renamed{d:Dvc}(h:VD d){n1 n2 a:Nod}(hn1:n1∈d.nodes)(hn2:n2∈d.nodes)(ha:a∈d.nodes)(hk2:n2.kind=2){name name2:AB}{e1:B0}(he1:D9 n1.entries name=some e1)(hea:e1.2=a.ino)
    (hname2:Dl name2=true) (hdiff:n1.ino=n2.ino→name≠name2) (hanc:a.kind=2→¬GU d.nodes n2.ino a.ino) {oi:Int}
    (ho:(D9 n2.entries name2=none∧(n2.entries.length<12∨n1.ino=n2.ino)∧oi=0)∨(∃eo o,D9 n2.entries name2=some eo∧o∈d.nodes∧eo.2=oi∧o.ino=oi∧oi≠a.ino∧o.entries=[])):
    VD ⟨d.next,Bf (DX d.nodes n1.ino n2.ino name name2 a.ino) oi⟩:=by
 obtain⟨hem,hen⟩:=HU he1;have ha1:a.ino≠1:=by rw[←hea];exact(h.ent n1 hn1 e1 hem).2.1
 have ha0:a.ino≠0:=by have:=h.pos ha;omega
 have hoa:oi≠a.ino:=by
  rcases ho with⟨_,_,h1⟩|⟨_,_,_,_,_,_,h1,_⟩
  ·omega
  exact h1
 have ho1:oi≠1:=by
  rcases ho with⟨_,_,h1⟩|⟨eo,o,h1,_,h2,_⟩
  ·omega
  obtain⟨q1,_⟩:=HU h1;rw[←h2];exact(h.ent n2 hn2 eo q1).2.1
 have hoe:∀m∈d.nodes,m.ino=oi→m.entries=[]:=by
  intro m hm e;rcases ho with⟨_,_,h1⟩|⟨eo,o,_,h1,_,h2,_,h3⟩
  ·have:=h.pos hm;omega
  obtain rfl:=DA h.asc hm h1 (by omega);exact h3
 have hm2:=K0 n1.ino name 0 hn2;obtain⟨m2,hm2,hw2⟩:=hm2
 have hf2:D9 m2.entries name2=D9 n2.entries name2:=by
  rw[hw2.ents];split
  ·rename_i e;rw[J2,ZH (hdiff e.symm)]
  rfl
 have hasc1:=LV h.asc n1.ino name 0;have hasc2:=LV hasc1 n2.ino name2 a.ino
 have hsort2:FX m2.entries:=by
  rw[hw2.ents];split
  ·exact LT (h.sorted n2 hn2) _ _
  exact h.sorted n2 hn2
 have hcntR:∀i,1≤i→BN i (DX d.nodes n1.ino n2.ino name name2 a.ino)+b1 (oi=i)=BN i d.nodes:=by
  intro i hi;have c1:=Ma h.asc hn1 name 0 i;have c2:=U6 (h.sorted n1 hn1) he1 i;rw[hea]at c2;have c3:=Ma hasc1 hm2 name2 a.ino i;rw[hw2.ino]at c3;obtain⟨m',hm',hw'⟩:=K0 n1.ino name 0 ha;obtain⟨m'',hm'',hw''⟩:=K0 (ns:=BE d.nodes n1.ino name 0) n2.ino name2 a.ino hm';have c4:=Qg hasc2 hm'' (Ha n2.ino) i;have e4:(Ha n2.ino m'').entries=m''.entries:=by unfold Ha;split<;>rfl
  rw[e4,hw''.ino,hw'.ino,UB]at c4;rcases ho with⟨h1,_,h2⟩|⟨eo,o,h1,_,h2,_⟩
  ·have c5:=Qk (hf2.trans h1) ha0 i;rw[Kk (show¬oi=i by omega)];omega
  have c5:=ZG hsort2 (hf2.trans h1) ha0 i;rw[h2]at c5;omega
 have hmem:∀{m:Nod},m∈Bf (DX d.nodes n1.ino n2.ino name name2 a.ino) oi→(∃n∈d.nodes,m=J3 n1.ino n2.ino name name2 a.ino n)∧m∈DX d.nodes n1.ino n2.ino name name2 a.ino∧(m.ino≠oi∨0<BN oi (DX d.nodes n1.ino n2.ino name name2 a.ino)):=by
  intro m hm;obtain⟨q1,q2⟩:=Me.1 hm;obtain⟨n,hn,e⟩:=List.mem_map.1 q1;exact⟨⟨n,hn,e.symm⟩,q1,q2⟩
 have hkeep:∀{n:Nod},n∈d.nodes→(n.ino=oi→0<BN oi (DX d.nodes n1.ino n2.ino name name2 a.ino))→J3 n1.ino n2.ino name name2 a.ino n∈Bf (DX d.nodes n1.ino n2.ino name name2 a.ino) oi:=by
  intro n hn hc;refine Me.2 ⟨List.mem_map.2 ⟨n,hn,rfl⟩,?_⟩;by_cases e:n.ino=oi
  ·exact .inr (hc e)
  exact .inl e
 have hcnt:∀i,BN i (Bf (DX d.nodes n1.ino n2.ino name name2 a.ino) oi)=BN i (DX d.nodes n1.ino n2.ino name name2 a.ino):=by
  refine fun i=>U8 (fun m hm hp=>?_) i;have hp':=of_decide_eq_false hp;obtain⟨n,hn,rfl⟩:=List.mem_map.1 hm;have hmi:n.ino=oi:=Classical.byContradiction fun h=>hp' (.inl h);have h0:=hoe n hn hmi
  have q1:n.ino≠n1.ino:=fun e=>by
   obtain rfl:=DA h.asc hn hn1 e;rw[h0]at hem;cases hem
  have q2:n.ino≠n2.ino:=fun e=>by
   obtain rfl:=DA h.asc hn hn2 e;rcases ho with⟨_,_,h1⟩|⟨eo,o,h1,_⟩
   ·have:=h.pos hn;omega
   obtain⟨q,_⟩:=HU h1;rw[h0]at q;cases q
  show Ef n1.ino n2.ino name name2 a.ino n=[];unfold Ef;simp only[q1,q2,if_false];exact h0
 have hdo:∀{n:Nod},n∈d.nodes→n.ino≠1→n.kind=2→(n.ino≠oi∨0<BN oi (DX d.nodes n1.ino n2.ino name name2 a.ino))→n.ino≠oi:=by
  intro n hn h1 h2 hc e;rcases hc with hc|hc
  ·exact hc e
  have c1:=h.one n hn h1 h2;have c2:=hcntR n.ino (h.pos hn);rw[Md e.symm]at c2;rw[←e]at hc;omega
 refine⟨?_,h.next2,h.nextM,?_,?_,?_,?_,?_,?_,?_,?_,?_,?_,?_,?_⟩
 ·have q1:(Bf (DX d.nodes n1.ino n2.ino name name2 a.ino) oi).length≤(DX d.nodes n1.ino n2.ino name name2 a.ino).length:=List.length_filter_le _ _;have q2:(DX d.nodes n1.ino n2.ino name name2 a.ino).length=d.nodes.length:=by simp[DX]
  have:=h.len;show(Bf _ _).length≤16;omega
 ·obtain⟨r,rest,hr,h1,h2,h3⟩:=h.root;refine⟨J3 n1.ino n2.ino name name2 a.ino r,(rest.map (J3 n1.ino n2.ino name name2 a.ino)).filter fun m=>decide (m.ino≠oi∨0<BN oi (DX d.nodes n1.ino n2.ino name name2 a.ino)),?_,h1,h2,?_⟩
  ·show Bf (DX d.nodes n1.ino n2.ino name name2 a.ino) oi=_;have e:DX d.nodes n1.ino n2.ino name name2 a.ino=J3 n1.ino n2.ino name name2 a.ino r::rest.map (J3 n1.ino n2.ino name name2 a.ino):=by unfold DX;rw[hr];rfl
   unfold Bf
   conv=>lhs;arg 2;rw[e]
   rw[List.filter_cons,if_pos (decide_eq_true (.inl (by show r.ino≠oi;rw[h1];exact fun e=>ho1 e.symm)))]
  show(if r.ino=a.ino∧r.kind=2 then n2.ino else r.parent)=1;rw[if_neg (fun e=>ha1 (by rw[←e.1];exact h1))];exact h3
 ·refine List.Pairwise.filter _ ?_;show Dm (DX d.nodes n1.ino n2.ino name name2 a.ino);rw[Qf]
  have e:(DX d.nodes n1.ino n2.ino name name2 a.ino).map (·.ino)=d.nodes.map (·.ino):=by
   unfold DX;rw[List.map_map];rfl
  rw[e,←Qf];exact h.asc
 ·intro m hm;obtain⟨⟨n,hn,rfl⟩,_⟩:=hmem hm;exact h.lt n hn
 ·intro m hm;obtain⟨⟨n,hn,rfl⟩,_⟩:=hmem hm;exact h.plain n hn
 ·intro m hm hk;obtain⟨⟨n,hn,rfl⟩,_⟩:=hmem hm;have hk':n.kind≠2:=hk;obtain⟨q1,q2⟩:=h.leaf n hn hk';refine⟨?_,?_⟩
  ·show(if n.ino=a.ino∧n.kind=2 then n2.ino else n.parent)=0;rw[if_neg (fun e=>hk' e.2)];exact q1
  show Ef n1.ino n2.ino name name2 a.ino n=[]
  have r1:n.ino≠n1.ino:=fun e=>by
   obtain rfl:=DA h.asc hn hn1 e;rw[q2]at hem;cases hem
  have r2:n.ino≠n2.ino:=fun e=>by
   obtain rfl:=DA h.asc hn hn2 e;exact hk' hk2
  unfold Ef;simp only[r1,r2,if_false];exact q2
 ·intro m hm;obtain⟨⟨n,hn,rfl⟩,_⟩:=hmem hm;show(Ef n1.ino n2.ino name name2 a.ino n).length≤12;by_cases q2:n.ino=n2.ino
  ·obtain rfl:=DA h.asc hn hn2 q2
   have e2:Ef n1.ino n.ino name name2 a.ino n=CH m2.entries name2 a.ino:=by
    unfold Ef;simp only[if_true];rw[hw2.ents]
   rw[e2,(JR _ name2 ha0).length_eq,List.length_cons];rcases ho with⟨h1,h2,_⟩|⟨eo,o,h1,_⟩
   ·rw[OU (hf2.trans h1),hw2.ents];rcases h2 with h2|h2
    ·split
     ·rw[J2];have:(EN name n.entries).length≤n.entries.length:=List.length_filter_le _ _;omega
     omega
    rw[if_pos h2.symm,J2];obtain rfl:=DA h.asc hn1 hn h2;have:=(OV (h.sorted n1 hn1) he1).length_eq;rw[List.length_cons]at this;have:=h.many n1 hn1;omega
   have c1:=(OV hsort2 (hf2.trans h1)).length_eq;rw[List.length_cons]at c1
   have c2:m2.entries.length≤n.entries.length:=by
    rw[hw2.ents];split
    ·rw[J2];exact List.length_filter_le _ _
    exact Al _
   have:=h.many n hn;omega
  unfold Ef;simp only[q2,if_false];split
  ·rw[J2];exact Nat.le_trans (List.length_filter_le _ _) (h.many n hn)
  exact h.many n hn
 ·intro m hm;obtain⟨⟨n,hn,rfl⟩,_⟩:=hmem hm;exact ZM (h.sorted n hn)
 ·intro m hm e he;obtain⟨⟨n,hn,rfl⟩,hmR,_⟩:=hmem hm;have he':e∈Ef n1.ino n2.ino name name2 a.ino n:=he;rcases ZJ he' with q|⟨_,rfl⟩
  ·obtain⟨k1,k2,x,hx,k3⟩:=h.ent n hn e q;refine⟨k1,k2,_,hkeep hx (fun e1=>MY.2 ⟨_,hmR,e,he,?_⟩),k3⟩;rw[←k3,e1]
  exact⟨hname2,ha1,_,hkeep ha (fun e1=>absurd e1.symm hoa),rfl⟩
 ·intro m hm h1;rw[hcnt];obtain⟨⟨n,hn,rfl⟩,_,hc⟩:=hmem hm;have h1':n.ino≠1:=h1;show 0<BN n.ino _;have c1:=hcntR n.ino (h.pos hn);by_cases e:n.ino=oi
  ·rcases hc with hc|hc
   ·exact absurd e hc
   rw[e];exact hc
  rw[Kk (fun h=>e h.symm)]at c1;have:=h.link n hn h1';omega
 ·intro m hm h1 h2;rw[hcnt];obtain⟨⟨n,hn,rfl⟩,_,hc⟩:=hmem hm;have h1':n.ino≠1:=h1;have h2':n.kind=2:=h2;show BN n.ino _=1;have c1:=hcntR n.ino (h.pos hn);rw[Kk (fun e=>hdo hn h1' h2' hc e.symm)]at c1;have:=h.one n hn h1' h2';omega
 ·intro m hm h1 h2;obtain⟨⟨n,hn,rfl⟩,_,hc⟩:=hmem hm;have h1':n.ino≠1:=h1;have h2':n.kind=2:=h2;have hno:=hdo hn h1' h2' hc;by_cases hna:n.ino=a.ino
  ·refine⟨_,hkeep hn2 (fun e=>?_),?_,(name2,a.ino),ZL rfl ha0,hna.symm⟩
   ·exfalso;rcases ho with⟨_,_,q⟩|⟨eo,o,q,_⟩
    ·have:=h.pos hn2;omega
    obtain⟨q1,_⟩:=HU q;rw[hoe n2 hn2 e]at q1;cases q1
   show n2.ino=if n.ino=a.ino∧n.kind=2 then n2.ino else n.parent
   rw[if_pos ⟨hna,h2'⟩]
  obtain⟨p,hp,k1,e,he,k2⟩:=h.par n hn h1' h2';refine⟨_,hkeep hp (fun e'=>?_),?_,e,ZK he (fun e' hnm=>?_) (fun e' hnm=>?_),k2⟩
  ·exfalso;rw[hoe p hp e']at he;cases he
  ·show p.ino=if n.ino=a.ino∧n.kind=2 then n2.ino else n.parent
   rw[if_neg (fun q=>hna q.1)];exact k1
  ·obtain rfl:=DA h.asc hp hn1 e';have:=Ql (h.sorted p hp) he hem (hnm.trans hen.symm);rw[this,hea]at k2;exact hna k2.symm
  obtain rfl:=DA h.asc hp hn2 e';rcases ho with⟨q,_⟩|⟨eo,o,q,_,q2,_⟩
  ·exact OT q e he hnm
  obtain⟨r1,r2⟩:=HU q;have:=Ql (h.sorted p hp) he r1 (hnm.trans r2.symm);rw[this,q2]at k2;exact hno k2.symm
 obtain⟨rk,hrk⟩:=h.rank;by_cases hka:a.kind=2
 ·have hS:=hanc hka;refine⟨Mg (fun x=>GU d.nodes x a.ino) rk (rk n2.ino+1),fun m hm h1 h2=>?_⟩;obtain⟨⟨n,hn,rfl⟩,_,_⟩:=hmem hm;have h1':n.ino≠1:=h1;have h2':n.kind=2:=h2;have eP:(J3 n1.ino n2.ino name name2 a.ino n).parent=if n.ino=a.ino∧n.kind=2 then n2.ino else n.parent:=rfl
  have eI:(J3 n1.ino n2.ino name name2 a.ino n).ino=n.ino:=rfl;rw[eP,eI];by_cases hna:n.ino=a.ino
  ·rw[if_pos ⟨hna,h2'⟩,Qn (S:=fun x=>GU d.nodes x a.ino) hS,Qm (S:=fun x=>GU d.nodes x a.ino) (show GU d.nodes n.ino a.ino from⟨0,hna⟩)];omega
  have hlt:=hrk n hn h1' h2';rw[if_neg (fun q=>hna q.1)];by_cases hA:GU d.nodes n.ino a.ino
  ·have hP:GU d.nodes n.parent a.ino:=by
      obtain⟨k,hk⟩:=hA
      cases k with
      |zero=>exact absurd hk hna
      |succ k=>
        obtain⟨n',hn',e1,_,_,q⟩:=hk;obtain rfl:=DA h.asc hn' hn e1;exact⟨k,q⟩
   rw[Qm (S:=fun x=>GU d.nodes x a.ino) hP,Qm (S:=fun x=>GU d.nodes x a.ino) hA];omega
  have hP:¬GU d.nodes n.parent a.ino:=fun⟨k,hk⟩=>hA ⟨k+1,n,hn,rfl,h1',h2',hk⟩;rw[Qn (S:=fun x=>GU d.nodes x a.ino) hP,Qn (S:=fun x=>GU d.nodes x a.ino) hA];exact hlt
 refine⟨rk,fun m hm h1 h2=>?_⟩;obtain⟨⟨n,hn,rfl⟩,_,_⟩:=hmem hm;have h2':n.kind=2:=h2;show rk (if n.ino=a.ino∧n.kind=2 then n2.ino else n.parent)<rk n.ino
 rw[if_neg (fun q=>hka (by
  obtain rfl:=DA h.asc hn ha q.1
  exact q.2))]
 exact hrk n hn h1 h2'
end Go.Proofs.YtbgnigjfkbmceaaGreatDoor
namespace Go.Proofs.YtbgnigjfkbmceaaGreatDoor
open Go.RowKit
theorem ZN(n:Nat):∀j,F2 [] n j=some (n+j):=fun j=>by simp[F2]
theorem LW{bx:List (List AV)}{n:Nat}(hn:bx.length=n)(f:AM)(q:Nat)(d:Dvc)(ns:List Nod)(cap cap1:Nat):Back bx [] [DB f q d 1 cap cap1,NB ns cap1] (bx++[DB f q d (n+1) cap cap1,NB ns cap1]):=by
 subst hn;refine⟨by simp,fun i row _ h=>?_,fun k i row h=>by simp at h,fun k row h=>?_⟩
 ·rw[CO (AP.1 h).1];exact h
 rw[DQ (by omega),show bx.length+k - bx.length=k by omega];simp only[List.length_nil,Nat.zero_add]at h
 match k,h with
 |0,h=>injection h with h;subst h;rw[GS (ZN _ 1)];rfl
 |1,h=>injection h with h;subst h;rw[GA];rfl
 |k+2,h=>simp at h
theorem LX{bx:List (List AV)}{i0 i1:Nat}(h0:i0<bx.length)(h1:i1<bx.length)(hne:i0≠i1)(f:AM)(q:Nat)(d:Dvc)(ns:List Nod)(cap cap1 cap1':Nat):
    Back bx [i0,i1] [DB f q d 1 cap cap1,NB ns cap1'] ((bx.set i0 (DB f q d i1 cap cap1)).set i1 (NB ns cap1')):=by
 refine⟨by simp,fun i row hi h=>?_,fun k i row h hr=>?_,fun k row h=>by simp at h⟩
 ·simp only[List.mem_cons,List.not_mem_nil,or_false,not_or]at hi;rw[List.getElem?_set_ne (Ne.symm hi.2),List.getElem?_set_ne (Ne.symm hi.1)];exact h
 match k,h,hr with
 |0,h,hr=>
   simp at h hr;subst h;subst hr;rw[List.getElem?_set_ne (Ne.symm hne),List.getElem?_set_self h0,GS (g:=F2 [i0,i1] bx.length) (j:=1) (j':=i1) rfl]
 |1,h,hr=>
   simp at h hr;subst h;subst hr;rw[List.getElem?_set_self (by simpa using h1),GA]
 |k+2,h,_=>simp at h
theorem Qo{bx:List (List AV)}{n i0 i1:Nat}(hn:bx.length=n)(h0:i0<n)(h1:i1<n)(hne:i0≠i1)(f:AM)(q:Nat)(d:Dvc)(ns ns':List Nod)(a:A7)(l cap0 cap cap1 cap2:Nat):
    Back bx [i0,i1] [DB f q d 4 cap cap2,NB ns cap1,[.bs 0 0 2 l cap0],A8 a,NB ns' cap2] ((bx.set i0 (DB f q d (n+2) cap cap2)).set i1 (NB ns cap1)++[[.bs i0 0 2 l cap0],A8 a,NB ns' cap2]):=by
 subst hn;have hl:((bx.set i0 (DB f q d (bx.length+2) cap cap2)).set i1 (NB ns cap1)).length=bx.length:=by simp
 refine⟨by simp,fun i row hi h=>?_,fun k i row h hr=>?_,fun k row h=>?_⟩
 ·simp only[List.mem_cons,List.not_mem_nil,or_false,not_or]at hi;rw[CO (by rw[hl];exact(AP.1 h).1),List.getElem?_set_ne (Ne.symm hi.2),List.getElem?_set_ne (Ne.symm hi.1)];exact h
 ·match k,h,hr with
  |0,h,hr=>
    simp at h hr;subst h;subst hr;rw[CO (by rw[hl];exact h0),List.getElem?_set_ne (Ne.symm hne),List.getElem?_set_self h0,GS (g:=F2 [i0,i1] bx.length) (j:=4) (j':=bx.length+2) rfl]
  |1,h,hr=>
    simp at h hr;subst h;subst hr;rw[CO (by rw[hl];exact h1),List.getElem?_set_self (by simpa using h1),GA]
  |k+2,h,_=>simp at h
 rw[DQ (by rw[hl];omega),hl,show bx.length+k - bx.length=k by omega]
 match k,h with
 |0,h=>injection h with h;subst h;rfl
 |1,h=>injection h with h;subst h;rfl
 |2,h=>injection h with h;subst h;rw[GA];rfl
 |k+3,h=>rw[List.getElem?_eq_none (by simp;omega)]at h;cases h
theorem Qp{bx:List (List AV)}{n i0 i1:Nat}(hn:bx.length=n)(h0:i0<n)(h1:i1<n)(hne:i0≠i1)(f:AM)(q:Nat)(d:Dvc)(ns:List Nod)(a:A7)(l cap0 cap cap1 cap1':Nat):
    Back bx [i0,i1] [DB f q d 1 cap cap1,NB ns cap1',[.bs 0 0 2 l cap0],A8 a] ((bx.set i0 (DB f q d i1 cap cap1)).set i1 (NB ns cap1')++[[.bs i0 0 2 l cap0],A8 a]):=by
 subst hn;have hl:((bx.set i0 (DB f q d i1 cap cap1)).set i1 (NB ns cap1')).length=bx.length:=by simp
 refine⟨by simp,fun i row hi h=>?_,fun k i row h hr=>?_,fun k row h=>?_⟩
 ·simp only[List.mem_cons,List.not_mem_nil,or_false,not_or]at hi;rw[CO (by rw[hl];exact(AP.1 h).1),List.getElem?_set_ne (Ne.symm hi.2),List.getElem?_set_ne (Ne.symm hi.1)];exact h
 ·match k,h,hr with
  |0,h,hr=>
    simp at h hr;subst h;subst hr;rw[CO (by rw[hl];exact h0),List.getElem?_set_ne (Ne.symm hne),List.getElem?_set_self h0,GS (g:=F2 [i0,i1] bx.length) (j:=1) (j':=i1) rfl]
  |1,h,hr=>
    simp at h hr;subst h;subst hr;rw[CO (by rw[hl];exact h1),List.getElem?_set_self (by simpa using h1),GA]
  |k+2,h,_=>simp at h
 rw[DQ (by rw[hl];omega),hl,show bx.length+k - bx.length=k by omega]
 match k,h with
 |0,h=>injection h with h;subst h;rfl
 |1,h=>injection h with h;subst h;rfl
 |k+2,h=>rw[List.getElem?_eq_none (by simp;omega)]at h;cases h
theorem UC{f:AM}{q:Nat}{d d':Dvc}(hn:d'.next=d.next)(hl:d'.nodes.length=d.nodes.length)(j cap cap1:Nat):DB f q d j cap cap1=DB (f.set q d') q d' j cap cap1:=by
 unfold DB FW Gw;rw[List.map_set,List.set_set,hn,hl]
theorem J4{n:Nat}{bx:List (List AV)}{k i j:Nat}{f:AM}{q:Nat}{d d':Dvc}{cap cap0 cap1:Nat}(hq:q<f.length)(hn:d'.next=d.next)(hl:d'.nodes.length=d.nodes.length)(hc:f.length≤cap)(hc1:d'.nodes.length≤cap1)(hni:n≤i)(hnj:n≤j)
    (hi:bx[i]?=some (DB f q d j cap cap1)) (hj:bx[j]?=some (NB d'.nodes cap1)):F4 n (Cs n bx (k+2)) [.bs i 0 2 f.length cap0]=AW (f.set q d'):=by
 have:Nat.blt i n=false:=by rw[←Bool.not_eq_true,Nat.blt_eq];omega
 have key:=Jz (n:=n) (bx:=bx) (k:=k) (i:=i) (j:=j) (f:=f.set q d') (K:=q) (d:=d') (cap:=cap) (cap0:=cap0) (cap1:=cap1) (by simp[hq]) (by simpa using hc) hc1 hni hnj (by rw[hi,UC hn hl]) hj;rw[List.length_set]at key;have key2:AV.agg [Dc (Cs n bx (k+2)) (.bs i 0 2 f.length cap0)]=AV.agg (AW (f.set q d')):=key;have e:F4 n (Cs n bx (k+2)) [.bs i 0 2 f.length cap0]=[Dc (Cs n bx (k+2)) (.bs i 0 2 f.length cap0)]:=by simp only[F4,F3,this]
 rw[e];injection key2
structure FlsV(f:AM):Prop where
 few:f.length≤3
 vd:∀d∈f,VD d
theorem FlsV.b{f:AM}(h:FlsV f):FlsB f:=⟨by have:=h.few;omega,fun d hd=>by have:=(h.vd d hd).len;omega,fun d hd n hn=>by have:=(h.vd d hd).many n hn;omega⟩
theorem Mh{ns:List Nod}(h:Dm ns){i:Nat}{n:Nod}(hi:ns[i]?=some n)(g:Nod→Nod):ns.set i (g n)=CL ns n.ino g:=by
 apply List.ext_getElem?;intro k;unfold CL;rw[List.getElem?_map,List.getElem?_set];have hil:=(AP.1 hi).1;split
 ·rename_i e;subst e;rw[hi];simp[hil]
 rename_i e
 cases hk:ns[k]? with
 |none=>rfl
 |some m=>
   have:m.ino≠n.ino:=by
    intro em;obtain⟨l1,e1⟩:=AP.1 hi;obtain⟨l2,e2⟩:=AP.1 hk;have hp:=List.pairwise_iff_getElem.1 h;rcases Nat.lt_or_gt_of_ne e with hlt|hlt
    ·have:=hp i k l1 l2 hlt;rw[e1,e2]at this;omega
    have:=hp k i l2 l1 hlt;rw[e1,e2]at this;omega
   simp[this]
def J5(f:AM)(q:Nat)(g:List Nod→List Nod):AM:=f.modify q fun d=>{d with nodes:=g d.nodes}
theorem Gx{f:AM}{q:Nat}{d:Dvc}(h:f[q]?=some d)(g:List Nod→List Nod):J5 f q g=f.set q {d with nodes:=g d.nodes}:=by
 apply List.ext_getElem?;intro k;unfold J5;rw[List.getElem?_modify,List.getElem?_set];split
 ·rename_i e;subst e;rw[h];simp[(AP.1 h).1]
 simp
theorem Gy{f:AM}{dir:A7}{name:AB}(h:C7 f dir name=0):∃(q i:Nat) (d:Dvc) (n0:Nod),dir.1=(q:Int)∧f[q]?=some d∧d.nodes[i]?=some n0∧n0.ino=dir.2∧FT f dir=(i:Int)∧Ba f dir=some n0∧n0.kind=2∧Dl name=true:=by
 rcases JK f dir with⟨_,h2⟩|⟨q,i,d,n,h1,h2,h3,h4,h5,h6⟩
 ·simp[C7,h2]at h
 refine⟨q,i,d,n,h1,h2,h3,h4,h5,h6,?_⟩;simp only[C7,h6]at h;split at h
 ·rename_i hk;split at h
  ·rename_i hn;exact⟨hk,hn⟩
  omega
 omega
def CM(R:KW):AV:= .tup [.agg (AW R.1), .sl 7 (R.2.1.map FB) none, .v (.int .i64 R.2.2)]
theorem DC(e:Int):LeA (.tup [.agg [.v (.slice none 0 0)], .v (.slice none 0 0), .v (.int .i64 e)]) (CM ([],[],e)):=(by repeat (first|exact A9 _|exact LeA.nil _|exact LeL.refl _|refine LeA.agg ?_|refine LeA.tup ?_|exact LeL.nil|refine LeL.cons ?_ ?_|exact LeA.any _))
def FY(f:AM)(dir:A7)(name:AB)(a:A7):KW:=
 if C7 f dir name≠0 then([],[],C7 f dir name)else if Cm f a=false then([],[],2)else if a.1≠dir.1 then([],[],18)else if(Ai f a).kind=2 then([],[],1)else
 if(AG f dir name).2=0 then([],[],17)else if JM f dir=true then([],[],28)else(J5 f dir.1.toNat fun ns=>BE ns dir.2 name a.2,[(dir,name,(0,0),a)],0)
section
theorem ZO(f:AM)(dir:A7)(name:AB)(a:A7)(hv:FlsV f)(hs:name.size≤100000):AFn prog 172 [.agg (AW f), .agg (A8 dir), .v (.string name), .agg (A8 a)] (fun r=>r=CM (FY f dir name a)):=by
 have hf:=hv.b;refine enter Tryz.func172 rfl rfl rfl rfl rfl 0 rfl ?_;refine EV (h:=EL (h:=a_ (h:=B5 (h:=q_ (F9 (h:=?_))))));refine A3 rfl (AA (LH f dir name hf hs) ?_);rintro r rfl;refine BJ (h:=C6 (h:=?_));refine A6 rfl (fun hb1 hc1=>?_) (fun hb1 hc1=>?_)
 ·refine w_ (FP (h:=Du (h:=?_)));refine Ag (r:=CM (FY f dir name a)) none (h5:=?_) (h6:=⟨rfl,rfl,rfl⟩);rw[FY,if_pos (by omega)];exact DC _
 refine AK (Bl (h:=?_));refine A3 rfl (AA (G7 f a hf) ?_);rintro r rfl;refine Ea (h:=Dj (h:=?_));refine A6 rfl (fun hb2 hc2=>?_) (fun hb2 hc2=>?_)
 ·refine w_ (Ep (h:=?_));refine Ag (r:=CM (FY f dir name a)) none (h5:=?_) (h6:=⟨rfl,rfl,rfl⟩);rw[FY,if_neg (by omega),if_pos hc2];exact DC _
 refine D0 (h:=Bg (h:=e_ (?_)));refine A6 rfl (fun hb3 hc3=>?_) (fun hb3 hc3=>?_)
 ·refine w_ (Ep (h:=?_));refine Ag (r:=CM (FY f dir name a)) none (h5:=?_) (h6:=⟨rfl,rfl,rfl⟩);rw[FY,if_neg (by omega),if_neg (by simp[hc2]),if_pos (by omega)];exact DC _
 refine D0 (h:=C2 (h:=?_));refine A6 rfl (fun hb4 hc4=>?_) (fun hb4 hc4=>?_)
 ·refine w_ (Ep (h:=?_));refine Ag (r:=CM (FY f dir name a)) none (h5:=?_) (h6:=⟨rfl,rfl,rfl⟩);rw[FY,if_neg (by omega),if_neg (by simp[hc2]),if_neg (by omega),if_pos hc4];exact DC _
 refine FR (h:=F9 (h:=?_));refine A3 rfl (AA (JN f dir name hf) ?_);rintro r rfl;refine Dt (h:=BJ (h:=C2 (h:=?_)));refine A6 rfl (fun hb5 hc5=>?_) (fun hb5 hc5=>?_)
 ·refine w_ (Ep (h:=?_));refine Ag (r:=CM (FY f dir name a)) none (h5:=?_) (h6:=⟨rfl,rfl,rfl⟩);rw[FY,if_neg (by omega),if_neg (by simp[hc2]),if_neg (by omega),if_neg hc4,if_pos hc5];exact DC _
 refine FR (h:=Bl (h:=?_));refine A3 rfl (AA (Q1 f dir hf) ?_);rintro r rfl;refine e_ (?_);refine A6 rfl (fun hb6 hc6=>?_) (fun hb6 hc6=>?_)
 ·refine w_ (Ep (h:=?_));refine Ag (r:=CM (FY f dir name a)) none (h5:=?_) (h6:=⟨rfl,rfl,rfl⟩);rw[FY,if_neg (by omega),if_neg (by simp[hc2]),if_neg (by omega),if_neg hc4,if_neg hc5,if_pos hc6];exact DC _
 obtain⟨q,i,d,n0,hdq,hq,hn0,hino,hidx,hnode,hk0,hnm⟩:=Gy (name:=name) (dir:=dir) (f:=f) (by omega);have hil:=(AP.1 hn0).1;have hql:=(AP.1 hq).1;refine AK (Be (h:=?_));refine A3 rfl (El [] rfl (.cons _ _ _ _ _ rfl (A9 _) .nil) (by decide) .nil (LR f q d hf hq (by omega)) ?_);rintro r bc tc ⟨rfl,cap,cap1,hcap,hcap1,rfl,rfl⟩;refine⟨rfl,_,(LW (n:=6) rfl f q d d.nodes cap cap1:Back _ [] _ [_,_,_,_,_,_,_,_]),?_⟩;refine CY (h:=F9 (h:=AN (h:=?_)));refine A3 rfl (El [6,7] rfl (.cons _ _ _ _ _ rfl (A9 _) (.cons _ _ _ _ _ rfl (A9 _) (.cons _ _ _ _ _ rfl (A9 _) (.cons _ _ _ _ _ rfl (A9 _) .nil)))) (by decide) (.cons _ _ _ _ _ rfl (GS (by rfl) _ _ _ _ _) (.cons _ _ _ _ _ rfl (GA _ _ _) .nil)) (MV f q d n0 i dir name a.2 cap cap1 hf hq hdq hidx hn0 hcap hcap1) ?_);rintro r bc tc ⟨rfl,rfl,rfl⟩;refine⟨rfl,_,(LX (B7 rfl) (B7 rfl) (by decide) f q d _ cap cap1 cap1:Back _ [6,7] _ [_,_,_,_,_,_,_,_,_]),?_⟩;refine e_ (?_);refine C5 (fun t=>t=⟨look [(8, .bp 3 0),(9, .sl 7 [FB (dir,name,(0,0),a)] none),(10, .v (.int .i64 0))],⟨[AW f,A8 dir,A8 a,AW (f.set q {d with nodes:=d.nodes.set i {n0 with entries:=CH n0.entries name a.2}})],[]⟩⟩) ?_ ?_
 ·skip
  refine Bz ([(0,AW f),(1,A8 dir),(2,A8 a),(6,DB f q d 7 cap cap1),(7,NB (d.nodes.set i {n0 with entries:=CH n0.entries name a.2}) cap1),(8,[.bs 6 0 2 f.length cap])]) 9 (h:=AD 0 (h:=AD 1 (h:=Ac 2 (h:=?_))));refine BT 3 rfl (fun _ hS=>Hp (y:= .agg (A8 (0,0))) (F5 ⟨rfl,rfl⟩) (by repeat (first|exact A9 _|exact LeA.nil _|exact LeL.refl _|refine LeA.agg ⟨rfl,rfl⟩|refine LeA.tup ⟨rfl,rfl⟩|exact LeL.nil|refine LeL.cons ⟨rfl,rfl⟩ ⟨rfl,rfl⟩|exact LeA.any _)) ⟨rfl,rfl⟩) ?_;refine AD 4 (h:=?_);refine c_ 5 rfl (AA (Kb dir name (0,0) a) ?_);rintro r rfl;refine o_ (h:=?_);refine CG 6 (h:=BM 7 (h:=BM 8 (h:=z_ (h:=?_))));refine Ab ?_;exact⟨_,rfl,Co 4 2 rfl (by show[_,_,_,F4 4 (Cs 4 _ 2) [.bs 6 0 2 f.length cap]]=_;rw[J4 (k:=0) (i:=6) (j:=7) (d:=d) (d':={d with nodes:=d.nodes.set i {n0 with entries:=CH n0.entries name a.2}}) hql rfl (by simp) hcap (by simpa using hcap1) (by decide) (by decide) rfl rfl];rfl) (.cons _ _ _ _ rfl (A9 _) (.cons _ _ _ _ rfl (A9 _) (.cons _ _ _ _ rfl (A9 _) .nil)))⟩
 rintro t rfl;refine Ax (?_);refine A4 ?_;rw[FY,if_neg (by omega),if_neg (by simp[hc2]),if_neg (by omega),if_neg hc4,if_neg hc5,if_neg (by simp[hc6]),hdq,Int.toNat_natCast,Gx hq,←hino];unfold BE;rw[←Mh (hv.vd d (AT hq)).asc hn0];rfl
end
end Go.Proofs.YtbgnigjfkbmceaaGreatDoor
