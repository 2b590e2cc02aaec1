/-
  Part 17 of the proof of WatchReplacedP: what the statement's proof uses of the texts in wip/tpl.
-/
import Derived.Test.YtobclmbkdhbnpaaGreatDoorQa16
open Go.Proofs.Tryz (prog)
set_option maxRecDepth 10000
set_option maxHeartbeats 4000000
set_option linter.unusedVariables false
set_option linter.unusedSimpArgs false
namespace Go.Proofs.YtobclmbkdhbnpaaGreatDoor
open Go.RowKit
theorem Vu{s:Spc}{a b:A9}(h:Ag s.files b=false):decide (a∈BT s (Bd s.files) b)=false:=by
 have e:BT s (Bd s.files) b=[]:=by
  cases Bd s.files with
  |zero=>rfl
  |succ k=>unfold BT;rw[h];rfl
 rw[e];rfl
section
variable {ev:Operand→Option AV}{h:AH}{R:AV→AH→Prop}{d:Option Tmp}{ty:TypeId}{pos:String}{af:Array Edge}{gd:Option (Nat×Bool)}
theorem iS{x ix:Operand}{a b:A9}(j:Nat)(hx:ev x=some (.agg [.v (.int .i64 a.1), .v (.int .i64 a.2), .v (.int .i64 b.1), .v (.int .i64 b.2)]))(hi:ev ix=some (.v (.int .i64 (j:Int))))(hj:j<2)(hR:R (.agg (AB (if j=0 then a else b))) h):AStep prog ⟨d, .index 113 x ix,ty,pos,af,gd⟩ ev h R:=by
 refine Cv (fun _ G w ec _ he=>?_) hR;have h1:=he x (by simp[Op.operands]) _ hx;have h2:=he ix (by simp[Op.operands]) _ hi;simp only[rep]at h1 h2;obtain⟨ys,h3,h4⟩:=h1;simp only[AY,rep]at h4;obtain⟨v1,q1,rfl,rfl,v2,q2,rfl,rfl,v3,q3,rfl,rfl,v4,q4,rfl,rfl,rfl⟩:=h4;have u1:=Tryz.underlying113;have u2:=Tryz.isAgg33;have u3:=Tryz.sizeOf33
 match j,hj with
 |0,_=>
   refine⟨.agg #[.int .i64 a.1, .int .i64 a.2],?_,by simp[rep,AY,AB]⟩;simp[execOp,h2,h3,Instr.index,asIntOf,part]
 |1,_=>
   refine⟨.agg #[.int .i64 b.1, .int .i64 b.2],?_,by simp[rep,AY,AB]⟩;simp[execOp,h2,h3,Instr.index,asIntOf,part]
end
theorem Fb{s:Spc}{w:Wch}{d f:A9}{n:AE}(hk:w.kind=1):D2 s w d n f=((!decide (w.file=(0,0))&&decide (w.file=f))||(!decide (n=⟨#[]⟩)&&decide (d=w.dir)&&decide (n=w.name))):=by
 unfold D2;rw[if_pos hk];have e1:decide (w.file≠(0,0))= !decide (w.file=(0,0)):=by simp
 have e2:decide (n≠⟨#[]⟩)= !decide (n=⟨#[]⟩):=by simp
 have e3:decide (f=w.file)=decide (w.file=f):=decide_eq_decide.2 ⟨Eq.symm,Eq.symm⟩;rw[e1,e2,e3]
section
theorem Vv(s:Spc)(w:Wch)(y:Itm)(hs:SpcB s):AFn prog 16 [.agg (Ar s), .agg (DO w), .agg (CE y)] (fun r=>r= .v (.bool (D2 s w y.dir y.name y.file))):=by
 refine enter Tryz.func16 rfl rfl rfl rfl rfl 0 rfl ?_;refine w_ (b_ (h:=b_ (h:=b_ (h:=a_ (h:=e_ (q_ (w_ (f_ (h:=l_ (h:=e_ (Ao (w_ (Ac (h:=a_ (h:=e_ (?_))))))))))))))));refine A8 rfl (fun hb1=>?_) (fun hb1=>?_)
 ·have hc1:=bp hb1;refine q_ (?_);refine BY (fun S=>S=⟨look [(3, .bp 0 0),(4, .bp 1 0),(5, .bp 2 0),(23, .v (.bool (!decide (w.file=(0,0))&&decide (w.file=y.file))))],⟨[Ar s,DO w,CE y],[]⟩⟩) ?_ ?_
  ·skip
   refine AX (f_ (h:=l_ (h:=Aa (h:=?_))));refine A7 rfl (Er rfl rfl (by repeat constructor) (by repeat constructor) (fun W=>iM w.file (0,0) W) (by kernel_rfl) ?_);refine m_ (h:=?_);refine As true rfl rfl (fun hb2=>?_) (fun hb2=>?_)
   ·have hc2:=bp hb2;refine f_ (h:=l_ (h:=f_ (h:=l_ (h:=?_))));refine Aw (Er rfl rfl (by repeat constructor) (by repeat constructor) (fun W=>KM w.file y.file W) (by kernel_rfl) ?_);refine AU (h:=AW (?_));refine AJ ?_;exact⟨_,rfl,Cw 3 0 rfl⟩
   have hc2:=bp hb2;refine A3 (h:=A3 (h:=A3 (h:=A3 (h:=A3 (h:=Ah (h:=AW (?_)))))));refine AJ ?_;exact⟨_,rfl,Cw 3 0 rfl⟩
  rintro S rfl;refine A8 rfl (fun hb3=>?_) (fun hb3=>?_)
  ·have hc3:=bp hb3;refine w_ (a_ (h:=e_ (A6 (A4 (AR (A4 (?_)))))));refine AA ?_
   first|(exfalso;first|contradiction|omega)|(exact vb (by first|(rw[Fb hc1,hc3];simp[*];done)|(rw[Fb hc1,hc3];rfl)|(have hj3:j=0∨j=1:=(by omega);rcases hj3 with rfl|rfl<;>simp_all [D2];done)|(simp[D2,hj1 (by omega),hj2 (by omega), *];done)|(simp[D2, *];done)))
  have hc3:=bp hb3;refine AN (w_ (f_ (h:=l_ (h:=BX (h:=m_ (h:=?_))))));refine As true rfl rfl (fun hb4=>?_) (fun hb4=>?_)
  ·have hc4:=bp hb4;refine f_ (h:=l_ (h:=f_ (h:=l_ (h:=?_))));refine Aw (Er rfl rfl (by repeat constructor) (by repeat constructor) (fun W=>KM y.dir w.dir W) (by kernel_rfl) ?_);refine AU (h:=m_ (h:=?_));refine As true rfl rfl (fun hb5=>?_) (fun hb5=>?_)
   ·have hc5:=bp hb5;refine f_ (h:=l_ (h:=f_ (h:=l_ (h:=Ac (h:=AU (h:=a_ (h:=e_ (A6 (AR (A4 (?_)))))))))));refine AA ?_
    first|(exfalso;first|contradiction|omega)|(exact vb (by first|(rw[Fb hc1,hc3];simp[*];done)|(rw[Fb hc1,hc3];rfl)|(have hj3:j=0∨j=1:=(by omega);rcases hj3 with rfl|rfl<;>simp_all [D2];done)|(simp[D2,hj1 (by omega),hj2 (by omega), *];done)|(simp[D2, *];done)))
   have hc5:=bp hb5;refine A3 (h:=A3 (h:=A3 (h:=A3 (h:=A3 (h:=Ah (h:=a_ (h:=e_ (A6 (AR (A4 (?_)))))))))));refine AA ?_
   first|(exfalso;first|contradiction|omega)|(exact vb (by first|(rw[Fb hc1,hc3];simp[*];done)|(rw[Fb hc1,hc3];rfl)|(have hj3:j=0∨j=1:=(by omega);rcases hj3 with rfl|rfl<;>simp_all [D2];done)|(simp[D2,hj1 (by omega),hj2 (by omega), *];done)|(simp[D2, *];done)))
  have hc4:=bp hb4;refine A3 (h:=A3 (h:=A3 (h:=A3 (h:=A3 (h:=Ah (h:=m_ (h:=A3 (h:=A3 (h:=A3 (h:=A3 (h:=A3 (h:=Ah (h:=a_ (h:=e_ (A6 (AR (A4 (?_))))))))))))))))));refine AA ?_
  first|(exfalso;first|contradiction|omega)|(exact vb (by first|(rw[Fb hc1,hc3];simp[*];done)|(rw[Fb hc1,hc3];rfl)|(have hj3:j=0∨j=1:=(by omega);rcases hj3 with rfl|rfl<;>simp_all [D2];done)|(simp[D2,hj1 (by omega),hj2 (by omega), *];done)|(simp[D2, *];done)))
 have hc1:=bp hb1;refine w_ (Ac (h:=a_ (h:=e_ (?_))));refine A8 rfl (fun hb6=>?_) (fun hb6=>?_)
 ·have hc6:=bp hb6;refine w_ (f_ (h:=l_ (h:=f_ (h:=l_ (h:=Aa (h:=m_ (h:=e_ (Ao (?_)))))))));refine Bm (fun m S=>∃j:Nat,j≤2∧m=2 - j∧(0<j→Mm s w.file y.dir=false)∧(1<j→Mm s w.file y.file=false)∧S=⟨look [(3, .bp 0 0),(4, .bp 1 0),(5, .bp 2 0),(47, .agg [.v (.int .i64 y.dir.1), .v (.int .i64 y.dir.2), .v (.int .i64 y.file.1), .v (.int .i64 y.file.2)]),(48, .v (.int .i64 (j:Int)))],⟨[Ar s,DO w,CE y],[]⟩⟩) (2) ((wk 3 0)) (⟨0,by omega,rfl,fun q=>by omega,fun q=>by omega,rfl⟩) ?_;rintro m S ⟨j,hj,rfl,hj1,hj2,rfl⟩;refine w_ (BO (h:=e_ (q_ (?_))));refine A8 rfl (fun hb7=>?_) (fun hb7=>?_)
  ·have hc7:=bp hb7;refine AN (q_ (Ao (?_)));refine BY (fun S=>∃z,z=(if j=0 then y.dir else y.file)∧S=⟨look [(3, .bp 0 0),(4, .bp 1 0),(5, .bp 2 0),(8, .bp 3 0),(47, .agg [.v (.int .i64 y.dir.1), .v (.int .i64 y.dir.2), .v (.int .i64 y.file.1), .v (.int .i64 y.file.2)]),(48, .v (.int .i64 (j:Int)))],⟨[Ar s,DO w,CE y,AB z],[]⟩⟩) ?_ ?_
   ·skip
    refine AX (?_);refine A7 rfl (iS j rfl rfl (by omega) ?_);refine Af (h:=s_ (h:=AW (?_)));refine AJ ?_;exact⟨_,⟨_,rfl,rfl⟩,B7 4 0 rfl rfl rfl rfl ((by repeat (first|exact Sub.nil|refine B9 rfl rfl ?_|refine BC ?_|refine BD rfl ?_|refine BE rfl ?_)))⟩
   rintro S ⟨z,hz,rfl⟩;refine BY (fun S=>S=⟨look [(3, .bp 0 0),(4, .bp 1 0),(5, .bp 2 0),(47, .agg [.v (.int .i64 y.dir.1), .v (.int .i64 y.dir.2), .v (.int .i64 y.file.1), .v (.int .i64 y.file.2)]),(48, .v (.int .i64 (j:Int))),(60, .v (.bool (Mm s w.file z)))],⟨[Ar s,DO w,CE y],[]⟩⟩) ?_ ?_
   ·skip
    refine AX (l_ (h:=l_ (h:=?_)));refine A7 rfl (AK (RW s z hs) ?_);rintro r rfl;refine m_ (h:=?_);refine As true rfl rfl (fun hb8=>?_) (fun hb8=>?_)
    ·have hc8:=bp hb8;refine l_ (h:=f_ (h:=l_ (h:=l_ (h:=?_))));refine Aw (AK (Zv s hs w.file z) ?_);rintro r rfl;refine AU (h:=AW (?_));refine AJ ?_;refine⟨_,rfl,B7 3 0 rfl rfl rfl rfl (by repeat (first|exact Sub.nil|refine B9 rfl rfl ?_|(apply Sub.of;(focus exact rfl);(focus exact LeA.of_eq (vb (by first|rfl|exact(Vu ‹_›).symm)));(focus exact rfl))))⟩
    have hc8:=bp hb8;refine A3 (h:=A3 (h:=A3 (h:=A3 (h:=A3 (h:=Ah (h:=AW (?_)))))));refine AJ ?_;refine⟨_,rfl,B7 3 0 rfl rfl rfl rfl (by repeat (first|exact Sub.nil|refine B9 rfl rfl ?_|(apply Sub.of;(focus exact rfl);(focus exact LeA.of_eq (vb (by first|rfl|exact(Vu ‹_›).symm)));(focus exact rfl))))⟩
   rintro S rfl;refine A8 rfl (fun hb9=>?_) (fun hb9=>?_)
   ·have hc9:=bp hb9;refine w_ (a_ (h:=e_ (A6 (AR (A4 (A4 (AR (AR (A4 (?_))))))))));refine AA ?_
    first|(exfalso;first|contradiction|omega)|(exact vb (by first|(rw[Fb hc1,hc3];simp[*];done)|(rw[Fb hc1,hc3];rfl)|(have hj3:j=0∨j=1:=(by omega);rcases hj3 with rfl|rfl<;>simp_all [D2];done)|(simp[D2,hj1 (by omega),hj2 (by omega), *];done)|(simp[D2, *];done)))
   have hc9:=bp hb9;refine BA (Au (t_ (AX (B2 (h:=m_ (h:=AW (?_)))))));refine AJ ?_;have hj3:j=0∨j=1:=by omega
   refine⟨_,_,?_,⟨j+1,by omega,rfl,?_,?_,rfl⟩,B7 3 0 rfl rfl rfl rfl ((by repeat (first|exact Sub.nil|refine B9 rfl rfl ?_|refine BC ?_|refine BD rfl ?_|refine BE rfl ?_)))⟩
   ·omega
   ·intro _;rcases hj3 with rfl|rfl
    ·rw[if_pos rfl]at hz;rw[←hz];assumption
    exact hj1 (by omega)
   intro q;rcases hj3 with rfl|rfl
   ·omega
   rw[if_neg (by omega)]at hz;rw[←hz];assumption
  have hc7:=bp hb7;refine BU (Am (Am (BV (Au (t_ (w_ (a_ (h:=e_ (A6 (?_))))))))));refine AA ?_
  first|(exfalso;first|contradiction|omega)|(exact vb (by first|(rw[Fb hc1,hc3];simp[*];done)|(rw[Fb hc1,hc3];rfl)|(have hj3:j=0∨j=1:=(by omega);rcases hj3 with rfl|rfl<;>simp_all [D2];done)|(simp[D2,hj1 (by omega),hj2 (by omega), *];done)|(simp[D2, *];done)))
 have hc6:=bp hb6;refine BA (Au (t_ (w_ (a_ (h:=e_ (A6 (?_)))))));refine AA ?_
 first|(exfalso;first|contradiction|omega)|(exact vb (by first|(rw[Fb hc1,hc3];simp[*];done)|(rw[Fb hc1,hc3];rfl)|(have hj3:j=0∨j=1:=(by omega);rcases hj3 with rfl|rfl<;>simp_all [D2];done)|(simp[D2,hj1 (by omega),hj2 (by omega), *];done)|(simp[D2, *];done)))
end
theorem iT{f:AT}{src to:A9}{name name2:AE}(h0:(CG f src name to name2).2.2=0)(hne:0<(CG f src name to name2).2.1.length):(to,name2,(AD f to name2).1,(AD f src name).1)∈(CG f src name to name2).2.1:=by
 by_cases c1:F8 (C6 f src name) (C6 f to name2)≠0
 ·rw[CG,if_pos c1]at hne;simp at hne
 by_cases c2:(AD f src name).2≠0
 ·rw[CG,if_neg c1,if_pos c2]at hne;simp at hne
 by_cases c3:src.1≠to.1
 ·rw[CG,if_neg c1,if_neg c2,if_pos c3]at hne;simp at hne
 by_cases c4:Ag f (AD f src name).1=true∧Kr f to (AD f src name).1=true
 ·rw[CG,if_neg c1,if_neg c2,if_neg c3,if_pos c4]at hne;simp at hne
 by_cases c5:(AD f to name2).2=0∧(AD f to name2).1=(AD f src name).1
 ·rw[CG,if_neg c1,if_neg c2,if_neg c3,if_neg c4,if_pos c5]at hne;simp at hne
 by_cases c6:DQ f src to (AD f src name).1 (AD f to name2).1 (AD f to name2).2≠0
 ·rw[CG,if_neg c1,if_neg c2,if_neg c3,if_neg c4,if_neg c5,if_pos c6]at hne;simp at hne
 rw[CG,if_neg c1,if_neg c2,if_neg c3,if_neg c4,if_neg c5,if_neg c6];simp
theorem iU{f:AT}(hv:FlsV f){src to:A9}{name name2:AE}(h0:(CG f src name to name2).2.2=0)(hne:0<(CG f src name to name2).2.1.length):FlsV (CG f src name to name2).1∧(AD (CG f src name to name2).1 to name2).1=(AD f src name).1:=by
 have hk:=bC hv (Q:=CG f src name to name2) (.inr (.inr (.inr (.inl ⟨_,_,_,_,rfl⟩)))) h0;exact⟨(GU hv src name to name2 h0).1,(hk.look _ (iT h0 hne)).2.1⟩
theorem iV{f:AT}(hv:FlsV f){src to:A9}{name name2:AE}(hne:0<(CG f src name to name2).2.1.length):(AD f src name).1≠(0,0):=by
 by_cases c1:F8 (C6 f src name) (C6 f to name2)≠0
 ·rw[CG,if_pos c1]at hne;simp at hne
 by_cases c2:(AD f src name).2≠0
 ·rw[CG,if_neg c1,if_pos c2]at hne;simp at hne
 obtain⟨hpl1, -⟩:=Ny (f:=f) (x:=src) (y:=to) (name:=name) (name2:=name2) (by omega);obtain⟨q,i,d,n1,hsq,hq,hn1,hn1i,hidx,hnode,hk1,hnm1⟩:=Ea hpl1;obtain⟨e,m,he,hle,hm,hem,he1,hmn⟩:=JQ hv hsq hq hn1 hnode hk1 (name:=name) (by omega);have hA2:(AD f src name).1.2=m.ino:=by rw[hle];exact hem
 have hp:=(hv.vd d (Aj hq)).pos hm;intro h;have:=congrArg (fun y:A9=>y.2) h;simp only at this;omega
theorem iW{s:Spc}(hv:SpcV s){w:Wch}(hc:KL s w=true)(hk:w.kind=1){src:A9}{name:AE}(h0:(CG s.files src name w.dir w.name).2.2=0)(hne:0<(CG s.files src name w.dir w.name).2.1.length):
    let y:Spc:=⟨(CG s.files src name w.dir w.name).1,s.mounts⟩
    ((Fv y w).2=false→Ag y.files w.dir=false)∧((Fv y w).2=true→D2 y (Fv y w).1 (0,0) ⟨#[]⟩ (AD s.files src name).1=true∧(w.file=(AD s.files src name).1∨w.file=(0,0)∨D2 y (Fv y w).1 (0,0) ⟨#[]⟩ w.file=false)):=by
 intro y;obtain⟨-,hl⟩:=iU hv.files h0 hne;have hn:=iV hv.files hne;have hd:D3 w=w.dir:=if_neg (by omega)
 have hm:C4 y w.dir.1=true:=by
  unfold KL at hc;rw[if_pos hk]at hc;simp only[Bool.and_eq_true,FC]at hc;exact hc.1.1.2
 have hk2:¬(w.kind≠1∧w.kind≠2):=by omega
 refine⟨fun h=>?_,fun h=>?_⟩
 ·unfold Fv at h;by_cases c:FC y (D3 w)=false
  ·rw[hd,FC,hm,Bool.and_true]at c;exact c
  rw[if_neg (fun e=>e.elim hk2 c),if_pos hk]at h;cases h
 unfold Fv at h ⊢;by_cases c:(w.kind≠1∧w.kind≠2)∨FC y (D3 w)=false
 ·rw[if_pos c]at h;cases h
 rw[if_neg c,if_pos hk];have hl':(AD y.files w.dir w.name).1=(AD s.files src name).1:=hl;refine⟨?_,?_⟩
 ·simp only[D2,hk,if_true,hl'];simp[hn]
 simp only[D2,hk,if_true,hl'];by_cases e:w.file=(AD s.files src name).1
 ·exact .inl e
 refine .inr (.inr ?_);simp[e]
section
theorem iX(l:List Int)(a:Nat)(ha:a≤100000000000):FF prog 26 l a [] 4 (fun r=>∃s:ByteArray,r= .v (.string s)∧s.size≤60):=by
 refine enter Tryz.func26 rfl rfl rfl rfl rfl 1 rfl ?_;refine w_ (a_ (h:=e_ (w_ (a_ (h:=e_ (q_ (w_ (m_ (h:=C2 (h:=?_))))))))));refine A7 rfl (Bf 0 (hc:=KA l _ _ (fun z=>decide (1≤z∧z≤3)) (by omega) (by rfl) (by rfl) (by rfl)) (hR:=?_));rintro r a1 ha1 ⟨k1,rfl,p1⟩;refine⟨rfl,_,(by repeat constructor),?_⟩;obtain⟨hz1,hz2⟩:=of_decide_eq_true p1;obtain⟨m,rfl⟩:=Int.eq_ofNat_of_zero_le (show 0≤k1 by omega);refine a_ (h:=e_ (Ao (?_)));refine Bm (fun n s=>∃(j a1:Nat) (t:ByteArray),j≤m∧n=j∧a1≤a+1+(m - j)∧t.size≤2 * (m - j)∧s=⟨look [(0, .bp 0 0),(3, .v (.string t)),(4, .v (.int .i64 (j:Int)))],⟨[ES l a1],[]⟩⟩) (m) ((wk 1 0)) (⟨m,a1,⟨#[]⟩,by omega,rfl,by omega,by rw[Nat.sub_self];exact Av 0,rfl⟩) ?_;rintro n s ⟨j,b1,t,hj,hn,hb1,ht,rfl⟩;subst n;refine q_ (w_ (m_ (h:=CS (h:=e_ (?_)))));refine A8 rfl (fun hb1=>?_) (fun hb1=>?_)
 ·have hc1:=bp hb1;refine AN (q_ (Ao (AX (m_ (h:=m_ (h:=C2 (h:=?_)))))));refine A7 rfl (Bf 0 (hc:=MT l _ _ (fun s=>decide (s.size≤1)) (by omega) (by rfl) (by rfl) (by rfl)) (hR:=?_));rintro r a2 ha2 ⟨k2,rfl,p2⟩;refine⟨rfl,_,(by repeat constructor),?_⟩;have hw:=of_decide_eq_true p2;refine A7 rfl (Ef rfl rfl (by show 1+k2.size≤_;omega) ?_);refine A7 rfl (Ef rfl rfl (by have e:=ByteArray.size_append (a:=⟨#[47]⟩) (b:=k2);have:(⟨#[47]⟩:ByteArray).size=1:=rfl;omega) ?_);refine a_ (h:=AW (Au (t_ (AX (m_ (h:=PS (h:=a_ (h:=AW (?_)))))))));refine AJ ?_;obtain⟨j,rfl⟩:∃i,j=i+1:=⟨j - 1,by omega⟩;refine⟨_,_,?_,⟨j,_,_,by omega,rfl,?_,?_,rfl⟩,B7 1 0 rfl rfl rfl rfl (by repeat (first|exact Sub.nil|refine B9 rfl rfl ?_|(apply Sub.of;(focus exact rfl);(focus exact LeA.of_eq (vi (by omega)));(focus exact rfl))))⟩
  ·omega
  ·omega
  have e:=ByteArray.size_append (a:=⟨#[47]⟩) (b:=k2);have e2:=ByteArray.size_append (a:=t) (b:=⟨#[47]⟩++k2);have:(⟨#[47]⟩:ByteArray).size=1:=rfl;omega
 have hc1:=bp hb1;refine BU (Am (Am (BV (t_ (w_ (m_ (h:=a_ (h:=e_ (A6 (?_))))))))));refine B0 none (h5:=(AM _)) (h6:=⟨_,rfl,rfl,b1,by omega,rfl,t,rfl,by omega⟩)
end
def Bare(s:Spc):Prop:=FlsV s.files∧0<s.files.length∧s.mounts=[]
theorem Bare.v{s:Spc}(h:Bare s):SpcV s:=⟨h.1,h.2.1,fun i m hm=>by rw[h.2.2]at hm;cases hm⟩
theorem Bare.m{s:Spc}(h:Bare s):s.mounts.length≤1000:=by rw[h.2.2];exact BJ _
theorem Vw{w:Wrk}{R:Dl}(h:Bare w.s.spc)(hR:Hq w.s.spc.files R):Bare (C5 w R).1.s.spc:=by
 unfold C5;split
 ·rename_i h0;obtain⟨k1,k2⟩:=hR h0;exact⟨k1,by show 0<R.1.length;rw[k2];exact h.2.1,h.2.2⟩
 exact h
theorem Vx:TabB DS:=⟨BJ _,(fun p hp=>by cases hp),by decide,by decide⟩
theorem iY{t:Tab}(ht:TabB t)(pid:Int)(a:A9)(fl:Int):TabB (Ej t pid a fl).1:=by
 unfold Ej;split
 ·exact Vx
 split
 ·exact Vx
 rename_i h8;refine⟨by simpa[Gb]using ht.few,fun p hp=>?_,ht.next,ht.nextS⟩;simp only[Gb,List.mem_map]at hp;obtain⟨x,hx,rfl⟩:=hp;split
 ·simp[L6];omega
 exact ht.opens x hx
theorem iZ{w:Wrk}{R:Tab×Int}(h:TabB w.s.tab)(hR:TabB R.1):TabB (Dy w R).1.s.tab:=by
 unfold Dy;split
 ·exact hR
 exact h
theorem Vy(w:Wrk)(R:Dl):(C5 w R).1.s.tab=w.s.tab:=by
 unfold C5;split<;>rfl
theorem j0(w:Wrk)(R:Tab×Int):(Dy w R).1.s.spc=w.s.spc:=by
 unfold Dy;split<;>rfl
def Ed(s:Syst):Prop:=Bare s.spc∧TabB s.tab
theorem Vz{w:Wrk}{i:Nat}{n:Nod}(h:Ed w.s):Ed (Cr w i n).1.s:=by
 unfold Cr;split
 ·exact⟨Vw h.1 (Hs h.1.1 _ _ _),by show TabB (C5 w _).1.s.tab;rw[Vy];exact h.2⟩
 exact h
theorem W8{w:Wrk}(h:Ed w.s)(a:A9):Ed (J0 w a).1.s:=by
 unfold J0;exact⟨by rw[j0];exact h.1,iZ h.2 (iY h.2 _ _ _)⟩
theorem j1{w:Wrk}(h:Ed w.s):Ed (CK w).1.s:=by
 unfold CK
 repeat' split
 all_goals first|with_reducible exact Vz h|with_reducible exact W8 h _|with_reducible exact W8 (Vz h) _|exact h
theorem j2{w:Wrk}{R:Dl}{x:A9}(h:Ed w.s)(hR:Hq w.s.spc.files R):Ed (H7 w R x).1.s:=by
 have hf:Ed (C5 w R).1.s:=⟨Vw h.1 hR,by rw[Vy];exact h.2⟩;unfold H7
 repeat' split
 all_goals first|exact h|exact hf
theorem j4{w:Wrk}(h:Ed w.s):Ed (EH w).1.s:=by
 have hf:FlsV w.s.spc.files:=h.1.1;unfold EH
 repeat' split
 all_goals first|with_reducible exact j2 h (GU hf _ _ _ _)|exact h
theorem RZ{s:Syst}{pid:Int}{c:Cal}(h:Ed s)(h6:c.num=6∨c.num=13):Ed (Ec s pid c).1:=by
 have ha:Ed (DT (F9 s pid c)).1.s:=by
  rcases h6 with h6|h6
  ·rw[DT,if_pos (show(F9 s pid c).c.num=6 from h6)];exact j1 h
  have h13:(F9 s pid c).c.num=13:=h6;rw[DT,if_neg (show¬(F9 s pid c).c.num=6 by omega),if_neg (show¬(F9 s pid c).c.num=8 by omega),if_neg (show¬((F9 s pid c).c.num=10∨(F9 s pid c).c.num=12) by omega),if_pos h13];exact j4 h
 unfold Ec
 repeat' split
 all_goals first|exact h|exact ha
theorem Oe:Ed (H8 1).1:=by
 have h:=Tx (k:=1) (by decide) (by decide)
 have e:(H8 1).1=⟨⟨(EY 1).1,[]⟩,R9 (0,1)⟩:=by
  unfold H8;rw[if_neg (by decide)]
 rw[e];exact⟨⟨h.1,h.2,rfl⟩,⟨by decide,by decide,by decide,by decide⟩⟩
def LF(a:UInt8):AE:=⟨#[47,a]⟩
def Ha(a:UInt8):Cal:=⟨6,6,420,0,0,[LF a],[]⟩
def Of:Cal:=⟨13,0,0,0,0,[LF 98,LF 97],[]⟩
def LG:Syst:=(H8 1).1
def KO:Syst:=(Ec LG 1 (Ha 97)).1
def J3:Syst:=(Ec KO 1 (Ha 98)).1
def LH:Syst:=(Ec J3 1 Of).1
def LJ:Res:=(Ec J3 1 Of).2
def J4:Wch:=(Em J3.spc 1 (LF 97)).1
def Mo:Wch:=(Fv LH.spc J4).1
set_option maxRecDepth 100000 in
theorem j5:(Em J3.spc 1 (LF 97)).2=0∧J4.file.2=2∧(Fv LH.spc J4).2=true∧Oc J4 LJ.gone LJ.changes=(Mo,true)∧Mo.file.2=3∧LJ.changes.length≤1000∧J4.name.size≤100∧(H8 1).2=0:=by decide+kernel
theorem Og:Ed KO:=RZ Oe (.inl rfl)
theorem LL:Ed J3:=RZ Og (.inl rfl)
theorem WB:Ed LH:=RZ LL (.inr rfl)
theorem j6(s:Spc)(k:Int)(p:AE):(Em s k p).1.name.size≤12:=by
 unfold Em
 repeat' split
 all_goals first|exact BJ 12|exact RQ _ _ _ _
def LM(x:Wch):List Value:=[.int .i64 x.kind, .int .i64 x.dir.1, .int .i64 x.dir.2, .string x.name, .int .i64 x.file.1, .int .i64 x.file.2]
set_option maxRecDepth 10000 in
set_option maxHeartbeats 1000000 in
theorem j7(op:BinOp)(x:Wch)(w:World)(h:op= .eql∨op= .neq):(binOp op 35 (.agg (LM x).toArray) (.agg (LM x).toArray)).run prog w= .ok (.bool (decide (op= .eql))) w:=by
 have u3:=Tryz.underlying3;have a3:=Tryz.isAgg3;have z3:=Tryz.sizeOf3;have u9:=Tryz.underlying9;have a9:=Tryz.isAgg9;have z9:=Tryz.sizeOf9;have u5:=Tryz.underlying33;have a5:=Tryz.isAgg33;have z5:=Tryz.sizeOf33;have hS:prog.underlying 35=some (.struct (prog.fieldsOf 35)):=by kernel_rfl
 have hp:prog.stoodInHeld 35=false:=by kernel_rfl
 have hSF:prog.underlying 33=some (.struct (prog.fieldsOf 33)):=by kernel_rfl
 have hpF:prog.stoodInHeld 33=false:=by kernel_rfl
 have eF:∀(d:Nat) (a b:Int) (w:World),(Op.equalIn (d+2) 33 (.agg #[.int .i64 a, .int .i64 b]) (.agg #[.int .i64 a, .int .i64 b])).run prog w= .ok true w:=by
  intro d a b w;rw[run_equalIn_agg w (d+1) 33 _ _ hSF hpF];simp only[Program.fieldsOf,Tryz.underlying33]
  go_simp
 have e:∀w,(Op.equalIn 10000 35 (.agg (LM x).toArray) (.agg (LM x).toArray)).run prog w= .ok true w:=by
  intro w;rw[show(10000:Nat)=9999+1 from rfl,run_equalIn_agg w 9999 35 _ _ hS hp];simp only[Program.fieldsOf,Tryz.underlying35,LM]
  go_simp
 rcases h with rfl|rfl
 ·rw[run_eql_struct,e];rfl
 rw[run_neq_struct,e];rfl
theorem WC(x:Wch):AllV (DO x) (LM x):=by repeat constructor
theorem j8{ev:Operand→Option AV}{h:AH}{R:AV→AH→Prop}{d:Option Tmp}{ty:TypeId}{pos:String}{af:Array Edge}{gd:Option (Nat×Bool)}{yT:TypeId}{x y:Operand}(z:Wch)(hx:ev x=some (.agg (DO z)))(hy:ev y=some (.agg (DO z)))(hR:R (.v (.bool true)) h):AStep prog ⟨d, .binOp .eql 35 x y yT,ty,pos,af,gd⟩ ev h R:=
 Er hx hy (WC z) (WC z) (fun w=>j7 .eql z w (.inl rfl)) (by kernel_rfl) hR
section
theorem Gi:AFn prog 11 [] (fun r=>r= .v (.bool true)):=by
 obtain⟨y1,y2,y3,y4,y5,y6,y7,y8⟩:=j5;have hnew:AFn prog 17 [.v (.int .i64 1)] (fun r=>r= .tup [.agg (Cs LG), .v (.int .i64 0)]):=(gH 1).mono fun r hr=>by rw[hr,OZ,y8];rfl
 have hr1:AFn prog 30 [.agg (Cs LG), .v (.int .i64 1), .agg (EQ (Ha 97))] (fun r=>r= .tup [.agg (Cs KO), .agg (FA (Ec LG 1 (Ha 97)).2)]):=RS _ _ _ Oe.1.v Oe.1.m Oe.2 (by decide) (by decide) (.inl rfl);have hr2:AFn prog 30 [.agg (Cs KO), .v (.int .i64 1), .agg (EQ (Ha 98))] (fun r=>r= .tup [.agg (Cs J3), .agg (FA (Ec KO 1 (Ha 98)).2)]):=RS _ _ _ Og.1.v Og.1.m Og.2 (by decide) (by decide) (.inl rfl);have hr3:AFn prog 30 [.agg (Cs J3), .v (.int .i64 1), .agg (EQ Of)] (fun r=>r= .tup [.agg (Cs LH), .agg (FA LJ)]):=RS _ _ _ LL.1.v LL.1.m LL.2 (by decide) (by decide) (.inr rfl);have hpl:AFn prog 20 [.agg (Ar J3.spc), .v (.int .i64 1), .v (.string (LF 97))] (fun r=>r= .tup [.agg (DO J4), .v (.int .i64 0)]):=(iO _ _ _ LL.1.v LL.1.m (by decide)).mono fun r hr=>by rw[hr,RV,y1];rfl
 have hfo:AFn prog 14 [.agg (Ar LH.spc), .agg (DO J4)] (fun r=>r= .tup [.agg (DO Mo), .v (.bool true)]):=(Vt _ _ (WB.1.v.b WB.1.m)).mono fun r hr=>by rw[hr,Od,y3];rfl
 have hch:AFn prog 31 [.agg (DO J4), .agg (FA LJ)] (fun r=>r= .tup [.agg (DO Mo), .v (.bool true)]):=(iR _ _ y6).mono fun r hr=>by rw[hr,y4];rfl
 obtain⟨W,hW⟩:∃W,W=J4:=⟨_,rfl⟩;obtain⟨U,hU⟩:∃U,U=Mo:=⟨_,rfl⟩;obtain⟨S0,hS0⟩:∃S,S=LG:=⟨_,rfl⟩;obtain⟨S1,hS1⟩:∃S,S=KO:=⟨_,rfl⟩;obtain⟨S2,hS2⟩:∃S,S=J3:=⟨_,rfl⟩;obtain⟨S3,hS3⟩:∃S,S=LH:=⟨_,rfl⟩;obtain⟨R1,hR1⟩:∃R,R=(Ec LG 1 (Ha 97)).2:=⟨_,rfl⟩;obtain⟨R2,hR2⟩:∃R,R=(Ec KO 1 (Ha 98)).2:=⟨_,rfl⟩;obtain⟨R3,hR3⟩:∃R,R=LJ:=⟨_,rfl⟩;rw[←hS0]at hnew;rw[←hR1,←hS1,←hS0]at hr1;rw[←hR2,←hS2,←hS1]at hr2;rw[←hR3,←hS3,←hS2]at hr3;rw[←hW,←hS2]at hpl;rw[←hU,←hW,←hS3]at hfo;rw[←hU,←hW,←hR3]at hch;rw[←hW]at y2;rw[←hU]at y5;clear hW hU hS0 hS1 hS2 hS3 hR1 hR2 hR3 y1 y3 y4 y6 y7 y8;refine enter Tryz.func11 rfl rfl rfl rfl rfl 0 rfl ?_;refine w_ (a_ (h:=e_ (w_ (?_))));refine A7 rfl (AK (hnew) ?_);rintro r rfl;refine m_ (h:=x_ (h:=x_ (h:=Af (h:=s_ (h:=a_ (h:=e_ (w_ (l_ (h:=Aa (h:=C2 (h:=?_)))))))))));refine A7 rfl (FJ (y:= .agg (EQ (Ha 97))) (DK ⟨rfl,rfl⟩) ?_);refine A7 rfl (AK (hr1) ?_);rintro r rfl;refine m_ (h:=x_ (h:=x_ (h:=s_ (h:=e_ (w_ (l_ (h:=Aa (h:=C2 (h:=?_)))))))));refine A7 rfl (FJ (y:= .agg (EQ (Ha 98))) (DK ⟨rfl,rfl⟩) ?_);refine A7 rfl (AK (hr2) ?_);rintro r rfl;refine m_ (h:=x_ (h:=x_ (h:=s_ (h:=e_ (w_ (f_ (h:=l_ (h:=?_))))))));refine A7 rfl (AK (hpl) ?_);rintro r rfl;refine m_ (h:=x_ (h:=x_ (h:=Af (h:=s_ (h:=a_ (h:=e_ (w_ (l_ (h:=C2 (h:=?_))))))))));refine A7 rfl (FJ (y:= .agg (EQ Of)) (DK ⟨rfl,rfl⟩) ?_);refine A7 rfl (AK (hr3) ?_);rintro r rfl;refine m_ (h:=x_ (h:=x_ (h:=Af (h:=Af (h:=s_ (h:=s_ (h:=e_ (w_ (f_ (h:=l_ (h:=l_ (h:=?_))))))))))));refine A7 rfl (AK (hfo) ?_);rintro r rfl;refine m_ (h:=x_ (h:=x_ (h:=Af (h:=s_ (h:=a_ (h:=e_ (w_ (l_ (h:=l_ (h:=?_))))))))));refine A7 rfl (AK (hch) ?_);rintro r rfl;refine m_ (h:=x_ (h:=x_ (h:=Af (h:=s_ (h:=a_ (h:=e_ (w_ (m_ (h:=Ac (h:=m_ (h:=?_)))))))))));refine As true rfl rfl (fun hb1=>?_) (fun hb1=>?_)
 ·have hc1:=bp hb1;refine f_ (h:=f_ (h:=l_ (h:=Ac (h:=AU (h:=m_ (h:=?_))))));refine As true rfl rfl (fun hb2=>?_) (fun hb2=>?_)
  ·have hc2:=bp hb2;refine m_ (h:=AU (h:=m_ (h:=?_)));refine As true rfl rfl (fun hb3=>?_) (fun hb3=>?_)
   ·have hc3:=bp hb3;refine m_ (h:=AU (h:=m_ (h:=?_)));refine As true rfl rfl (fun hb4=>?_) (fun hb4=>?_)
    ·have hc4:=bp hb4;refine l_ (h:=l_ (h:=?_));refine Aw (j8 U rfl rfl ?_);refine AU (h:=m_ (h:=?_));refine As true rfl rfl (fun hb5=>?_) (fun hb5=>?_)
     ·have hc5:=bp hb5;refine f_ (h:=f_ (h:=l_ (h:=Ac (h:=AU (h:=a_ (h:=e_ (A6 (?_))))))));refine AA ?_
      first|rfl|(exfalso;first|contradiction|omega)|exact vb (by simp[y5])
     have hc5:=bp hb5;refine A3 (h:=A3 (h:=A3 (h:=A3 (h:=Ah (h:=a_ (h:=e_ (A6 (?_))))))));refine AA ?_
     first|rfl|(exfalso;first|contradiction|omega)|exact vb (by simp[y5])
    have hc4:=bp hb4;refine A3 (h:=A3 (h:=A3 (h:=Ah (h:=m_ (h:=A3 (h:=A3 (h:=A3 (h:=A3 (h:=Ah (h:=a_ (h:=e_ (A6 (?_)))))))))))));refine AA ?_
    first|rfl|(exfalso;first|contradiction|omega)|exact vb (by simp[y5])
   have hc3:=bp hb3;refine A3 (h:=Ah (h:=m_ (h:=A3 (h:=A3 (h:=A3 (h:=Ah (h:=m_ (h:=A3 (h:=A3 (h:=A3 (h:=A3 (h:=Ah (h:=a_ (h:=e_ (A6 (?_))))))))))))))));refine AA ?_
   first|rfl|(exfalso;first|contradiction|omega)|exact vb (by simp[y5])
  have hc2:=bp hb2;refine A3 (h:=Ah (h:=m_ (h:=A3 (h:=Ah (h:=m_ (h:=A3 (h:=A3 (h:=A3 (h:=Ah (h:=m_ (h:=A3 (h:=A3 (h:=A3 (h:=A3 (h:=Ah (h:=a_ (h:=e_ (A6 (?_)))))))))))))))))));refine AA ?_
  first|rfl|(exfalso;first|contradiction|omega)|exact vb (by simp[y5])
 have hc1:=bp hb1;refine A3 (h:=A3 (h:=A3 (h:=A3 (h:=Ah (h:=m_ (h:=A3 (h:=Ah (h:=m_ (h:=A3 (h:=Ah (h:=m_ (h:=A3 (h:=A3 (h:=A3 (h:=Ah (h:=m_ (h:=A3 (h:=A3 (h:=A3 (h:=A3 (h:=Ah (h:=a_ (h:=e_ (?_))))))))))))))))))))))));refine A6 (?_);refine AA ?_
 first|rfl|(exfalso;first|contradiction|omega)|exact vb (by simp[y5])
theorem j9(l:List Int)(a:Nat)(s:Spc)(ha:a≤100000000)(hv:SpcV s)(hm:s.mounts.length≤1000):FF prog 7 l a [.agg (Ar s)] 60 (fun r=>∃(w:Wch) (b:Bool),r=Od (w,b)∧w.name.size≤100∧(b=true→∃k p,Em s k p=(w,0))∧(b=false→w=FB)):=by
 refine enter Tryz.func7 rfl rfl rfl rfl rfl 1 rfl ?_;refine w_ (b_ (h:=Af (h:=a_ (h:=e_ (q_ (w_ (a_ (h:=e_ (Ao (?_))))))))));refine Bm (fun n S=>∃(j b:Nat),j≤6∧n=6 - j∧b≤a+10 * j∧S=⟨look [(0, .bp 0 0),(3, .bp 1 0),(4, .bp 2 0),(6, .v (.int .i64 (j:Int)))],⟨[ES l b,Ar s,Ge],[]⟩⟩) (6) ((wk 3 0)) (⟨0,a,by omega,rfl,by omega,rfl⟩) ?_;rintro n S ⟨j,b0,hj,rfl,hb0,rfl⟩;refine q_ (w_ (m_ (h:=BO (h:=e_ (?_)))));refine A8 rfl (fun hb1=>?_) (fun hb1=>?_)
 ·have hc1:=bp hb1;refine AN (q_ (Ao (w_ (m_ (h:=?_)))));refine A7 rfl (Bf 0 (hc:=iX l _ (by omega)) (hR:=?_));rintro r a1 ha1 ⟨p,rfl,hp⟩;refine⟨rfl,_,(by repeat constructor),?_⟩;refine a_ (h:=e_ (?_));refine BY (fun S=>∃(q:AE) (b:Nat),q.size≤60∧b≤a+10 * j+5∧S=⟨look [(0, .bp 0 0),(3, .bp 1 0),(4, .bp 2 0),(6, .v (.int .i64 (j:Int))),(7, .v (.string q))],⟨[ES l b,Ar s,Ge],[]⟩⟩) ?_ ?_
  ·skip
   refine w_ (m_ (h:=?_));refine A7 rfl (Bf 0 (hc:=Gn l _ (8) (by omega) (by omega)) (hR:=?_));rintro r a2 ha2 ⟨k2,rfl,p2,q2,o2⟩;refine⟨rfl,_,(by repeat constructor),?_⟩;refine Ac (h:=e_ (?_));refine A8 rfl (fun hb2=>?_) (fun hb2=>?_)
   ·have hc2:=bp hb2;refine AX (a_ (h:=AW (?_)));refine AJ ?_
    first|(have h7:k2=7:=‹k2=7›;exact⟨_,⟨⟨#[47]⟩,_,(by decide),(by omega),rfl⟩,B7 3 0 rfl rfl rfl rfl ((by repeat (first|exact Sub.nil|refine B9 rfl rfl ?_|refine BC ?_|refine BD rfl ?_|refine BE rfl ?_)))⟩)|exact⟨_,⟨p,_,hp,(by omega),rfl⟩,B7 3 0 rfl rfl rfl rfl ((by repeat (first|exact Sub.nil|refine B9 rfl rfl ?_|refine BC ?_|refine BD rfl ?_|refine BE rfl ?_)))⟩
   have hc2:=bp hb2;refine BA (?_);refine AJ ?_
   first|(have h7:k2=7:=‹k2=7›;exact⟨_,⟨⟨#[47]⟩,_,(by decide),(by omega),rfl⟩,B7 3 0 rfl rfl rfl rfl ((by repeat (first|exact Sub.nil|refine B9 rfl rfl ?_|refine BC ?_|refine BD rfl ?_|refine BE rfl ?_)))⟩)|exact⟨_,⟨p,_,hp,(by omega),rfl⟩,B7 3 0 rfl rfl rfl rfl ((by repeat (first|exact Sub.nil|refine B9 rfl rfl ?_|refine BC ?_|refine BD rfl ?_|refine BE rfl ?_)))⟩
  rintro S ⟨q,b,hq,hb,rfl⟩;refine BY (fun S=>∃(k:Int) (b:Nat),b≤a+10 * (j+1)∧S=⟨look [(0, .bp 0 0),(3, .bp 1 0),(4, .bp 2 0),(6, .v (.int .i64 (j:Int))),(8, .bp 3 0),(9, .v (.int .i64 (Em s k q).2))],⟨[ES l b,Ar s,Ge,DO (Em s k q).1],[]⟩⟩) ?_ ?_
  ·skip
   refine Bi ([(1,Ar s)]) 11 (h:=?_)
   first|refine AF 0 (h:=?_)|refine B4 0 rfl (fun _ hS=>Cp (row:=Ar s) rfl (kb hS rfl) (B6 rfl) rfl ⟨rfl,rfl⟩) ?_
   refine AP 1 (h:=AP 3 (h:=?_));refine Es 2 8 rfl rfl ?_ ?_
   ·refine Bf 0 (hc:=H4 l _ (1) (2) (by omega) (by omega) (by omega) (by omega)) (hR:=?_);rintro r a3 ha3 ⟨k3,rfl,p3,q3⟩;refine⟨rfl,_,(by repeat constructor),?_⟩;refine o_ (h:=?_);refine Es 4 8 rfl rfl ?_ ?_
    ·refine AK (RY s _ q hv hm (by omega)) ?_;rintro r rfl;refine o_ (h:=?_);refine AP 5 (h:=BK 6 (h:=BK 7 (h:=?_)));refine c_ 8 rfl (CW (by repeat constructor) ?_);refine o_ (h:=?_);refine B8 9 rfl (B3 rfl rfl rfl rfl rfl rfl (by repeat constructor) (by repeat constructor) ?_);refine o_ (h:=BN 10 (h:=z_ (h:=?_)));refine AJ ?_;exact⟨_,⟨_,_,(by omega),rfl⟩,B7 4 0 rfl rfl rfl rfl ((by repeat (first|exact Sub.nil|refine B9 rfl rfl ?_|refine BC ?_|refine BD rfl ?_|refine BE rfl ?_)))⟩
    refine CW (by repeat constructor) ?_;refine o_ (h:=?_);refine c_ 4 rfl (AK (RY s _ q hv hm (by omega)) ?_);rintro r rfl;refine o_ (h:=AP 5 (h:=BK 6 (h:=BK 7 (h:=?_))));refine B8 9 rfl (B3 rfl rfl rfl rfl rfl rfl (by repeat constructor) (by repeat constructor) ?_);refine o_ (h:=BN 10 (h:=z_ (h:=?_)));refine AJ ?_;exact⟨_,⟨_,_,(by omega),rfl⟩,B7 4 0 rfl rfl rfl rfl ((by repeat (first|exact Sub.nil|refine B9 rfl rfl ?_|refine BC ?_|refine BD rfl ?_|refine BE rfl ?_)))⟩
   refine CW (by repeat constructor) ?_;refine o_ (h:=?_);refine c_ 2 rfl (Bf 0 (hc:=H4 l _ (1) (2) (by omega) (by omega) (by omega) (by omega)) (hR:=?_));rintro r a4 ha4 ⟨k4,rfl,p4,q4⟩;refine⟨rfl,_,(by repeat constructor),?_⟩;refine o_ (h:=?_);refine c_ 4 rfl (AK (RY s _ q hv hm (by omega)) ?_);rintro r rfl;refine o_ (h:=AP 5 (h:=BK 6 (h:=BK 7 (h:=?_))));refine B8 9 rfl (B3 rfl rfl rfl rfl rfl rfl (by repeat constructor) (by repeat constructor) ?_);refine o_ (h:=BN 10 (h:=z_ (h:=?_)));refine AJ ?_;exact⟨_,⟨_,_,(by omega),rfl⟩,B7 4 0 rfl rfl rfl rfl ((by repeat (first|exact Sub.nil|refine B9 rfl rfl ?_|refine BC ?_|refine BD rfl ?_|refine BE rfl ?_)))⟩
  rintro S ⟨kk,b1,hb1,rfl⟩;refine w_ (m_ (h:=Ac (h:=e_ (?_))));refine A8 rfl (fun hb3=>?_) (fun hb3=>?_)
  ·have hc3:=bp hb3;have h0:(Em s kk q).2=0:=hc3;refine w_ (l_ (h:=s_ (h:=a_ (h:=e_ (A6 (AR (A4 (A4 (AR (A4 (?_)))))))))));refine B0 none (h5:=(AM _)) (h6:=⟨_,rfl,rfl,b1,by omega,rfl,(Em s kk q).1,true,rfl,Nat.le_trans (j6 s kk q) (by decide),fun _=>⟨kk,q,Prod.ext rfl h0⟩,fun h=>(by cases h)⟩)
  have hc3:=bp hb3;refine BA (Au (t_ (AX (m_ (h:=B2 (h:=a_ (h:=AW (?_))))))));refine AJ ?_;refine⟨_,_,?_,⟨j+1,_,by omega,rfl,?_,rfl⟩,B7 3 0 rfl rfl rfl rfl ((by repeat (first|exact Sub.nil|refine B9 rfl rfl ?_|refine BC ?_|refine BD rfl ?_|refine BE rfl ?_)))⟩<;>omega
 have hc1:=bp hb1;refine BU (Am (Am (BV (t_ (w_ (Aa (h:=s_ (h:=a_ (h:=e_ (A6 (?_)))))))))));refine B0 none (h5:=(AM _)) (h6:=⟨_,rfl,rfl,b0,by omega,rfl,FB,false,rfl,BJ _,fun h=>(by cases h),fun _=>rfl⟩)
end
theorem jA{s:Spc}{w:Wch}(hv:SpcV s)(h:∃k p,Em s k p=(w,0)):KL s w=true:=by
 obtain⟨k,p,e⟩:=h;have:=iL hv (k:=k) (p:=p) (by rw[e]);rw[e]at this;exact this
def Hb(x:A9):Itm:=⟨⟨#[]⟩,⟨#[]⟩,(0,0),⟨#[]⟩,x,1,0,0,0,0,2⟩
section
theorem jB(l:List Int):AFn prog 3 [.sl 1 (l.map CB) none] (fun r=>r= .v (.bool true)):=by
 refine enter Tryz.func3 rfl rfl rfl rfl rfl 0 rfl ?_;refine w_ (a_ (h:=e_ (w_ (m_ (h:=?_)))));refine A7 rfl (Wu rfl (by repeat (first|exact Args.nil|refine Args.cons _ _ _ _ _ rfl (Lc rfl) ?_|refine Args.cons _ _ _ _ _ rfl (NG _) ?_|refine Args.cons _ _ _ _ _ rfl (La _) ?_|refine Args.cons _ _ _ _ _ rfl (NQ rfl (by repeat (first|exact AM _|exact LeA.nil _|exact LeL.refl _|refine LeA.agg ?_|refine LeA.tup ?_|exact LeL.nil|refine LeL.cons ?_ ?_|exact LeA.any _))) ?_)) rfl (ZK l) (by repeat constructor) ?_)
 skip
 refine a_ (h:=e_ (w_ (m_ (h:=?_))));refine A7 rfl (Bf 0 (hc:=ZQ l _ (by omega)) (hR:=?_));rintro r a1 ha1 ⟨s,rfl,hs,hm⟩;refine⟨rfl,_,(by repeat constructor),?_⟩;have hsb:=hs.b (show s.mounts.length≤1000 by omega);refine Af (h:=s_ (h:=e_ (w_ (m_ (h:=l_ (h:=?_))))));refine A7 rfl (Bf 0 (hc:=j9 l _ s (by omega) hs (by omega)) (hR:=?_));rintro r a2 ha2 ⟨w,wb,rfl,hwn,hw1,hw2⟩;refine⟨rfl,_,(by repeat constructor),?_⟩;refine m_ (h:=x_ (h:=x_ (h:=Af (h:=s_ (h:=a_ (h:=e_ (w_ (m_ (h:=f_ (h:=l_ (h:=?_)))))))))));refine A7 rfl (Bf 0 (hc:=KC l _ s.files (by omega) hsb.files hs.files.ne) (hR:=?_));rintro r a3 ha3 ⟨x,rfl⟩;refine⟨rfl,_,(by repeat constructor),?_⟩;refine m_ (h:=?_);refine A7 rfl (Bf 0 (hc:=MU l _ (by omega)) (hR:=?_));rintro r a4 ha4 ⟨k,rfl,hk⟩;refine⟨rfl,_,(by repeat constructor),?_⟩;refine Af (h:=s_ (h:=a_ (h:=e_ (w_ (f_ (h:=l_ (h:=l_ (h:=m_ (h:=?_)))))))));refine A7 rfl (AK (GO s.files x k hsb.files) ?_);rintro r rfl;refine m_ (h:=x_ (h:=x_ (h:=Af (h:=s_ (h:=a_ (h:=e_ (q_ (w_ (m_ (h:=BZ (h:=m_ (h:=?_))))))))))));refine As false rfl rfl (fun hb1=>?_) (fun hb1=>?_)
 ·have hc1:=bp hb1;refine A3 (h:=A3 (h:=A3 (h:=AU (h:=m_ (h:=A3 (h:=A3 (h:=A3 (h:=AU (h:=m_ (h:=A3 (h:=A3 (h:=AU (h:=e_ (BQ (h:=w_ (?_))))))))))))))));refine A7 rfl (AK (Gi) ?_);rintro r rfl;refine a_ (h:=e_ (A6 (A4 (?_))));refine AA ?_
  first|rfl|(exfalso;first|contradiction|omega|(simp_all;done))
 have hc1:=bp hb1;have hcur:KL s w=true:=jA hs (hw1 (by simpa using hc1));refine f_ (h:=l_ (h:=BX (h:=Ah (h:=m_ (h:=?_)))));refine As false rfl rfl (fun hb2=>?_) (fun hb2=>?_)
 ·have hc2:=bp hb2;refine A3 (h:=A3 (h:=A3 (h:=AU (h:=m_ (h:=A3 (h:=A3 (h:=AU (h:=e_ (BQ (h:=w_ (?_)))))))))));refine A7 rfl (AK (Gi) ?_);rintro r rfl;refine a_ (h:=e_ (A6 (A4 (?_))));refine AA ?_
  first|rfl|(exfalso;first|contradiction|omega|(simp_all;done))
 have hc2:=bp hb2;have hk1:w.kind=1:=by simpa using hc2
 refine f_ (h:=l_ (h:=Ac (h:=Ah (h:=m_ (h:=?_)))));refine As false rfl rfl (fun hb3=>?_) (fun hb3=>?_)
 ·have hc3:=bp hb3;refine A3 (h:=A3 (h:=AU (h:=e_ (BQ (h:=w_ (?_))))));refine A7 rfl (AK (Gi) ?_);rintro r rfl;refine a_ (h:=e_ (A6 (A4 (?_))));refine AA ?_
  first|rfl|(exfalso;first|contradiction|omega|(simp_all;done))
 have hc3:=bp hb3;refine m_ (h:=BX (h:=Ah (h:=e_ (?_))));refine A8 rfl (fun hb4=>?_) (fun hb4=>?_)
 ·have hc4:=bp hb4;refine w_ (?_);refine A7 rfl (AK (Gi) ?_);rintro r rfl;refine a_ (h:=e_ (A6 (A4 (?_))));refine AA ?_
  first|rfl|(exfalso;first|contradiction|omega|(simp_all;done))
 have hc4:=bp hb4;refine AN (w_ (f_ (h:=l_ (h:=l_ (h:=m_ (h:=f_ (h:=l_ (h:=f_ (h:=l_ (h:=?_))))))))));refine A7 rfl (AK (QM s.files x k w.dir w.name hs.files (by omega) (by omega)) ?_);rintro r rfl;generalize hR:CG s.files x k w.dir w.name=R;refine m_ (h:=x_ (h:=x_ (h:=x_ (h:=Af (h:=s_ (h:=a_ (h:=a_ (h:=e_ (q_ (w_ (m_ (h:=BX (h:=m_ (h:=?_))))))))))))));refine As false rfl rfl (fun hb5=>?_) (fun hb5=>?_)
 ·have hc5:=bp hb5;refine A3 (h:=A3 (h:=A3 (h:=AU (h:=e_ (BQ (h:=w_ (?_)))))));refine A7 rfl (AK (Gi) ?_);rintro r rfl;refine a_ (h:=e_ (A6 (A4 (?_))));refine AA ?_
  first|rfl|(exfalso;first|contradiction|omega|(simp_all;done))
 have hc5:=bp hb5;have h0:R.2.2=0:=by simpa using hc5
 obtain⟨hvy,hly⟩:=GU hs.files x k w.dir w.name (by rw[hR];exact h0);rw[hR]at hvy hly;have hpy:0<R.1.length:=by rw[hly];exact hs.pos
 have hyb:SpcB ⟨R.1,s.mounts⟩:=⟨hvy.b,hsb.few⟩;refine m_ (h:=n_ (h:=Ac (h:=Ah (h:=e_ (?_)))));refine A8 rfl (fun hb6=>?_) (fun hb6=>?_)
 ·have hc6:=bp hb6;refine w_ (?_);refine A7 rfl (AK (Gi) ?_);rintro r rfl;refine a_ (h:=e_ (A6 (A4 (?_))));refine AA ?_
  first|rfl|(exfalso;first|contradiction|omega|(simp_all;done))
 have hc6:=bp hb6
 have hne:0<R.2.1.length:=by
  rcases Nat.eq_zero_or_pos R.2.1.length with h|h
  ·rw[List.length_map,h]at hc6;exact absurd rfl hc6
  exact h
 have hL:=iW hs hcur hk1 (src:=x) (name:=k) (by rw[hR];exact h0) (by rw[hR];exact hne);dsimp only at hL;rw[hR]at hL;obtain⟨hl1,hl2⟩:=hL;refine AN (w_ (l_ (h:=f_ (h:=l_ (h:=?_)))));refine A7 rfl (FJ (y:= .agg (Ar ⟨R.1,s.mounts⟩)) (DK ⟨rfl,rfl⟩) ?_);refine Af (h:=s_ (h:=e_ (q_ (w_ (l_ (h:=?_))))));refine A7 rfl (AK (dZ hyb hvy hpy) ?_);rintro r rfl;refine BZ (h:=e_ (?_));refine A8 rfl (fun hb7=>?_) (fun hb7=>?_)
 ·have hc7:=bp hb7;refine w_ (?_);refine A7 rfl (AK (Gi) ?_);rintro r rfl;refine a_ (h:=e_ (A6 (A4 (?_))));refine AA ?_
  first|rfl|(exfalso;first|contradiction|omega|(simp_all;done))
 have hc7:=bp hb7;refine AN (w_ (l_ (h:=l_ (h:=?_))));refine A7 rfl (AK (Vt ⟨R.1,s.mounts⟩ w hyb) ?_);rintro r rfl;generalize Fv ⟨R.1,s.mounts⟩ w=F at hl1 hl2 ⊢;refine m_ (h:=x_ (h:=x_ (h:=Af (h:=s_ (h:=a_ (h:=e_ (q_ (w_ (m_ (h:=BZ (h:=e_ (?_))))))))))));refine A8 rfl (fun hb8=>?_) (fun hb8=>?_)
 ·have hc8:=bp hb8;refine w_ (l_ (h:=f_ (h:=l_ (h:=?_))));refine A7 rfl (AK (Fi R.1 w.dir hyb.files) ?_);rintro r rfl;rw[hl1 (by assumption)];refine BZ (h:=m_ (h:=?_));refine As true rfl rfl (fun hb9=>?_) (fun hb9=>?_)
  ·have hc9:=bp hb9;refine Aw (AK (Gi) ?_);rintro r rfl;refine AU (h:=a_ (h:=e_ (A6 (A4 (?_)))));refine AA ?_
   first|rfl|(exfalso;first|contradiction|omega|(simp_all;done))
  have hc9:=bp hb9;refine A3 (h:=Ah (h:=a_ (h:=e_ (A6 (A4 (?_))))));refine AA ?_
  first|rfl|(exfalso;first|contradiction|omega|(simp_all;done))
 have hc8:=bp hb8;refine AN (w_ (f_ (h:=l_ (h:=?_))));refine A7 rfl (FJ (y:= .agg (CE (Hb w.file))) (DK ⟨rfl,rfl⟩) ?_);refine Af (h:=s_ (h:=e_ (w_ (l_ (h:=?_)))));refine A7 rfl (FJ (y:= .agg (CE (Hb (AD s.files x k).1))) (DK ⟨rfl,rfl⟩) ?_);refine Af (h:=s_ (h:=e_ (w_ (l_ (h:=l_ (h:=l_ (h:=?_)))))));refine A7 rfl (AK (Vv ⟨R.1,s.mounts⟩ F.1 (Hb (AD s.files x k).1) hyb) ?_);rintro r rfl;obtain⟨hl3,hl4⟩:=hl2 (by assumption);rw[show D2 ⟨R.1,s.mounts⟩ F.1 (Hb (AD s.files x k).1).dir (Hb (AD s.files x k).1).name (Hb (AD s.files x k).1).file=true from hl3];refine m_ (h:=?_);refine As true rfl rfl (fun hb10=>?_) (fun hb10=>?_)
 ·have hc10:=bp hb10;refine f_ (h:=l_ (h:=l_ (h:=?_)));refine Aw (Er rfl rfl (by repeat constructor) (by repeat constructor) (fun W=>KM w.file (AD s.files x k).1 W) (by kernel_rfl) ?_);refine m_ (h:=?_);refine As false rfl rfl (fun hb11=>?_) (fun hb11=>?_)
  ·have hc11:=bp hb11;refine A3 (h:=A3 (h:=A3 (h:=A3 (h:=AU (h:=m_ (h:=A3 (h:=A3 (h:=A3 (h:=A3 (h:=A3 (h:=AU (h:=AU (h:=m_ (h:=?_))))))))))))));refine Aw (AK (Gi) ?_);rintro r rfl;refine AU (h:=a_ (h:=e_ (A6 (?_))));refine AA ?_
   first|rfl|(exfalso;first|contradiction|omega|(simp_all;done))
  have hc11:=bp hb11;refine f_ (h:=l_ (h:=Aa (h:=?_)));refine Aw (Er rfl rfl (by repeat constructor) (by repeat constructor) (fun W=>KM w.file (0,0) W) (by kernel_rfl) ?_);refine Ah (h:=m_ (h:=?_));refine As false rfl rfl (fun hb12=>?_) (fun hb12=>?_)
  ·have hc12:=bp hb12;refine A3 (h:=A3 (h:=A3 (h:=A3 (h:=A3 (h:=AU (h:=AU (h:=m_ (h:=?_))))))));refine Aw (AK (Gi) ?_);rintro r rfl;refine AU (h:=a_ (h:=e_ (A6 (?_))));refine AA ?_
   first|rfl|(exfalso;first|contradiction|omega|(simp_all;done))
  have hc12:=bp hb12;refine l_ (h:=l_ (h:=l_ (h:=?_)));refine Aw (AK (Vv ⟨R.1,s.mounts⟩ F.1 (Hb w.file) hyb) ?_);rintro r rfl;rw[show D2 ⟨R.1,s.mounts⟩ F.1 (Hb w.file).dir (Hb w.file).name (Hb w.file).file=false from(hl4.resolve_left (by first|assumption|simp_all)).resolve_left (by first|assumption|simp_all)];refine BZ (h:=Ah (h:=AU (h:=m_ (h:=?_))));refine As true rfl rfl (fun hb13=>?_) (fun hb13=>?_)
  ·have hc13:=bp hb13;refine Aw (AK (Gi) ?_);rintro r rfl;refine AU (h:=a_ (h:=e_ (A6 (?_))));refine AA ?_
   first|rfl|(exfalso;first|contradiction|omega|(simp_all;done))
  have hc13:=bp hb13;refine A3 (h:=Ah (h:=a_ (h:=e_ (A6 (?_)))));refine AA ?_
  first|rfl|(exfalso;first|contradiction|omega|(simp_all;done))
 have hc10:=bp hb10;refine A3 (h:=A3 (h:=A3 (h:=A3 (h:=A3 (h:=EV (h:=EV (h:=EV (h:=EV (h:=A3 (h:=A3 (h:=EV (h:=EV (h:=EV (h:=EV (h:=EV (h:=A3 (h:=Ah (h:=m_ (h:=A3 (h:=Ah (h:=a_ (h:=e_ (A6 (?_))))))))))))))))))))))));refine AA ?_
 first|rfl|(exfalso;first|contradiction|omega|(simp_all;done))
end
theorem WatchReplaced_walk{H:Type}{enc:TypeId×Value→H}{sp:Nat→Bool}{held:Bool}{base:Nat}(a:Option Addr)(n c:Nat)(w:World){d:DataW H}{p:List MemPlace}(h:DataW.Trod enc prog w base sp held 22 (.slice a n c) d p):
    Calls prog 3 #[.slice a n c] w fun e w'=>e= .returned (.bool true)∧Below w.heap.size w w':=aD jB a n c w h
end Go.Proofs.YtobclmbkdhbnpaaGreatDoor
