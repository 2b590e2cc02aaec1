/-
  Part 16 of the proof of FilterLoadsP: what the statement's proof uses of the texts in wip/tpl.
-/
import Derived.Test.YtbgnigjfkbmceaaGreatDoorQd15
open Go.Proofs.Tryz (prog)
set_option maxRecDepth 10000
set_option maxHeartbeats 4000000
set_option linter.unusedVariables false
set_option linter.unusedSimpArgs false
namespace Go.Proofs.YtbgnigjfkbmceaaGreatDoor
open Go.RowKit
set_option maxRecDepth 10000 in
set_option maxHeartbeats 2000000 in
theorem dJ(op:BinOp)(x y:Wch)(w:World)(h:op= .eql∨op= .neq):(binOp op 93 (.agg (KE x).toArray) (.agg (KE y).toArray)).run prog w= .ok (.bool (decide (x=y)==decide (op= .eql))) w:=by
 have u3:=Tryz.underlying3;have a3:=Tryz.isAgg3;have z3:=Tryz.sizeOf3;have u9:=Tryz.underlying9;have a9:=Tryz.isAgg9;have z9:=Tryz.sizeOf9;have u5:=Tryz.underlying26;have a5:=Tryz.isAgg26;have z5:=Tryz.sizeOf26;have hS:prog.underlying 93=some (.struct (prog.fieldsOf 93)):=by kernel_rfl
 have hp:prog.stoodInHeld 93=false:=by kernel_rfl
 have hSF:prog.underlying 26=some (.struct (prog.fieldsOf 26)):=by kernel_rfl
 have hpF:prog.stoodInHeld 26=false:=by kernel_rfl
 have eF:∀(d:Nat) (a b a' b':Int) (w:World),(Op.equalIn (d+2) 26 (.agg #[.int .i64 a, .int .i64 b]) (.agg #[.int .i64 a', .int .i64 b'])).run prog w= .ok (a==a'&&b==b') w:=by
  intro d a b a' b' w;rw[run_equalIn_agg w (d+1) 26 _ _ hSF hpF];simp only[Program.fieldsOf,Tryz.underlying26]
  go_simp
  by_cases h1:a=a'<;>by_cases h2:b=b'<;>simp[h1,h2]
 obtain⟨k,⟨d1,d2⟩,n,⟨f1,f2⟩⟩:=x;obtain⟨k',⟨d1',d2'⟩,n',⟨f1',f2'⟩⟩:=y
 have hn:¬n=n'→¬n.toList=n'.toList:=fun h e=>by
  have:=UD n n';rw[e]at this;simp[h]at this
 have e:∀w,(Op.equalIn 10000 93 (.agg (KE ⟨k,(d1,d2),n,(f1,f2)⟩).toArray) (.agg (KE ⟨k',(d1',d2'),n',(f1',f2')⟩).toArray)).run prog w= .ok (decide (Wch.mk k (d1,d2) n (f1,f2)=Wch.mk k' (d1',d2') n' (f1',f2'))) w:=by
  intro w;rw[show(10000:Nat)=9999+1 from rfl,run_equalIn_agg w 9999 93 _ _ hS hp];simp only[Program.fieldsOf,Tryz.underlying93,KE]
  go_simp
  by_cases h1:k=k'<;>by_cases h2:d1=d1'<;>by_cases h3:d2=d2'<;>by_cases h4:n=n'<;>by_cases h5:f1=f1'<;>by_cases h6:f2=f2'<;>first|(simp[h1,h2,h3,h4,h5,h6];done)|(simp[h1,h2,h3,h4,h5,h6];exact hn h4)
 rcases h with rfl|rfl
 ·rw[run_eql_struct,e];simp
 rw[run_neq_struct,e];simp
theorem US{ev:Operand→Option AV}{h:AH}{R:AV→AH→Prop}{d:Option Tmp}{ty:TypeId}{pos:String}{af:Array Edge}{gd:Option (Nat×Bool)}{yT:TypeId}{x y:Operand}(a b:Wch)(hx:ev x=some (.agg (CG a)))(hy:ev y=some (.agg (CG b)))(hR:R (.v (.bool (!decide (a=b)))) h):AStep prog ⟨d, .binOp .neq 93 x y yT,ty,pos,af,gd⟩ ev h R:=
 Ea hx hy (UR a) (UR b) (fun w=>(dJ .neq a b w (.inr rfl)).trans (by simp)) (by kernel_rfl) hR
theorem UT{s:Spc}{p:Pol}{j:Nat}{r:Rul}{w:Wch}(hr:p.rules[j]?=some r)(hw:p.wats[j]?=some w)(ha:∀i r w,i<j→p.rules[i]?=some r→p.wats[i]?=some w→EK s r w=true)(h:EK s r w=true):∀i r w,i<j+1→p.rules[i]?=some r→p.wats[i]?=some w→EK s r w=true:=by
 intro i r' w' hi h1 h2;rcases Nat.lt_or_ge i j with c|c
 ·exact ha i r' w' c h1 h2
 obtain rfl:i=j:=by omega
 rw[hr]at h1;rw[hw]at h2;cases h1;cases h2;exact h
theorem dL{s:Spc}{p:Pol}(h:CH p.rules≠0):Fp s p=false:=by simp[Fp,h]
theorem dM{s:Spc}{p:Pol}(h:p.wats.length≠p.rules.length):Fp s p=false:=by simp[Fp,h]
theorem Q6{s:Spc}{p:Pol}{j:Nat}{r:Rul}{w:Wch}(hr:p.rules[j]?=some r)(hw:p.wats[j]?=some w)(h:EK s r w=false):Fp s p=false:=by
 have:((p.rules.zip p.wats).all fun x=>EK s x.1 x.2)=false:=by
  rw[List.all_eq_false];refine⟨(r,w),Ar (i:=j) ?_,by simp[h]⟩;rw[List.getElem?_zip_eq_some];exact⟨hr,hw⟩
 simp[Fp,this]
theorem UU{s:Spc}{p:Pol}(h1:CH p.rules=0)(h2:p.wats.length=p.rules.length)(ha:∀i r w,i<p.rules.length→p.rules[i]?=some r→p.wats[i]?=some w→EK s r w=true):Fp s p=true:=by
 have:((p.rules.zip p.wats).all fun x=>EK s x.1 x.2)=true:=by
  rw[List.all_eq_true];rintro⟨r,w⟩ hx;obtain⟨i,hi⟩:=List.getElem?_of_mem hx;rw[List.getElem?_zip_eq_some]at hi;exact ha i r w (Ah.1 hi.1).1 hi.1 hi.2
 simp[Fp,h1,h2,this]
section
variable (s:Spc)(p:Pol)(hs:SpcB s)(h1:p.rules.length≤1000)(h2:p.wats.length≤1000)(hi:∀r∈p.rules,Cb r)(hn:∀w∈p.wats,w.name.size≤100000)
include hs h1 hi
theorem dO:AFn prog 44 [.agg (Cf p), .agg (Aj s)] (fun r=>r= .v (.bool (Fp s p))):=by
 refine enter Tryz.func44 rfl rfl rfl rfl rfl 0 rfl ?_;refine w_ (b_ (h:=b_ (h:=a_ (h:=e_ (q_ (w_ (f_ (h:=l_ (h:=?_)))))))));refine A6 rfl (AJ (UH p.rules h1 hi) ?_);rintro r rfl;refine Ao (h:=m_ (h:=?_));refine AR false rfl rfl (fun hb1=>?_) (fun hb1=>?_)
 ·have hc1:=bp hb1;have k1:CH p.rules≠0:=by simpa using hc1
  refine A3 (h:=A3 (h:=A3 (h:=A3 (h:=A3 (h:=A3 (h:=A3 (h:=AB (h:=e_ (B2 (h:=w_ (a_ (h:=e_ (A4 (A7 (?_)))))))))))))));refine A8 ?_
  first|(exfalso;first|contradiction|omega)|(exact vb (by exact(dL k1).symm))
 have hc1:=bp hb1;have k1:CH p.rules=0:=by simpa using hc1
 refine f_ (h:=l_ (h:=n_ (h:=f_ (h:=l_ (h:=n_ (h:=Ao (h:=AF (h:=e_ (?_)))))))));refine A9 rfl (fun hb2=>?_) (fun hb2=>?_)
 ·have hc2:=bp hb2;have k2:p.wats.length≠p.rules.length:=by simp at hc2;omega
  refine w_ (a_ (h:=e_ (A4 (A7 (?_)))));refine A8 ?_
  first|(exfalso;first|contradiction|omega)|(exact vb (by exact(dM k2).symm))
 have hc2:=bp hb2;have hlen:p.wats.length=p.rules.length:=by simp at hc2;omega
 refine AE (q_ (w_ (f_ (h:=l_ (h:=n_ (h:=m_ (h:=e_ (Af (?_)))))))));refine BW (fun n S=>∃j:Nat,j≤p.rules.length∧n=p.rules.length - j∧(∀i r w,i<j→p.rules[i]?=some r→p.wats[i]?=some w→EK s r w=true)∧S=⟨look [(2, .bp 0 0),(3, .bp 1 0),(22, .sl 8 (p.rules.map Aa) none),(23, .v (.int .i64 ((p.rules.map Aa).length:Int))),(24, .v (.int .i64 (j:Int)))],⟨[Cf p,Aj s],[]⟩⟩) (p.rules.length) ((wk 2 0)) (⟨0,BU _,rfl,fun i _ _ h=>absurd h (Nat.not_lt_zero i),rfl⟩) ?_;rintro n S ⟨j,hj,rfl,ha,rfl⟩;refine w_ (B1 (h:=e_ (q_ (?_))));refine A9 rfl (fun hb3=>?_) (fun hb3=>?_)
 ·have hc3:=bp hb3;obtain⟨hlt,r,hy,hrow, -⟩:=Bv Aa hc3;obtain⟨w,hyw⟩:∃w,p.wats[j]?=some w:=⟨_,BR (by omega)⟩;have hroww:(p.wats.map CG)[j]?=some (CG w):=by rw[List.getElem?_map,hyw];rfl
  refine AE (q_ (Af (w_ (m_ (h:=i_ (h:=l_ (h:=Ac (h:=a_ (h:=s_ (h:=e_ (w_ (f_ (h:=l_ (h:=m_ (h:=i_ (h:=l_ (h:=Ac (h:=s_ (h:=e_ (w_ (f_ (h:=l_ (h:=AN (h:=?_))))))))))))))))))))))));refine e_ (?_);refine A9 rfl (fun hb4=>?_) (fun hb4=>?_)
  ·have hc4:=bp hb4;refine w_ (l_ (h:=Ab (h:=?_)));refine A6 rfl (US w DP rfl rfl ?_);refine e_ (?_);refine A9 rfl (fun hb5=>?_) (fun hb5=>?_)
   ·have hc5:=bp hb5;refine w_ (a_ (h:=e_ (A4 (AP (A7 (A7 (AP (A7 (?_)))))))));refine A8 ?_
    first|(exfalso;first|contradiction|omega)|(exact vb (by exact(Q6 hy hyw (by simp_all [EK])).symm))
   have hc5:=bp hb5;refine Aw (Al (t_ (AW (BE (h:=m_ (h:=AQ (?_)))))));refine AK ?_;refine⟨_,_,?_,⟨j+1,by omega,rfl,UT hy hyw ha (by simp_all [EK]),rfl⟩,(wk 2 0)⟩;omega
  have hc4:=bp hb4;refine w_ (f_ (h:=l_ (h:=f_ (h:=l_ (h:=Ao (h:=m_ (h:=?_)))))));refine AR false rfl rfl (fun hb6=>?_) (fun hb6=>?_)
  ·have hc6:=bp hb6;refine A3 (h:=A3 (h:=A3 (h:=A3 (h:=AB (h:=e_ (B2 (h:=w_ (a_ (h:=e_ (A4 (AP (A7 (A7 (AP (A7 (?_))))))))))))))));refine A8 ?_
   first|(exfalso;first|contradiction|omega)|(exact vb (by exact(Q6 hy hyw (by simp_all [EK])).symm))
  have hc6:=bp hb6;refine l_ (h:=l_ (h:=?_));refine Av (AJ (cB s w hs) ?_);rintro r rfl;refine BB (h:=AF (h:=e_ (?_)));refine A9 rfl (fun hb7=>?_) (fun hb7=>?_)
  ·have hc7:=bp hb7;refine w_ (a_ (h:=e_ (A4 (AP (A7 (A7 (AP (A7 (?_)))))))));refine A8 ?_
   first|(exfalso;first|contradiction|omega)|(exact vb (by exact(Q6 hy hyw (by simp_all [EK])).symm))
  have hc7:=bp hb7;refine Aw (Al (t_ (AW (BE (h:=m_ (h:=AQ (?_)))))));refine AK ?_;refine⟨_,_,?_,⟨j+1,by omega,rfl,UT hy hyw ha (by simp_all [EK]),rfl⟩,(wk 2 0)⟩;omega
 have hc3:=bp hb3;have e:=CM Aa hj hc3;subst e;refine BL (Ai (Ai (BM (t_ (w_ (a_ (h:=e_ (A4 (?_)))))))));refine A8 ?_
 first|(exfalso;first|contradiction|omega)|(exact vb (by exact(UU k1 hlen ha).symm))
include hn
end
section
theorem dQ(p:Pol)(h1:p.rules.length≤1000)(h2:p.wats.length≤1000)(ht:∀r∈p.rules,r.tests.length≤1000):AFn prog 43 [.agg (Cf p), .agg (Cf p)] (fun r=>r= .v (.bool true)):=by
 refine enter Tryz.func43 rfl rfl rfl rfl rfl 0 rfl ?_;refine w_ (b_ (h:=b_ (h:=a_ (h:=e_ (q_ (w_ (f_ (h:=l_ (h:=f_ (h:=l_ (h:=?_)))))))))));refine A6 rfl (AJ (cY p.rules p.rules h1 ht) ?_);rintro r rfl;refine BB (h:=m_ (h:=?_));refine AR false rfl rfl (fun hb1=>?_) (fun hb1=>?_)
 ·have hc1:=bp hb1;simp at hb1
 have hc1:=bp hb1;refine f_ (h:=l_ (h:=n_ (h:=f_ (h:=l_ (h:=n_ (h:=Ao (h:=AF (h:=e_ (?_)))))))));refine A9 rfl (fun hb2=>?_) (fun hb2=>?_)
 ·have hc2:=bp hb2;simp at hb2
 have hc2:=bp hb2;refine AE (q_ (w_ (a_ (h:=e_ (Af (?_))))));refine BW (fun n S=>∃j:Nat,j≤p.wats.length∧n=p.wats.length - j∧S=⟨look [(2, .bp 0 0),(3, .bp 1 0),(5, .v (.int .i64 (j:Int)))],⟨[Cf p,Cf p],[]⟩⟩) (p.wats.length) ((wk 2 0)) (⟨0,BU _,rfl,rfl⟩) ?_;rintro n S ⟨j,hj,rfl,rfl⟩;refine q_ (w_ (m_ (h:=f_ (h:=l_ (h:=n_ (h:=B1 (h:=e_ (?_))))))));refine A9 rfl (fun hb3=>?_) (fun hb3=>?_)
 ·have hc3:=bp hb3;obtain⟨hlt,w,hy,hrow, -⟩:=Bv CG hc3;refine AE (q_ (Af (q_ (D7 11 (h:=Ay 0 (h:=AY 1 (h:=Ap 2 (h:=Dc 3 (h:=AY 4 (h:=Ay 5 (h:=AY 6 (h:=Ap 7 (h:=Dc 8 (h:=AY 9 (h:=?_)))))))))))))));refine EP (i:=10) rfl (US w w rfl rfl ⟨rfl,rfl⟩) ?_;refine z_ (h:=t_ (?_));refine A9 rfl (fun hb4=>?_) (fun hb4=>?_)
  ·have hc4:=bp hb4;simp at hc4
  have hc4:=bp hb4;refine Aw (Al (t_ (AW (m_ (h:=BE (h:=a_ (h:=AQ (?_))))))));refine AK ?_;refine⟨_,_,?_,⟨j+1,by omega,rfl,rfl⟩,(wk 2 0)⟩;omega
 have hc3:=bp hb3;have e:=CM CG hj hc3;subst e;refine BL (Ai (Ai (BM (t_ (w_ (a_ (h:=e_ (A4 (?_)))))))));refine A8 ?_;rfl
end
theorem NX(a:Int):0≤IntKind.u64.wrap a∧IntKind.u64.wrap a<18446744073709551616:=by
 simp only[IntKind.wrap,IntKind.signed,IntKind.bits];simp;omega
theorem UV(a b:Int):0≤ME .u64 a b∧ME .u64 a b<18446744073709551616:=NX _
theorem dR(a b:Int):0≤MF .u64 a b∧MF .u64 a b<18446744073709551616:=NX _
section
theorem UW(l:List Int)(a:Nat)(ha:a≤100000000000):Dy prog 82 l a [] 40 (fun r=>∃m:Int,r= .v (.int .u64 m)∧0≤m∧m<18446744073709551616):=by
 refine enter Tryz.func82 rfl rfl rfl rfl rfl 1 rfl ?_;refine w_ (a_ (h:=e_ (q_ (w_ (m_ (h:=?_))))));refine A6 rfl (Ax 0 (hc:=Gn l _ (6) (by omega) (by omega)) (hR:=?_));rintro r a1 ha1 ⟨k1,rfl,p1,q1,o1⟩;refine⟨rfl,_,(by repeat constructor),?_⟩;refine e_ (Af (w_ (AN (h:=a_ (h:=e_ (?_))))));refine A9 rfl (fun hb1=>?_) (fun hb1=>?_)
 ·have hc1:=bp hb1;refine w_ (a_ (h:=e_ (A4 (AP (A7 (?_))))));refine Au none (h5:=(AX _)) (h6:=⟨_,rfl,rfl,a1,by omega,rfl,_,rfl,by omega,by omega⟩)
 have hc1:=bp hb1;refine w_ (AN (h:=a_ (h:=e_ (?_))));refine A9 rfl (fun hb2=>?_) (fun hb2=>?_)
 ·have hc2:=bp hb2;refine w_ (m_ (h:=?_));refine A6 rfl (Ax 0 (hc:=Gn l _ (32) (by omega) (by omega)) (hR:=?_));rintro r a2 ha2 ⟨k2,rfl,p2,q2,o2⟩;refine⟨rfl,_,(by repeat constructor),?_⟩
  first|refine A6 rfl (JX rfl Tryz.underlying3 Tryz.underlying113 ?_)|refine A6 rfl (JX rfl Tryz.underlying3 Tryz.underlying80 ?_)
  refine A6 rfl (Qs rfl rfl (NX _).1 ?_);refine a_ (h:=e_ (A4 (AP (A7 (?_)))));refine Au none (h5:=(AX _)) (h6:=⟨_,rfl,rfl,a2,by omega,rfl,_,rfl,dR _ _⟩)
 have hc2:=bp hb2;refine Aw (Al (t_ (w_ (a_ (h:=e_ (q_ (w_ (a_ (h:=e_ (Af (?_)))))))))));refine BW (fun n s=>∃(j a1:Nat) (m:Int),j≤32∧n=32 - j∧a1≤a+1+j∧0≤m∧m<18446744073709551616∧s=⟨look [(0, .bp 0 0),(3, .v (.int .u64 m)),(4, .v (.int .i64 (j:Int)))],⟨[Cm l a1],[]⟩⟩) (32) ((wk 1 0)) (⟨0,a1,0,by omega,rfl,by omega,by omega,by omega,rfl⟩) ?_;rintro n s ⟨j,b1,m,hj,rfl,hb1,hm1,hm2,rfl⟩;refine q_ (w_ (m_ (h:=B1 (h:=e_ (?_)))));refine A9 rfl (fun hb3=>?_) (fun hb3=>?_)
 ·have hc3:=bp hb3;refine AE (q_ (Af (AW (m_ (h:=m_ (h:=?_))))));refine A6 rfl (Ax 0 (hc:=Gn l _ (2) (by omega) (by omega)) (hR:=?_));rintro r a3 ha3 ⟨k3,rfl,p3,q3,o3⟩;refine⟨rfl,_,(by repeat constructor),?_⟩
  first|refine A6 rfl (JX rfl Tryz.underlying3 Tryz.underlying113 ?_)|refine A6 rfl (JX rfl Tryz.underlying3 Tryz.underlying80 ?_)
  refine m_ (h:=?_)
  first|refine A6 rfl (JX rfl Tryz.underlying3 Tryz.underlying113 ?_)|refine A6 rfl (JX rfl Tryz.underlying3 Tryz.underlying80 ?_)
  refine A6 rfl (Qs rfl rfl (NX _).1 ?_);refine Vh (h:=a_ (h:=AQ (Al (t_ (AW (m_ (h:=BE (h:=a_ (h:=AQ (?_))))))))));refine AK ?_;refine⟨_,_,?_,⟨j+1,_,_,by omega,rfl,?_,(UV _ _).1,(UV _ _).2,rfl⟩,(wk 1 0)⟩<;>omega
 have hc3:=bp hb3;refine BL (Ai (Ai (BM (t_ (w_ (m_ (h:=a_ (h:=e_ (A4 (?_))))))))));refine Au none (h5:=(AX _)) (h6:=⟨_,rfl,rfl,b1,by omega,rfl,m,rfl,hm1,hm2⟩)
theorem dS(l:List Int)(a:Nat)(list:Int)(ha:a≤100000000000):Dy prog 83 l a [.v (.int .i64 list)] 20 (fun r=>∃t:Tst,r= .agg (CF t)):=by
 refine enter Tryz.func83 rfl rfl rfl rfl rfl 1 rfl ?_;refine w_ (Ac (h:=e_ (w_ (m_ (h:=?_)))));refine A6 rfl (Ax 0 (hc:=Ch l _ (1) (8) (by omega) (by omega) (by omega) (by omega)) (hR:=?_));rintro r a1 ha1 ⟨k1,rfl,p1,q1⟩;refine⟨rfl,_,(by repeat constructor),?_⟩;refine m_ (h:=?_);refine A6 rfl (Ax 0 (hc:=Ch l _ (1) (8) (by omega) (by omega) (by omega) (by omega)) (hR:=?_));rintro r a2 ha2 ⟨k2,rfl,p2,q2⟩;refine⟨rfl,_,(by repeat constructor),?_⟩;refine m_ (h:=Bo (h:=?_));refine A6 rfl (Ax 0 (hc:=E4 l _ _ (fun _=>true) (by omega) (by rfl) (by rfl) (by rfl)) (hR:=?_));rintro r a3 ha3 ⟨k3,rfl,p3⟩;refine⟨rfl,_,(by repeat constructor),?_⟩;refine Ab (h:=Ac (h:=s_ (h:=e_ (w_ (m_ (h:=?_))))));refine A6 rfl (Ax 0 (hc:=Gn l _ (8) (by omega) (by omega)) (hR:=?_));rintro r a4 ha4 ⟨k4,rfl,p4,q4,o4⟩;refine⟨rfl,_,(by repeat constructor),?_⟩;refine a_ (h:=e_ (?_));refine CA (fun s=>∃(b:Nat) (f o n ot:Int) (t:ByteArray),b≤a+8∧s=⟨look [(0, .bp 0 0),(4, .bp 1 0),(5, .bp 2 0)],⟨[Cm l b,[.v (.int .i64 0), .v (.int .i64 0), .v (.int .i64 0), .v (.string ⟨#[]⟩), .v (.int .i64 0)],[.v (.int .i64 f), .v (.int .i64 o), .v (.int .i64 n), .v (.string t), .v (.int .i64 ot)]],[]⟩⟩) ?_ ?_
 ·skip
  refine Af (w_ (m_ (h:=AN (h:=a_ (h:=e_ (?_))))));refine A9 rfl (fun hb1=>?_) (fun hb1=>?_)
  ·have hc1:=bp hb1;refine AW (m_ (h:=?_));refine A6 rfl (Ax 0 (hc:=Ch l _ (13) (14) (by omega) (by omega) (by omega) (by omega)) (hR:=?_));rintro r a5 ha5 ⟨k5,rfl,p5,q5⟩;refine⟨rfl,_,(by repeat constructor),?_⟩;refine m_ (h:=?_);refine A6 rfl (Ax 0 (hc:=Ch l _ (1) (2) (by omega) (by omega) (by omega) (by omega)) (hR:=?_));rintro r a6 ha6 ⟨k6,rfl,p6,q6⟩;refine⟨rfl,_,(by repeat constructor),?_⟩;refine m_ (h:=Bo (h:=?_));refine A6 rfl (Ax 0 (hc:=JJ l _ _ (fun _=>true) (by omega) (by rfl) (by rfl) (by rfl)) (hR:=?_));rintro r a7 ha7 ⟨k7,rfl,p7⟩;refine⟨rfl,_,(by repeat constructor),?_⟩;refine Ab (h:=s_ (h:=AQ (Al (?_))));refine AK ?_;refine⟨_,⟨_,_,_,_,_,_,?_,rfl⟩,(wk 3 0)⟩<;>omega
  have hc1:=bp hb1;refine w_ (m_ (h:=AN (h:=a_ (h:=e_ (?_)))));refine A9 rfl (fun hb2=>?_) (fun hb2=>?_)
  ·have hc2:=bp hb2;refine AW (m_ (h:=?_));refine A6 rfl (Ax 0 (hc:=Ch l _ (3) (7) (by omega) (by omega) (by omega) (by omega)) (hR:=?_));rintro r a8 ha8 ⟨k8,rfl,p8,q8⟩;refine⟨rfl,_,(by repeat constructor),?_⟩;refine m_ (h:=?_);refine A6 rfl (Ax 0 (hc:=Ch l _ (1) (2) (by omega) (by omega) (by omega) (by omega)) (hR:=?_));rintro r a9 ha9 ⟨k9,rfl,p9,q9⟩;refine⟨rfl,_,(by repeat constructor),?_⟩;refine m_ (h:=?_);refine A6 rfl (Ax 0 (hc:=Ch l _ (3) (7) (by omega) (by omega) (by omega) (by omega)) (hR:=?_));rintro r a10 ha10 ⟨k10,rfl,p10,q10⟩;refine⟨rfl,_,(by repeat constructor),?_⟩;refine Ab (h:=s_ (h:=AQ (Al (?_))));refine AK ?_;refine⟨_,⟨_,_,_,_,_,_,?_,rfl⟩,(wk 3 0)⟩<;>omega
  have hc2:=bp hb2;refine w_ (m_ (h:=AN (h:=m_ (h:=?_))));refine AR true rfl rfl (fun hb3=>?_) (fun hb3=>?_)
  ·have hc3:=bp hb3;refine m_ (h:=AN (h:=AB (h:=a_ (h:=e_ (?_)))));refine A9 rfl (fun hb4=>?_) (fun hb4=>?_)
   ·have hc4:=bp hb4;refine AW (m_ (h:=?_));refine A6 rfl (Ax 0 (hc:=Ch l _ (19) (20) (by omega) (by omega) (by omega) (by omega)) (hR:=?_));rintro r a11 ha11 ⟨k11,rfl,p11,q11⟩;refine⟨rfl,_,(by repeat constructor),?_⟩;refine m_ (h:=?_);refine A6 rfl (Ax 0 (hc:=Ch l _ (1) (2) (by omega) (by omega) (by omega) (by omega)) (hR:=?_));rintro r a12 ha12 ⟨k12,rfl,p12,q12⟩;refine⟨rfl,_,(by repeat constructor),?_⟩;refine m_ (h:=Bo (h:=?_));refine A6 rfl (Ax 0 (hc:=E4 l _ _ (fun _=>true) (by omega) (by rfl) (by rfl) (by rfl)) (hR:=?_));rintro r a13 ha13 ⟨k13,rfl,p13⟩;refine⟨rfl,_,(by repeat constructor),?_⟩;refine Ab (h:=s_ (h:=AQ (Al (?_))));refine AK ?_;refine⟨_,⟨_,_,_,_,_,_,?_,rfl⟩,(wk 3 0)⟩<;>omega
   have hc4:=bp hb4;refine w_ (m_ (h:=B1 (h:=m_ (h:=?_))));refine AR true rfl rfl (fun hb5=>?_) (fun hb5=>?_)
   ·have hc5:=bp hb5;refine m_ (h:=AN (h:=AB (h:=a_ (h:=e_ (Be (h:=w_ (m_ (h:=B1 (h:=m_ (h:=m_ (h:=AN (h:=AB (h:=a_ (h:=e_ (?_)))))))))))))));refine A9 rfl (fun hb6=>?_) (fun hb6=>?_)
    ·have hc6:=bp hb6;refine AW (m_ (h:=?_));refine A6 rfl (Ax 0 (hc:=Ch l _ (9) (12) (by omega) (by omega) (by omega) (by omega)) (hR:=?_));rintro r a14 ha14 ⟨k14,rfl,p14,q14⟩;refine⟨rfl,_,(by repeat constructor),?_⟩;refine f_ (h:=s_ (h:=AQ (Al (?_))));refine AK ?_;refine⟨_,⟨_,_,_,_,_,_,?_,rfl⟩,(wk 3 0)⟩<;>omega
    have hc6:=bp hb6;refine w_ (m_ (h:=B1 (h:=m_ (h:=?_))));refine AR true rfl rfl (fun hb7=>?_) (fun hb7=>?_)
    ·have hc7:=bp hb7;refine m_ (h:=AN (h:=AB (h:=a_ (h:=e_ (?_)))));refine A9 rfl (fun hb8=>?_) (fun hb8=>?_)
     ·have hc8:=bp hb8;refine AW (m_ (h:=?_));refine A6 rfl (Ax 0 (hc:=Ch l _ (1) (6) (by omega) (by omega) (by omega) (by omega)) (hR:=?_));rintro r a15 ha15 ⟨k15,rfl,p15,q15⟩;refine⟨rfl,_,(by repeat constructor),?_⟩;refine m_ (h:=Bo (h:=?_));refine A6 rfl (Ax 0 (hc:=E4 l _ _ (fun _=>true) (by omega) (by rfl) (by rfl) (by rfl)) (hR:=?_));rintro r a16 ha16 ⟨k16,rfl,p16⟩;refine⟨rfl,_,(by repeat constructor),?_⟩;refine Ab (h:=s_ (h:=AQ (Al (?_))));refine AK ?_;refine⟨_,⟨_,_,_,_,_,_,?_,rfl⟩,(wk 3 0)⟩<;>omega
     have hc8:=bp hb8;refine Aw (Al (?_));refine AK ?_;refine⟨_,⟨_,_,_,_,_,_,?_,rfl⟩,(wk 3 0)⟩<;>omega
    have hc7:=bp hb7;refine A3 (h:=A3 (h:=AF (h:=a_ (h:=e_ (Be (h:=Aw (Al (?_))))))));refine AK ?_;refine⟨_,⟨_,_,_,_,_,_,?_,rfl⟩,(wk 3 0)⟩<;>omega
   have hc5:=bp hb5;refine A3 (h:=A3 (h:=AF (h:=a_ (h:=e_ (Be (h:=w_ (m_ (h:=B1 (h:=m_ (h:=A3 (h:=A3 (h:=AF (h:=a_ (h:=e_ (Be (h:=w_ (m_ (h:=B1 (h:=m_ (h:=?_))))))))))))))))))));refine AR true rfl rfl (fun hb9=>?_) (fun hb9=>?_)
   ·have hc9:=bp hb9;refine m_ (h:=AN (h:=AB (h:=a_ (h:=e_ (?_)))));refine A9 rfl (fun hb10=>?_) (fun hb10=>?_)
    ·have hc10:=bp hb10;refine AW (m_ (h:=?_));refine A6 rfl (Ax 0 (hc:=Ch l _ (1) (6) (by omega) (by omega) (by omega) (by omega)) (hR:=?_));rintro r a17 ha17 ⟨k17,rfl,p17,q17⟩;refine⟨rfl,_,(by repeat constructor),?_⟩;refine m_ (h:=Bo (h:=?_));refine A6 rfl (Ax 0 (hc:=E4 l _ _ (fun _=>true) (by omega) (by rfl) (by rfl) (by rfl)) (hR:=?_));rintro r a18 ha18 ⟨k18,rfl,FE⟩;refine⟨rfl,_,(by repeat constructor),?_⟩;refine Ab (h:=s_ (h:=AQ (Al (?_))));refine AK ?_;refine⟨_,⟨_,_,_,_,_,_,?_,rfl⟩,(wk 3 0)⟩<;>omega
    have hc10:=bp hb10;refine Aw (Al (?_));refine AK ?_;refine⟨_,⟨_,_,_,_,_,_,?_,rfl⟩,(wk 3 0)⟩<;>omega
   have hc9:=bp hb9;refine A3 (h:=A3 (h:=AF (h:=a_ (h:=e_ (Be (h:=Aw (Al (?_))))))));refine AK ?_;refine⟨_,⟨_,_,_,_,_,_,?_,rfl⟩,(wk 3 0)⟩<;>omega
  have hc3:=bp hb3;refine A3 (h:=A3 (h:=AF (h:=a_ (h:=e_ (Be (h:=w_ (m_ (h:=B1 (h:=m_ (h:=?_))))))))));refine AR true rfl rfl (fun hb11=>?_) (fun hb11=>?_)
  ·have hc11:=bp hb11;refine m_ (h:=AN (h:=AB (h:=a_ (h:=e_ (?_)))));refine A9 rfl (fun hb12=>?_) (fun hb12=>?_)
   ·have hc12:=bp hb12;refine AW (m_ (h:=?_));refine A6 rfl (Ax 0 (hc:=Ch l _ (15) (21) (by omega) (by omega) (by omega) (by omega)) (hR:=?_));rintro r a19 ha19 ⟨k19,rfl,p19,q19⟩;refine⟨rfl,_,(by repeat constructor),?_⟩;refine m_ (h:=Bo (h:=?_));refine A6 rfl (Ax 0 (hc:=E4 l _ _ (fun _=>true) (by omega) (by rfl) (by rfl) (by rfl)) (hR:=?_));rintro r a20 ha20 ⟨k20,rfl,p20⟩;refine⟨rfl,_,(by repeat constructor),?_⟩;refine f_ (h:=s_ (h:=f_ (h:=s_ (h:=AQ (Al (?_))))));refine AK ?_;refine⟨_,⟨_,_,_,_,_,_,?_,rfl⟩,(wk 3 0)⟩<;>omega
   have hc12:=bp hb12;refine w_ (m_ (h:=B1 (h:=m_ (h:=m_ (h:=AN (h:=AB (h:=a_ (h:=e_ (?_)))))))));refine A9 rfl (fun hb13=>?_) (fun hb13=>?_)
   ·have hc13:=bp hb13;refine AW (m_ (h:=?_));refine A6 rfl (Ax 0 (hc:=Ch l _ (9) (12) (by omega) (by omega) (by omega) (by omega)) (hR:=?_));rintro r a21 ha21 ⟨k21,rfl,p21,q21⟩;refine⟨rfl,_,(by repeat constructor),?_⟩;refine f_ (h:=s_ (h:=AQ (Al (?_))));refine AK ?_;refine⟨_,⟨_,_,_,_,_,_,?_,rfl⟩,(wk 3 0)⟩<;>omega
   have hc13:=bp hb13;refine w_ (m_ (h:=B1 (h:=m_ (h:=?_))));refine AR true rfl rfl (fun hb14=>?_) (fun hb14=>?_)
   ·have hc14:=bp hb14;refine m_ (h:=AN (h:=AB (h:=a_ (h:=e_ (?_)))));refine A9 rfl (fun hb15=>?_) (fun hb15=>?_)
    ·have hc15:=bp hb15;refine AW (m_ (h:=?_));refine A6 rfl (Ax 0 (hc:=Ch l _ (1) (6) (by omega) (by omega) (by omega) (by omega)) (hR:=?_));rintro r a22 ha22 ⟨k22,rfl,p22,q22⟩;refine⟨rfl,_,(by repeat constructor),?_⟩;refine m_ (h:=Bo (h:=?_));refine A6 rfl (Ax 0 (hc:=E4 l _ _ (fun _=>true) (by omega) (by rfl) (by rfl) (by rfl)) (hR:=?_));rintro r a23 ha23 ⟨k23,rfl,p23⟩;refine⟨rfl,_,(by repeat constructor),?_⟩;refine Ab (h:=s_ (h:=AQ (Al (?_))));refine AK ?_;refine⟨_,⟨_,_,_,_,_,_,?_,rfl⟩,(wk 3 0)⟩<;>omega
    have hc15:=bp hb15;refine Aw (Al (?_));refine AK ?_;refine⟨_,⟨_,_,_,_,_,_,?_,rfl⟩,(wk 3 0)⟩<;>omega
   have hc14:=bp hb14;refine A3 (h:=A3 (h:=AF (h:=a_ (h:=e_ (Be (h:=Aw (Al (?_))))))));refine AK ?_;refine⟨_,⟨_,_,_,_,_,_,?_,rfl⟩,(wk 3 0)⟩<;>omega
  have hc11:=bp hb11;refine A3 (h:=A3 (h:=AF (h:=a_ (h:=e_ (Be (h:=w_ (m_ (h:=B1 (h:=m_ (h:=A3 (h:=A3 (h:=AF (h:=a_ (h:=e_ (Be (h:=w_ (m_ (h:=B1 (h:=m_ (h:=?_))))))))))))))))))));refine AR true rfl rfl (fun hb16=>?_) (fun hb16=>?_)
  ·have hc16:=bp hb16;refine m_ (h:=AN (h:=AB (h:=a_ (h:=e_ (?_)))));refine A9 rfl (fun hb17=>?_) (fun hb17=>?_)
   ·have hc17:=bp hb17;refine AW (m_ (h:=?_));refine A6 rfl (Ax 0 (hc:=Ch l _ (1) (6) (by omega) (by omega) (by omega) (by omega)) (hR:=?_));rintro r a24 ha24 ⟨k24,rfl,p24,q24⟩;refine⟨rfl,_,(by repeat constructor),?_⟩;refine m_ (h:=Bo (h:=?_));refine A6 rfl (Ax 0 (hc:=E4 l _ _ (fun _=>true) (by omega) (by rfl) (by rfl) (by rfl)) (hR:=?_));rintro r a25 ha25 ⟨k25,rfl,p25⟩;refine⟨rfl,_,(by repeat constructor),?_⟩;refine Ab (h:=s_ (h:=AQ (Al (?_))));refine AK ?_;refine⟨_,⟨_,_,_,_,_,_,?_,rfl⟩,(wk 3 0)⟩<;>omega
   have hc17:=bp hb17;refine Aw (Al (?_));refine AK ?_;refine⟨_,⟨_,_,_,_,_,_,?_,rfl⟩,(wk 3 0)⟩<;>omega
  have hc16:=bp hb16;refine A3 (h:=A3 (h:=AF (h:=a_ (h:=e_ (Be (h:=Aw (Al (?_))))))));refine AK ?_;refine⟨_,⟨_,_,_,_,_,_,?_,rfl⟩,(wk 3 0)⟩<;>omega
 rintro s ⟨b,f,o,n,ot,t,hb,rfl⟩;refine q_ (w_ (m_ (h:=?_)));refine A6 rfl (Ax 0 (hc:=Gn l _ (24) (by omega) (by omega)) (hR:=?_));rintro r a26 ha26 ⟨k26,rfl,p26,q26,o26⟩;refine⟨rfl,_,(by repeat constructor),?_⟩;refine AN (h:=e_ (?_));refine A9 rfl (fun hb18=>?_) (fun hb18=>?_)
 ·have hc18:=bp hb18;refine AW (m_ (h:=?_));refine A6 rfl (Ax 0 (hc:=Ch l _ (0) (24) (by omega) (by omega) (by omega) (by omega)) (hR:=?_));rintro r a27 ha27 ⟨k27,rfl,p27,q27⟩;refine⟨rfl,_,(by repeat constructor),?_⟩;refine m_ (h:=?_);refine A6 rfl (Ax 0 (hc:=Ch l _ (0) (9) (by omega) (by omega) (by omega) (by omega)) (hR:=?_));rintro r a28 ha28 ⟨k28,rfl,p28,q28⟩;refine⟨rfl,_,(by repeat constructor),?_⟩;refine f_ (h:=s_ (h:=f_ (h:=s_ (h:=e_ (w_ (l_ (h:=s_ (h:=e_ (A4 (?_))))))))));refine Au none (h5:=(AX _)) (h6:=⟨_,rfl,rfl,_,?_,rfl,⟨_,_,_,_,_⟩,rfl⟩)<;>omega
 have hc18:=bp hb18;refine AE (w_ (l_ (h:=s_ (h:=e_ (A4 (?_))))));refine Au none (h5:=(AX _)) (h6:=⟨_,rfl,rfl,_,?_,rfl,⟨_,_,_,_,_⟩,rfl⟩)<;>omega
end
theorem UX{α:Type}{p:Nat→α→Bool}:∀{l:List α} {i:Nat},(∀k x,l[k]?=some x→p (i+k) x=false)→Cp p l i= -1
 |[],_,_=>rfl
 |x::xs,i,h=>by
   rw[Cp,if_neg (by simpa using h 0 x rfl)]
   exact UX fun k y hy=>by
    have:=h (k+1) y (by simpa using hy)
    rwa [show i+1+k=i+(k+1) by omega]
theorem Q7{l:List Rul}{r:Rul}:Du l r<0↔r∉l:=by
 constructor
 ·intro h hm;obtain⟨k,hk⟩:=List.getElem?_of_mem hm;rcases Int.lt_or_le (Du l r) 0 with h1|h1
  ·clear h
   have:∀(l:List Rul) (i k:Nat),l[k]?=some r→0≤Cp (fun _ x=>decide (x=r)) l i:=by
    intro l
    induction l with
    |nil=>intro i k hk;simp at hk
    |cons x xs ih=>
      intro i k hk;rw[Cp];split
      ·omega
      rename_i hne
      cases k with
      |zero=>simp at hk;simp[hk]at hne
      |succ k=>exact ih (i+1) k (by simpa using hk)
   have:=this l 0 k hk;unfold Du at h1;omega
  omega
 intro h
 have:Du l r= -1:=UX fun k x hx=>by
  simp only[decide_eq_false_iff_not];rintro rfl;exact h (Ar hx)
 omega
theorem UY:∀(l pre:List Rul),El pre l=0↔(∀x∈l,BC x=0∧x∉pre)∧l.Nodup
 |[],pre=>by simp[El]
 |r::rs,pre=>by
   rw[El];by_cases h1:BC r=0
   ·rw[if_neg (by simpa using h1)];by_cases h2:0≤Du pre r
    ·rw[if_pos h2];have h3:r∈pre:=Classical.byContradiction fun h=>by have:=Q7.2 h;omega
     exact⟨fun h=>absurd h (by decide),fun h=>absurd h3 (h.1 r (by simp)).2⟩
    rw[if_neg h2,UY rs (pre++[r])];have h3:r∉pre:=Q7.1 (by omega);constructor
    ·rintro⟨k1,k2⟩;refine⟨?_,?_⟩
     ·intro x hx;rcases List.mem_cons.1 hx with rfl|hx
      ·exact⟨h1,h3⟩
      exact⟨(k1 x hx).1,fun hm=>(k1 x hx).2 (by simp[hm])⟩
     exact List.nodup_cons.2 ⟨fun hm=>(k1 r hm).2 (by simp),k2⟩
    rintro⟨k1,k2⟩;obtain⟨k3,k4⟩:=List.nodup_cons.1 k2;refine⟨fun x hx=>⟨(k1 x (by simp[hx])).1,fun hm=>?_⟩,k4⟩;rcases List.mem_append.1 hm with hm|hm
    ·exact(k1 x (by simp[hx])).2 hm
    rw[List.mem_singleton.1 hm]at hx;exact k3 hx
   rw[if_pos (by simpa using h1)];constructor
   ·intro h;exact absurd h h1
   intro h;exact absurd (h.1 r (by simp)).1 h1
theorem NY(l:List Rul):CH l=0↔l.length≤24∧(∀x∈l,BC x=0)∧l.Nodup:=by
 unfold CH;split
 ·simp;omega
 rw[UY];simp;omega
structure LstOk(l:List Rul)(n:Nat):Prop where
 chk:CH l=0
 ins:∀r∈l,Cb r
 len:l.length≤n
theorem LstOk.nil(n:Nat):LstOk [] n:=⟨(NY []).2 (by simp),by simp,by simp⟩
theorem LstOk.add{l:List Rul}{n:Nat}{r:Rul}{f:Bool}(h:LstOk l n)(hr:Cb r)(he:(Bu l r f).2=0):LstOk (Bu l r f).1 (n+1):=by
 unfold Bu at he ⊢;rw[if_neg (by rw[h.chk];simp)]at he ⊢;split at he
 ·rename_i h1;exact absurd he h1
 rename_i h1;rw[if_neg h1];split at he
 ·cases he
 rename_i h2;rw[if_neg h2];split at he
 ·cases he
 rename_i h3;rw[if_neg h3];have hm:r∉l:=Q7.1 (by omega);obtain⟨c1,c2,c3⟩:=(NY l).1 h.chk;have h1':BC r=0:=by simpa using h1
 cases f
 ·refine⟨(NY _).2 ⟨by simp;omega,?_,?_⟩,?_,?_⟩
  ·intro x hx;rcases(by simpa using hx:x∈l∨x=r)with hx|hx
   ·exact c2 x hx
   rw[hx];exact h1'
  ·simp only[Bool.false_eq_true,if_false];exact List.nodup_append.2 ⟨c3,by simp,fun a ha b hb=>by rw[List.mem_singleton.1 hb];rintro rfl;exact hm ha⟩
  ·intro x hx;rcases(by simpa using hx:x∈l∨x=r)with hx|hx
   ·exact h.ins x hx
   rw[hx];exact hr
  have:=h.len;simp;omega
 refine⟨(NY _).2 ⟨by simp;omega,?_,?_⟩,?_,?_⟩
 ·intro x hx;rcases(by simpa using hx:x=r∨x∈l)with hx|hx
  ·rw[hx];exact h1'
  exact c2 x hx
 ·simp only[if_true];exact List.nodup_cons.2 ⟨hm,c3⟩
 ·intro x hx;rcases(by simpa using hx:x=r∨x∈l)with hx|hx
  ·rw[hx];exact hr
  exact h.ins x hx
 have:=h.len;simp;omega
theorem LstOk.mono{l:List Rul}{n m:Nat}(h:LstOk l n)(hm:n≤m):LstOk l m:=⟨h.chk,h.ins,Nat.le_trans h.len hm⟩
def Ld:Rul:=⟨3,1,4294967295,[],0,⟨#[]⟩,0,⟨#[]⟩⟩
theorem dT:Cb Ld:=by unfold Cb Ld;simp;decide
theorem dU:BC Ld=0:=by decide
section
theorem UZ(l:List Int)(a:Nat)(ha:a≤10000000000):Dy prog 40 l a [] 200 (fun r=>∃x:Rul,Cb x∧r= .agg (Aa x)):=by
 refine enter Tryz.func40 rfl rfl rfl rfl rfl 1 rfl ?_;refine w_ (Ac (h:=e_ (w_ (m_ (h:=Bo (h:=?_))))));refine A6 rfl (Ax 0 (hc:=E4 l _ _ (fun _=>true) (by omega) (by rfl) (by rfl) (by rfl)) (hR:=?_));rintro r a1 ha1 ⟨k1,rfl,p1⟩;refine⟨rfl,_,(by repeat constructor),?_⟩;refine m_ (h:=Bo (h:=?_));refine A6 rfl (Ax 0 (hc:=E4 l _ _ (fun _=>true) (by omega) (by rfl) (by rfl) (by rfl)) (hR:=?_));rintro r a2 ha2 ⟨k2,rfl,p2⟩;refine⟨rfl,_,(by repeat constructor),?_⟩;refine m_ (h:=Bo (h:=?_));refine A6 rfl (Ax 0 (hc:=JJ l _ _ (fun _=>true) (by omega) (by rfl) (by rfl) (by rfl)) (hR:=?_));rintro r a3 ha3 ⟨k3,rfl,p3⟩;refine⟨rfl,_,(by repeat constructor),?_⟩;refine Ab (h:=Ac (h:=s_ (h:=e_ (?_))));refine CA (fun s=>∃(b:Nat) (li ac ca:Int) (key:ByteArray),b≤a+50∧0≤ca∧ca<18446744073709551616∧s=⟨look [(0, .bp 0 0),(2, .bp 1 0),(3, .bp 2 0)],⟨[Cm l b,[.v (.int .i64 0), .v (.int .i64 0), .v (.int .u64 0), .v (.slice none 0 0), .v (.int .i64 0), .v (.string ⟨#[]⟩), .v (.int .i64 0), .v (.string ⟨#[]⟩)],[.v (.int .i64 li), .v (.int .i64 ac), .v (.int .u64 ca), .v (.slice none 0 0), .v (.int .i64 0), .v (.string ⟨#[]⟩), .v (.int .i64 0), .v (.string key)]],[]⟩⟩) ?_ ?_
 ·skip
  refine w_ (f_ (h:=l_ (h:=AN (h:=m_ (h:=?_)))));refine AR false rfl rfl (fun hb1=>?_) (fun hb1=>?_)
  ·have hc1:=bp hb1;refine A3 (h:=A3 (h:=A3 (h:=AB (h:=e_ (B2 (h:=w_ (m_ (h:=?_))))))));refine A6 rfl (Ax 0 (hc:=UW l _ (by omega)) (hR:=?_));rintro r a4 ha4 ⟨k4,rfl,p4,q4⟩;refine⟨rfl,_,(by repeat constructor),?_⟩;refine f_ (h:=s_ (h:=e_ (q_ (w_ (m_ (h:=?_))))));refine A6 rfl (Ax 0 (hc:=Gn l _ (3) (by omega) (by omega)) (hR:=?_));rintro r a5 ha5 ⟨k5,rfl,p5,q5,o5⟩;refine⟨rfl,_,(by repeat constructor),?_⟩;refine Bb (h:=e_ (?_));refine A9 rfl (fun hb2=>?_) (fun hb2=>?_)
   ·have hc2:=bp hb2;refine AW (f_ (h:=s_ (h:=e_ (w_ (f_ (h:=l_ (h:=AN (h:=e_ (?_)))))))));refine A9 rfl (fun hb3=>?_) (fun hb3=>?_)
    ·have hc3:=bp hb3;refine AW (f_ (h:=s_ (h:=AQ (?_))));refine AK ?_;refine⟨_,⟨_,_,_,_,_,?_,?_,?_,rfl⟩,(wk 3 0)⟩<;>omega
    have hc3:=bp hb3;refine Aw (?_);refine AK ?_;refine⟨_,⟨_,_,_,_,_,?_,?_,?_,rfl⟩,(wk 3 0)⟩<;>omega
   have hc2:=bp hb2;refine AE (w_ (f_ (h:=l_ (h:=AN (h:=e_ (?_))))));refine A9 rfl (fun hb4=>?_) (fun hb4=>?_)
   ·have hc4:=bp hb4;refine AW (f_ (h:=s_ (h:=AQ (?_))));refine AK ?_;refine⟨_,⟨_,_,_,_,_,?_,?_,?_,rfl⟩,(wk 3 0)⟩<;>omega
   have hc4:=bp hb4;refine Aw (?_);refine AK ?_;refine⟨_,⟨_,_,_,_,_,?_,?_,?_,rfl⟩,(wk 3 0)⟩<;>omega
  have hc1:=bp hb1;refine f_ (h:=l_ (h:=AN (h:=AF (h:=e_ (?_)))));refine A9 rfl (fun hb5=>?_) (fun hb5=>?_)
  ·have hc5:=bp hb5;refine w_ (m_ (h:=?_));refine A6 rfl (Ax 0 (hc:=UW l _ (by omega)) (hR:=?_));rintro r a6 ha6 ⟨k6,rfl,p6,q6⟩;refine⟨rfl,_,(by repeat constructor),?_⟩;refine f_ (h:=s_ (h:=e_ (q_ (w_ (m_ (h:=?_))))));refine A6 rfl (Ax 0 (hc:=Gn l _ (3) (by omega) (by omega)) (hR:=?_));rintro r a7 ha7 ⟨k7,rfl,p7,q7,o7⟩;refine⟨rfl,_,(by repeat constructor),?_⟩;refine Bb (h:=e_ (?_));refine A9 rfl (fun hb6=>?_) (fun hb6=>?_)
   ·have hc6:=bp hb6;refine AW (f_ (h:=s_ (h:=e_ (w_ (f_ (h:=l_ (h:=AN (h:=e_ (?_)))))))));refine A9 rfl (fun hb7=>?_) (fun hb7=>?_)
    ·have hc7:=bp hb7;refine AW (f_ (h:=s_ (h:=AQ (?_))));refine AK ?_;refine⟨_,⟨_,_,_,_,_,?_,?_,?_,rfl⟩,(wk 3 0)⟩<;>omega
    have hc7:=bp hb7;refine Aw (?_);refine AK ?_;refine⟨_,⟨_,_,_,_,_,?_,?_,?_,rfl⟩,(wk 3 0)⟩<;>omega
   have hc6:=bp hb6;refine AE (w_ (f_ (h:=l_ (h:=AN (h:=e_ (?_))))));refine A9 rfl (fun hb8=>?_) (fun hb8=>?_)
   ·have hc8:=bp hb8;refine AW (f_ (h:=s_ (h:=AQ (?_))));refine AK ?_;refine⟨_,⟨_,_,_,_,_,?_,?_,?_,rfl⟩,(wk 3 0)⟩<;>omega
   have hc8:=bp hb8;refine Aw (?_);refine AK ?_;refine⟨_,⟨_,_,_,_,_,?_,?_,?_,rfl⟩,(wk 3 0)⟩<;>omega
  have hc5:=bp hb5;refine Aw (?_);refine AK ?_;refine⟨_,⟨_,_,_,_,_,?_,?_,?_,rfl⟩,(wk 3 0)⟩<;>omega
 rintro s ⟨b,li,ac,ca,key,hb,hca1,hca2,rfl⟩;refine q_ (w_ (m_ (h:=Bo (h:=?_))));refine A6 rfl (Ax 0 (hc:=E4 l _ _ (fun z=>decide (0≤z∧z≤3)) (by omega) (by rfl) (by rfl) (by rfl)) (hR:=?_));rintro r a8 ha8 ⟨k8,rfl,p8⟩;refine⟨rfl,_,(by repeat constructor),?_⟩;obtain⟨hz1,hz2⟩:=of_decide_eq_true p8;obtain⟨m,rfl⟩:=Int.eq_ofNat_of_zero_le (show 0≤k8 by omega);refine a_ (h:=e_ (Af (?_)));refine KY 2 3 115 5 rfl rfl (by repeat constructor) (by repeat constructor) (by repeat constructor) ?_;refine BW (fun n s=>∃(j b1:Nat) (ts:List Tst),j≤m∧n=j∧b1≤b+1+20 * (m - j)∧ts.length=m - j∧s=⟨look [(0, .bp 0 0),(2, .bp 1 0),(3, .bp 2 0),(4, .v (.int .i64 (j:Int)))],⟨[Cm l b1,[.v (.int .i64 0), .v (.int .i64 0), .v (.int .u64 0), .v (.slice none 0 0), .v (.int .i64 0), .v (.string ⟨#[]⟩), .v (.int .i64 0), .v (.string ⟨#[]⟩)],[.v (.int .i64 li), .v (.int .i64 ac), .v (.int .u64 ca), .sl 5 (ts.map CF) (some 0), .v (.int .i64 0), .v (.string ⟨#[]⟩), .v (.int .i64 0), .v (.string key)]],[(115,5,ts.map CF)]⟩⟩) (m) ((wk 3 1)) (⟨m,_,[],by omega,rfl,by omega,by simp,rfl⟩) ?_;rintro n s ⟨j,b1,ts,hj,hn,hb1,hts,rfl⟩;subst n;refine q_ (w_ (m_ (h:=Bb (h:=e_ (?_)))));refine A9 rfl (fun hb9=>?_) (fun hb9=>?_)
 ·have hc9:=bp hb9;refine AE (q_ (Af (CE ([(1,[.v (.int .i64 0), .v (.int .i64 0), .v (.int .u64 0), .v (.slice none 0 0), .v (.int .i64 0), .v (.string ⟨#[]⟩), .v (.int .i64 0), .v (.string ⟨#[]⟩)]),(2,[.v (.int .i64 li), .v (.int .i64 ac), .v (.int .u64 ca), .sl 5 (ts.map CF) (some 0), .v (.int .i64 0), .v (.string ⟨#[]⟩), .v (.int .i64 0), .v (.string key)])]) 9 (h:=Ay 0 (h:=AY 1 (h:=Ap 2 (h:=Ay 3 (h:=AY 4 (h:=?_)))))))));refine c_ 5 rfl (Ax 0 (hc:=dS l _ _ (by omega)) (hR:=?_));rintro r a9 ha9 ⟨T9,rfl⟩;refine⟨rfl,_,(by repeat constructor),?_⟩;refine o_ (h:=MX 6 (h:=?_))
  first|refine c_ 7 rfl (E7 rfl rfl rfl (by simp<;>omega) (by repeat constructor) ?_)|refine c_ 7 rfl (E8 rfl rfl (by simp<;>omega) (by repeat constructor) ?_)
  refine o_ (h:=Ay 8 (h:=?_));refine Bm 9 rfl (Bd rfl rfl rfl rfl rfl rfl (by repeat constructor) (by repeat constructor) ?_);refine o_ (h:=z_ (h:=Al (t_ (AW (m_ (h:=G0 (h:=a_ (h:=AQ (?_)))))))));refine AK ?_;obtain⟨j,rfl⟩:∃i,j=i+1:=⟨j - 1,by omega⟩;refine⟨_,_,?_,⟨j,_,ts++[T9],by omega,rfl,?_,?_,rfl⟩,(by rw[List.map_append];exact Az 3 1 rfl rfl rfl rfl (by repeat (first|exact Sub.nil|refine B0 rfl rfl ?_|(apply Sub.of;(focus exact rfl);(focus exact LeA.of_eq (vi (by omega)));(focus exact rfl)))))⟩
  ·omega
  ·omega
  simp;omega
 have hc9:=bp hb9;refine BL (Ai (Ai (BM (t_ (?_)))));refine CA (fun s=>∃(b2:Nat) (wa pe:Int) (pa:ByteArray),b2≤a+140∧pa.size≤60∧s=⟨look [(0, .bp 0 0),(2, .bp 1 0),(3, .bp 2 0)],⟨[Cm l b2,[.v (.int .i64 0), .v (.int .i64 0), .v (.int .u64 0), .v (.slice none 0 0), .v (.int .i64 0), .v (.string ⟨#[]⟩), .v (.int .i64 0), .v (.string ⟨#[]⟩)],[.v (.int .i64 li), .v (.int .i64 ac), .v (.int .u64 ca), .sl 5 (ts.map CF) (some 0), .v (.int .i64 wa), .v (.string pa), .v (.int .i64 pe), .v (.string key)]],[(115,5,ts.map CF)]⟩⟩) ?_ ?_
 ·skip
  refine w_ (f_ (h:=l_ (h:=AN (h:=m_ (h:=?_)))));refine AR true rfl rfl (fun hb10=>?_) (fun hb10=>?_)
  ·have hc10:=bp hb10;refine m_ (h:=?_);refine Av (Ax 0 (hc:=Gn l _ (3) (by omega) (by omega)) (hR:=?_));rintro r a10 ha10 ⟨k10,rfl,p10,q10,o10⟩;refine⟨rfl,_,(by repeat constructor),?_⟩;refine AN (h:=AB (h:=e_ (?_)));refine A9 rfl (fun hb11=>?_) (fun hb11=>?_)
   ·have hc11:=bp hb11;refine w_ (m_ (h:=?_));refine A6 rfl (Ax 0 (hc:=Ch l _ (1) (2) (by omega) (by omega) (by omega) (by omega)) (hR:=?_));rintro r a11 ha11 ⟨k11,rfl,p11,q11⟩;refine⟨rfl,_,(by repeat constructor),?_⟩;refine m_ (h:=?_);refine A6 rfl (Ax 0 (hc:=dG l _ (by omega)) (hR:=?_));rintro r a12 ha12 ⟨k12,rfl,p12⟩;refine⟨rfl,_,(by repeat constructor),?_⟩;refine m_ (h:=?_);refine A6 rfl (Ax 0 (hc:=Ch l _ (1) (15) (by omega) (by omega) (by omega) (by omega)) (hR:=?_));rintro r a13 ha13 ⟨k13,rfl,p13,q13⟩;refine⟨rfl,_,(by repeat constructor),?_⟩;refine f_ (h:=s_ (h:=f_ (h:=s_ (h:=f_ (h:=s_ (h:=e_ (w_ (m_ (h:=?_)))))))));refine A6 rfl (Ax 0 (hc:=Gn l _ (8) (by omega) (by omega)) (hR:=?_));rintro r a14 ha14 ⟨k14,rfl,p14,q14,o14⟩;refine⟨rfl,_,(by repeat constructor),?_⟩;refine AN (h:=e_ (?_));refine A9 rfl (fun hb12=>?_) (fun hb12=>?_)
    ·have hc12:=bp hb12;refine AW (f_ (h:=s_ (h:=AQ (?_))));refine AK ?_;refine⟨_,⟨_,_,_,_,?_,?_,rfl⟩,(wk 3 1)⟩<;>first|omega|exact B8 rfl
    have hc12:=bp hb12;refine Aw (?_);refine AK ?_;refine⟨_,⟨_,_,_,_,?_,?_,rfl⟩,(wk 3 1)⟩<;>first|omega|exact B8 rfl
   have hc11:=bp hb11;refine Aw (?_);refine AK ?_;refine⟨_,⟨_,_,_,_,?_,?_,rfl⟩,(wk 3 1)⟩<;>first|omega|exact B8 rfl
  have hc10:=bp hb10;refine A3 (h:=A3 (h:=A3 (h:=AF (h:=e_ (Be (h:=Aw (?_)))))));refine AK ?_;refine⟨_,⟨_,_,_,_,?_,?_,rfl⟩,(wk 3 1)⟩<;>first|omega|exact B8 rfl
 rintro s ⟨b2,wa,pe,pa,hb2,hpa,rfl⟩;refine q_ (w_ (m_ (h:=?_)));refine A6 rfl (Ax 0 (hc:=Gn l _ (24) (by omega) (by omega)) (hR:=?_));rintro r a15 ha15 ⟨k15,rfl,p15,q15,o15⟩;refine⟨rfl,_,(by repeat constructor),?_⟩;refine AN (h:=e_ (?_));refine A9 rfl (fun hb13=>?_) (fun hb13=>?_)
 ·have hc13:=bp hb13;refine AW (m_ (h:=?_));refine A6 rfl (Ax 0 (hc:=Ch l _ (-1) (16) (by omega) (by omega) (by omega) (by omega)) (hR:=?_));rintro r a16 ha16 ⟨k16,rfl,p16,q16⟩;refine⟨rfl,_,(by repeat constructor),?_⟩;refine m_ (h:=?_);refine A6 rfl (Ax 0 (hc:=Ch l _ (0) (6) (by omega) (by omega) (by omega) (by omega)) (hR:=?_));rintro r a17 ha17 ⟨k17,rfl,p17,q17⟩;refine⟨rfl,_,(by repeat constructor),?_⟩;refine m_ (h:=?_);refine A6 rfl (Ax 0 (hc:=Ch l _ (0) (3) (by omega) (by omega) (by omega) (by omega)) (hR:=?_));rintro r a18 ha18 ⟨k18,rfl,FE,q18⟩;refine⟨rfl,_,(by repeat constructor),?_⟩;refine f_ (h:=s_ (h:=f_ (h:=s_ (h:=f_ (h:=s_ (h:=e_ (w_ (l_ (h:=s_ (h:=e_ (A4 (?_))))))))))));refine Au none (h5:=(AX _)) (h6:=⟨_,rfl,rfl,_,?_,rfl,⟨_,_,_,ts,_,pa,_,_⟩,⟨hca1,hca2,Nat.le_trans hpa (by decide),by show ts.length≤1000;omega⟩,rfl⟩)<;>omega
 have hc13:=bp hb13;refine AE (w_ (l_ (h:=s_ (h:=e_ (A4 (?_))))));refine Au none (h5:=(AX _)) (h6:=⟨_,rfl,rfl,_,?_,rfl,⟨_,_,_,ts,_,pa,_,_⟩,⟨hca1,hca2,Nat.le_trans hpa (by decide),by show ts.length≤1000;omega⟩,rfl⟩)<;>omega
end
structure PolOk(s:Spc)(p:Pol)(n:Nat):Prop where
 lst:LstOk p.rules n
 wat:p.wats=D6 s p.rules
 ok:∀r∈p.rules,(CD s r).2=0
theorem dV{s:Spc}{k:Int}{p:AG}(h:(EJ s k p).2=0):(EJ s k p).1.kind=k:=by
 unfold EJ at h ⊢;by_cases c1:(k≠1∧k≠2)∨D2 p.data.toList=false
 ·rw[if_pos c1]at h;cases h
 rw[if_neg c1]at h ⊢;by_cases c2:(Bt s (0,0) p (decide (k=2))).2≠0
 ·rw[if_pos c2]at h;exact absurd h c2
 rw[if_neg c2]at h ⊢;by_cases c3:k=2
 ·rw[if_pos c3]at h ⊢;by_cases c4:(Bt s (0,0) p true).1.ex=false
  ·rw[if_pos c4]at h;cases h
  rw[if_neg c4]at h ⊢;by_cases c5:Am s.files (Bt s (0,0) p true).1.file=false
  ·rw[if_pos c5]at h;cases h
  rw[if_neg c5]
 rw[if_neg c3]at h ⊢;by_cases c4:(Bt s (0,0) p false).1.name=⟨#[]⟩
 ·rw[if_pos c4]at h;cases h
 rw[if_neg c4]
theorem dW{s:Spc}{r:Rul}(hv:SpcV s)(h:(CD s r).2=0):EK s r (CD s r).1=true:=by
 unfold EK;unfold CD at h ⊢;by_cases c:r.watch=0
 ·simp[c]
 rw[if_neg c]at h ⊢;rw[if_neg c];by_cases c2:(EJ s r.watch r.path).2≠0
 ·rw[if_pos c2]at h;cases h
 rw[if_neg c2];have c3:(EJ s r.watch r.path).2=0:=by simpa using c2
 rw[bV hv c3,Bool.and_true,decide_eq_true_iff];exact dV c3
theorem PolOk.sound{s:Spc}{p:Pol}{n:Nat}(hv:SpcV s)(h:PolOk s p n):Fp s p=true:=by
 refine UU h.lst.chk (by rw[h.wat];simp[D6]) ?_;intro i r w hi hr hw;rw[h.wat]at hw;simp only[D6,List.getElem?_map,hr,Option.map_some,Option.some.injEq]at hw;rw[←hw];exact dW hv (h.ok r (Ar hr))
theorem PolOk.nil(s:Spc)(n:Nat):PolOk s Fo n:=⟨LstOk.nil n,rfl,by simp[Fo]⟩
theorem PolOk.len{s:Spc}{p:Pol}{n:Nat}(h:PolOk s p n):p.wats.length=p.rules.length:=by rw[h.wat];simp[D6]
theorem dY{l:List Rul}{r:Rul}{f:Bool}(h:(Bu l r f).2=0):(Bu l r f).1=if f=true then r::l else l++[r]:=by
 unfold Bu at h ⊢;by_cases c1:CH l≠0
 ·rw[if_pos c1]at h;exact absurd h c1
 rw[if_neg c1]at h ⊢;by_cases c2:BC r≠0
 ·rw[if_pos c2]at h;exact absurd h c2
 rw[if_neg c2]at h ⊢;by_cases c3:0≤Du l r
 ·rw[if_pos c3]at h;cases h
 rw[if_neg c3]at h ⊢;by_cases c4:24≤(l.length:Int)
 ·rw[if_pos c4]at h;cases h
 rw[if_neg c4]
section
theorem dZ(l:List Int)(a:Nat)(ha:a≤1000000000):Dy prog 56 l a [] 1600 (fun r=>∃x:Rul,Cb x∧BC x=0∧r= .agg (Aa x)):=by
 refine enter Tryz.func56 rfl rfl rfl rfl rfl 1 rfl ?_;refine w_ (Ac (h:=e_ (q_ (w_ (a_ (h:=e_ (Af (?_))))))));refine BW (fun n s=>∃(j b:Nat),j≤8∧n=8 - j∧b≤a+200 * j∧s=⟨look [(0, .bp 0 0),(2, .bp 1 0),(3, .v (.int .i64 (j:Int)))],⟨[Cm l b,[.v (.int .i64 0), .v (.int .i64 0), .v (.int .u64 0), .v (.slice none 0 0), .v (.int .i64 0), .v (.string ⟨#[]⟩), .v (.int .i64 0), .v (.string ⟨#[]⟩)]],[]⟩⟩) (8) ((wk 2 0)) (⟨0,a,by omega,rfl,by omega,rfl⟩) ?_;rintro n s ⟨j,b,hj,rfl,hb,rfl⟩;refine q_ (w_ (m_ (h:=B1 (h:=e_ (?_)))));refine A9 rfl (fun hb1=>?_) (fun hb1=>?_)
 ·have hc1:=bp hb1;refine AE (q_ (Af (w_ (m_ (h:=?_)))));refine A6 rfl (Ax 0 (hc:=UZ l _ (by omega)) (hR:=?_));rintro r a1 ha1 ⟨x,hx,rfl⟩;refine⟨rfl,_,(by repeat constructor),?_⟩;refine Ac (h:=s_ (h:=e_ (w_ (l_ (h:=?_)))));refine A6 rfl (AJ (K8 x hx) ?_);rintro r rfl;refine AN (h:=e_ (?_));refine A9 rfl (fun hb2=>?_) (fun hb2=>?_)
  ·have hc2:=bp hb2;refine w_ (l_ (h:=s_ (h:=e_ (A4 (AP (A7 (A7 (AP (A7 (?_))))))))));refine Au none (h5:=(AX _)) (h6:=⟨_,rfl,rfl,_,?_,rfl,x,hx,hc2,rfl⟩)<;>omega
  have hc2:=bp hb2;refine Aw (Al (t_ (AW (m_ (h:=BE (h:=a_ (h:=AQ (?_))))))));refine AK ?_;refine⟨_,_,?_,⟨j+1,_,by omega,rfl,?_,rfl⟩,(wk 2 0)⟩<;>omega
 have hc1:=bp hb1;refine BL (Ai (Ai (BM (t_ (w_ (Ab (h:=s_ (h:=e_ (A4 (?_))))))))));refine Au (r:= .agg (Aa Ld)) none (h5:=(by repeat (first|exact AX _|exact LeA.nil _|exact LeL.refl _|refine LeA.agg ?_|refine LeA.tup ?_|exact LeL.nil|refine LeL.cons ?_ ?_|exact LeA.any _))) (h6:=⟨_,rfl,rfl,b,by omega,rfl,Ld,dT,dU,rfl⟩)
end
structure Vdt where
 sel:Bool
 rule:Int
 key:AG
deriving DecidableEq
def KF(v:Vdt):List AV:=[.v (.bool v.sel), .v (.int .i64 v.rule), .v (.string v.key)]
def Le:Vdt:=⟨false, -1,⟨#[]⟩⟩
def Ge(l:List Rul)(i:Int):Vdt:=if i<0 then Le else match l[i.toNat]? with|some r=>⟨decide (r.action=1),i,r.key⟩|none=>Le
theorem eB{l:List Rul}{i:Nat}{r:Rul}(h:l[i]?=some r):Ge l (i:Int)=⟨decide (r.action=1),(i:Int),r.key⟩:=by
 rw[Ge,if_neg (by omega),Int.toNat_natCast,h]
theorem Ua{l:List Rul}{i:Int}(h:i<0):Ge l i=Le:=by rw[Ge,if_pos h]
def Ub(l:List Rul)(i:Int):Prop:=i<0∨∃(k:Nat) (r:Rul),i=(k:Int)∧l[k]?=some r
theorem Uc{α:Type}{p:Nat→α→Bool}:∀{l:List α} {i:Nat},Cp p l i<0∨∃(k:Nat) (r:α),Cp p l i=((i+k:Nat):Int)∧l[k]?=some r
 |[],_=> .inl (by simp[Cp])
 |x::xs,i=>by
   rw[Cp];split
   ·exact .inr ⟨0,x,rfl,rfl⟩
   rcases Uc (p:=p) (l:=xs) (i:=i+1)with h|⟨k,r,h1,h2⟩
   ·exact .inl h
   exact .inr ⟨k+1,r,by rw[h1];congr 1;omega,by simpa using h2⟩
theorem Ud(p:Nat→Rul→Bool)(l:List Rul):Ub l (Cp p l 0):=by
 rcases Uc (p:=p) (l:=l) (i:=0)with h|⟨k,r,h1,h2⟩
 ·exact .inl h
 exact .inr ⟨k,r,by rw[h1,Nat.zero_add],h2⟩
def Ue(c:Ctx):Ctx:={c with phase:=1,ext:=0,items:=[]}
def NZ(p:Pol)(c:Ctx):Int:=Cp (H7 2 [] (Ue c)) p.rules 0
section
theorem eC(p:Pol)(i:Int)(hi:i<0):AFn prog 67 [.agg (Cf p), .v (.int .i64 i)] (fun r=>r= .agg (KF Le)):=by
 refine enter Tryz.func67 rfl rfl rfl rfl rfl 0 rfl ?_;refine w_ (b_ (h:=Ac (h:=e_ (q_ (w_ (m_ (h:=B1 (h:=e_ (?_)))))))));refine A9 rfl (fun hb1=>?_) (fun hb1=>?_)
 ·have hc1:=bp hb1;refine w_ (Ab (h:=s_ (h:=e_ (A4 (A7 (?_))))));refine A8 ?_;rfl
 have hc1:=bp hb1;exfalso;first|contradiction|omega
theorem eD(p:Pol)(k:Nat)(r:Rul)(hr:p.rules[k]?=some r)(h1:p.rules.length≤1000):AFn prog 67 [.agg (Cf p), .v (.int .i64 (k:Int))] (fun x=>x= .agg (KF ⟨decide (r.action=1),(k:Int),r.key⟩)):=by
 have hrow:(p.rules.map Aa)[k]?=some (Aa r):=by rw[List.getElem?_map,hr];rfl
 have hlt:k<p.rules.length:=(Ah.1 hr).1;refine enter Tryz.func67 rfl rfl rfl rfl rfl 0 rfl ?_;refine w_ (b_ (h:=Ac (h:=e_ (q_ (w_ (m_ (h:=B1 (h:=e_ (?_)))))))));refine A9 rfl (fun hb1=>?_) (fun hb1=>?_)
 ·have hc1:=bp hb1;exfalso;first|contradiction|omega
 have hc1:=bp hb1;refine AE (w_ (f_ (h:=l_ (h:=m_ (h:=i_ (h:=l_ (h:=Ac (h:=s_ (h:=e_ (w_ (f_ (h:=l_ (h:=AN (h:=m_ (h:=f_ (h:=l_ (h:=Ab (h:=s_ (h:=e_ (A4 (?_)))))))))))))))))))));refine A8 ?_;rfl
theorem Q8(p:Pol)(i:Int)(hi:Ub p.rules i)(h1:p.rules.length≤1000):AFn prog 67 [.agg (Cf p), .v (.int .i64 i)] (fun r=>r= .agg (KF (Ge p.rules i))):=by
 rcases hi with hi|⟨k,r,rfl,hr⟩
 ·rw[Ua hi];exact eC p i hi
 rw[eB hr];exact eD p k r hr h1
variable (p:Pol)(c:Ctx)(k:Cxs)(h1:p.rules.length≤1000)(ht:∀r∈p.rules,r.tests.length≤1000)
include h1 ht
theorem eG:AFn prog 22 [.agg (Cf p), .agg (DX c k)] (fun r=>r= .tup [.agg (KF (Ge p.rules (NZ p c))), .v (.bool (decide (0≤NZ p c)))]):=by
 refine enter Tryz.func22 rfl rfl rfl rfl rfl 0 rfl ?_;refine w_ (b_ (h:=b_ (h:=Ac (h:=a_ (h:=e_ (w_ (f_ (h:=s_ (h:=f_ (h:=s_ (h:=f_ (h:=s_ (h:=e_ (w_ (f_ (h:=l_ (h:=l_ (h:=?_))))))))))))))))));refine A6 rfl (AJ (Ro p.rules 2 [] (Ue c) k h1 (BU _) ht) ?_);rintro r rfl;refine a_ (h:=e_ (w_ (l_ (h:=m_ (h:=?_)))));refine A6 rfl (AJ (Q8 p _ (Ud _ _) h1) ?_);rintro r rfl;refine m_ (h:=DL (h:=s_ (h:=a_ (h:=e_ (A4 (?_))))));refine A8 ?_;rfl
end
theorem Uf{s:Spc}{a b:AA}(h:Am s.files b=false):decide (a∈BJ s (BT s.files) b)=false:=by
 have e:BJ s (BT s.files) b=[]:=by
  cases BT s.files with
  |zero=>rfl
  |succ k=>unfold BJ;rw[h];rfl
 rw[e];rfl
section
variable {ev:Operand→Option AV}{h:AH}{R:AV→AH→Prop}{d:Option Tmp}{ty:TypeId}{pos:String}{af:Array Edge}{gd:Option (Nat×Bool)}
theorem eH{x ix:Operand}{a b:AA}(j:Nat)(hx:ev x=some (.agg [.v (.int .i64 a.1), .v (.int .i64 a.2), .v (.int .i64 b.1), .v (.int .i64 b.2)]))(hi:ev ix=some (.v (.int .i64 (j:Int))))(hj:j<2)(hR:R (.agg (AD (if j=0 then a else b))) h):AStep prog ⟨d, .index 176 x ix,ty,pos,af,gd⟩ ev h R:=by
 refine Cc (fun _ G w ec _ he=>?_) hR;have h1:=he x (by simp[Op.operands]) _ hx;have h2:=he ix (by simp[Op.operands]) _ hi;simp only[rep]at h1 h2;obtain⟨ys,h3,h4⟩:=h1;simp only[AT,rep]at h4;obtain⟨v1,q1,rfl,rfl,v2,q2,rfl,rfl,v3,q3,rfl,rfl,v4,q4,rfl,rfl,rfl⟩:=h4;have u1:=Tryz.underlying176;have u2:=Tryz.isAgg26;have u3:=Tryz.sizeOf26
 match j,hj with
 |0,_=>
   refine⟨.agg #[.int .i64 a.1, .int .i64 a.2],?_,by simp[rep,AT,AD]⟩;simp[execOp,h2,h3,Instr.index,asIntOf,part]
 |1,_=>
   refine⟨.agg #[.int .i64 b.1, .int .i64 b.2],?_,by simp[rep,AT,AD]⟩;simp[execOp,h2,h3,Instr.index,asIntOf,part]
end
theorem Em{s:Spc}{w:Wch}{d f:AA}{n:AG}(hk:w.kind=1):D4 s w d n f=((!decide (w.file=(0,0))&&decide (w.file=f))||(!decide (n=⟨#[]⟩)&&decide (d=w.dir)&&decide (n=w.name))):=by
 unfold D4;rw[if_pos hk];have e1:decide (w.file≠(0,0))= !decide (w.file=(0,0)):=by simp
 have e2:decide (n≠⟨#[]⟩)= !decide (n=⟨#[]⟩):=by simp
 have e3:decide (f=w.file)=decide (w.file=f):=decide_eq_decide.2 ⟨Eq.symm,Eq.symm⟩;rw[e1,e2,e3]
section
theorem eJ(s:Spc)(w:Wch)(y:Itm)(hs:SpcB s):AFn prog 73 [.agg (Aj s), .agg (CG w), .agg (LV y)] (fun r=>r= .v (.bool (D4 s w y.dir y.name y.file))):=by
 refine enter Tryz.func73 rfl rfl rfl rfl rfl 0 rfl ?_;refine w_ (b_ (h:=b_ (h:=b_ (h:=a_ (h:=e_ (q_ (w_ (f_ (h:=l_ (h:=e_ (Af (w_ (AN (h:=a_ (h:=e_ (?_))))))))))))))));refine A9 rfl (fun hb1=>?_) (fun hb1=>?_)
 ·have hc1:=bp hb1;refine q_ (?_);refine CA (fun S=>S=⟨look [(3, .bp 0 0),(4, .bp 1 0),(5, .bp 2 0),(23, .v (.bool (!decide (w.file=(0,0))&&decide (w.file=y.file))))],⟨[Aj s,CG w,LV y],[]⟩⟩) ?_ ?_
  ·skip
   refine AW (f_ (h:=l_ (h:=Ab (h:=?_))));refine A6 rfl (Ea rfl rfl (by repeat constructor) (by repeat constructor) (fun W=>bW w.file (0,0) W) (by kernel_rfl) ?_);refine m_ (h:=?_);refine AR true rfl rfl (fun hb2=>?_) (fun hb2=>?_)
   ·have hc2:=bp hb2;refine f_ (h:=l_ (h:=f_ (h:=l_ (h:=?_))));refine Av (Ea rfl rfl (by repeat constructor) (by repeat constructor) (fun W=>NQ w.file y.file W) (by kernel_rfl) ?_);refine AB (h:=AQ (?_));refine AK ?_;exact⟨_,rfl,Cw 3 0 rfl⟩
   have hc2:=bp hb2;refine A3 (h:=A3 (h:=A3 (h:=A3 (h:=A3 (h:=AF (h:=AQ (?_)))))));refine AK ?_;exact⟨_,rfl,Cw 3 0 rfl⟩
  rintro S rfl;refine A9 rfl (fun hb3=>?_) (fun hb3=>?_)
  ·have hc3:=bp hb3;refine w_ (a_ (h:=e_ (A4 (A7 (AP (A7 (?_)))))));refine A8 ?_
   first|(exfalso;first|contradiction|omega)|(exact vb (by first|(rw[Em hc1,hc3];simp[*];done)|(rw[Em hc1,hc3];rfl)|(have hj3:j=0∨j=1:=(by omega);rcases hj3 with rfl|rfl<;>simp_all [D4];done)|(simp[D4,hj1 (by omega),hj2 (by omega), *];done)|(simp[D4, *];done)))
  have hc3:=bp hb3;refine AE (w_ (f_ (h:=l_ (h:=Ao (h:=m_ (h:=?_))))));refine AR true rfl rfl (fun hb4=>?_) (fun hb4=>?_)
  ·have hc4:=bp hb4;refine f_ (h:=l_ (h:=f_ (h:=l_ (h:=?_))));refine Av (Ea rfl rfl (by repeat constructor) (by repeat constructor) (fun W=>NQ y.dir w.dir W) (by kernel_rfl) ?_);refine AB (h:=m_ (h:=?_));refine AR true rfl rfl (fun hb5=>?_) (fun hb5=>?_)
   ·have hc5:=bp hb5;refine f_ (h:=l_ (h:=f_ (h:=l_ (h:=AN (h:=AB (h:=a_ (h:=e_ (A4 (AP (A7 (?_)))))))))));refine A8 ?_
    first|(exfalso;first|contradiction|omega)|(exact vb (by first|(rw[Em hc1,hc3];simp[*];done)|(rw[Em hc1,hc3];rfl)|(have hj3:j=0∨j=1:=(by omega);rcases hj3 with rfl|rfl<;>simp_all [D4];done)|(simp[D4,hj1 (by omega),hj2 (by omega), *];done)|(simp[D4, *];done)))
   have hc5:=bp hb5;refine A3 (h:=A3 (h:=A3 (h:=A3 (h:=A3 (h:=AF (h:=a_ (h:=e_ (A4 (AP (A7 (?_)))))))))));refine A8 ?_
   first|(exfalso;first|contradiction|omega)|(exact vb (by first|(rw[Em hc1,hc3];simp[*];done)|(rw[Em hc1,hc3];rfl)|(have hj3:j=0∨j=1:=(by omega);rcases hj3 with rfl|rfl<;>simp_all [D4];done)|(simp[D4,hj1 (by omega),hj2 (by omega), *];done)|(simp[D4, *];done)))
  have hc4:=bp hb4;refine A3 (h:=A3 (h:=A3 (h:=A3 (h:=A3 (h:=AF (h:=m_ (h:=A3 (h:=A3 (h:=A3 (h:=A3 (h:=A3 (h:=AF (h:=a_ (h:=e_ (A4 (AP (A7 (?_))))))))))))))))));refine A8 ?_
  first|(exfalso;first|contradiction|omega)|(exact vb (by first|(rw[Em hc1,hc3];simp[*];done)|(rw[Em hc1,hc3];rfl)|(have hj3:j=0∨j=1:=(by omega);rcases hj3 with rfl|rfl<;>simp_all [D4];done)|(simp[D4,hj1 (by omega),hj2 (by omega), *];done)|(simp[D4, *];done)))
 have hc1:=bp hb1;refine w_ (AN (h:=a_ (h:=e_ (?_))));refine A9 rfl (fun hb6=>?_) (fun hb6=>?_)
 ·have hc6:=bp hb6;refine w_ (f_ (h:=l_ (h:=f_ (h:=l_ (h:=Ab (h:=m_ (h:=e_ (Af (?_)))))))));refine BW (fun m S=>∃j:Nat,j≤2∧m=2 - j∧(0<j→La s w.file y.dir=false)∧(1<j→La s w.file y.file=false)∧S=⟨look [(3, .bp 0 0),(4, .bp 1 0),(5, .bp 2 0),(47, .agg [.v (.int .i64 y.dir.1), .v (.int .i64 y.dir.2), .v (.int .i64 y.file.1), .v (.int .i64 y.file.2)]),(48, .v (.int .i64 (j:Int)))],⟨[Aj s,CG w,LV y],[]⟩⟩) (2) ((wk 3 0)) (⟨0,by omega,rfl,fun q=>by omega,fun q=>by omega,rfl⟩) ?_;rintro m S ⟨j,hj,rfl,hj1,hj2,rfl⟩;refine w_ (B1 (h:=e_ (q_ (?_))));refine A9 rfl (fun hb7=>?_) (fun hb7=>?_)
  ·have hc7:=bp hb7;refine AE (q_ (Af (?_)));refine CA (fun S=>∃z,z=(if j=0 then y.dir else y.file)∧S=⟨look [(3, .bp 0 0),(4, .bp 1 0),(5, .bp 2 0),(8, .bp 3 0),(47, .agg [.v (.int .i64 y.dir.1), .v (.int .i64 y.dir.2), .v (.int .i64 y.file.1), .v (.int .i64 y.file.2)]),(48, .v (.int .i64 (j:Int)))],⟨[Aj s,CG w,LV y,AD z],[]⟩⟩) ?_ ?_
   ·skip
    refine AW (?_);refine A6 rfl (eH j rfl rfl (by omega) ?_);refine Ac (h:=s_ (h:=AQ (?_)));refine AK ?_;exact⟨_,⟨_,rfl,rfl⟩,Az 4 0 rfl rfl rfl rfl ((by repeat (first|exact Sub.nil|refine B0 rfl rfl ?_|refine B3 ?_|refine B4 rfl ?_|refine B5 rfl ?_)))⟩
   rintro S ⟨z,hz,rfl⟩;refine CA (fun S=>S=⟨look [(3, .bp 0 0),(4, .bp 1 0),(5, .bp 2 0),(47, .agg [.v (.int .i64 y.dir.1), .v (.int .i64 y.dir.2), .v (.int .i64 y.file.1), .v (.int .i64 y.file.2)]),(48, .v (.int .i64 (j:Int))),(60, .v (.bool (La s w.file z)))],⟨[Aj s,CG w,LV y],[]⟩⟩) ?_ ?_
   ·skip
    refine AW (l_ (h:=l_ (h:=?_)));refine A6 rfl (AJ (Q3 s z hs) ?_);rintro r rfl;refine m_ (h:=?_);refine AR true rfl rfl (fun hb8=>?_) (fun hb8=>?_)
    ·have hc8:=bp hb8;refine l_ (h:=f_ (h:=l_ (h:=l_ (h:=?_))));refine Av (AJ (Yi s hs w.file z) ?_);rintro r rfl;refine AB (h:=AQ (?_));refine AK ?_;refine⟨_,rfl,Az 3 0 rfl rfl rfl rfl (by repeat (first|exact Sub.nil|refine B0 rfl rfl ?_|(apply Sub.of;(focus exact rfl);(focus exact LeA.of_eq (vb (by first|rfl|exact(Uf ‹_›).symm)));(focus exact rfl))))⟩
    have hc8:=bp hb8;refine A3 (h:=A3 (h:=A3 (h:=A3 (h:=A3 (h:=AF (h:=AQ (?_)))))));refine AK ?_;refine⟨_,rfl,Az 3 0 rfl rfl rfl rfl (by repeat (first|exact Sub.nil|refine B0 rfl rfl ?_|(apply Sub.of;(focus exact rfl);(focus exact LeA.of_eq (vb (by first|rfl|exact(Uf ‹_›).symm)));(focus exact rfl))))⟩
   rintro S rfl;refine A9 rfl (fun hb9=>?_) (fun hb9=>?_)
   ·have hc9:=bp hb9;refine w_ (a_ (h:=e_ (A4 (AP (A7 (A7 (AP (AP (A7 (?_))))))))));refine A8 ?_
    first|(exfalso;first|contradiction|omega)|(exact vb (by first|(rw[Em hc1,hc3];simp[*];done)|(rw[Em hc1,hc3];rfl)|(have hj3:j=0∨j=1:=(by omega);rcases hj3 with rfl|rfl<;>simp_all [D4];done)|(simp[D4,hj1 (by omega),hj2 (by omega), *];done)|(simp[D4, *];done)))
   have hc9:=bp hb9;refine Aw (Al (t_ (AW (BE (h:=m_ (h:=AQ (?_)))))));refine AK ?_;have hj3:j=0∨j=1:=by omega
   refine⟨_,_,?_,⟨j+1,by omega,rfl,?_,?_,rfl⟩,Az 3 0 rfl rfl rfl rfl ((by repeat (first|exact Sub.nil|refine B0 rfl rfl ?_|refine B3 ?_|refine B4 rfl ?_|refine B5 rfl ?_)))⟩
   ·omega
   ·intro _;rcases hj3 with rfl|rfl
    ·rw[if_pos rfl]at hz;rw[←hz];assumption
    exact hj1 (by omega)
   intro q;rcases hj3 with rfl|rfl
   ·omega
   rw[if_neg (by omega)]at hz;rw[←hz];assumption
  have hc7:=bp hb7;refine BL (Ai (Ai (BM (Al (t_ (w_ (a_ (h:=e_ (A4 (?_))))))))));refine A8 ?_
  first|(exfalso;first|contradiction|omega)|(exact vb (by first|(rw[Em hc1,hc3];simp[*];done)|(rw[Em hc1,hc3];rfl)|(have hj3:j=0∨j=1:=(by omega);rcases hj3 with rfl|rfl<;>simp_all [D4];done)|(simp[D4,hj1 (by omega),hj2 (by omega), *];done)|(simp[D4, *];done)))
 have hc6:=bp hb6;refine Aw (Al (t_ (w_ (a_ (h:=e_ (A4 (?_)))))));refine A8 ?_
 first|(exfalso;first|contradiction|omega)|(exact vb (by first|(rw[Em hc1,hc3];simp[*];done)|(rw[Em hc1,hc3];rfl)|(have hj3:j=0∨j=1:=(by omega);rcases hj3 with rfl|rfl<;>simp_all [D4];done)|(simp[D4,hj1 (by omega),hj2 (by omega), *];done)|(simp[D4, *];done)))
end
def qF(s:Spc)(r:Rul)(w:Wch)(x:Itm):Bool:=decide (GL .i64 x.perm r.perm≠0)&&D4 s w x.dir x.name x.file
def Lf(s:Spc)(r:Rul)(w:Wch)(items:List Itm):Bool:=decide (r.watch≠0)&&items.any (qF s r w)
def FC(s:Spc)(p:Pol)(items:List Itm):List Bool:=List.zipWith (fun r w=>Lf s r w items) p.rules p.wats
theorem eK{s:Spc}{p:Pol}{items:List Itm}{j:Nat}{r:Rul}{w:Wch}(hr:p.rules[j]?=some r)(hw:p.wats[j]?=some w):(FC s p items)[j]?=some (Lf s r w items):=by
 simp[FC,List.getElem?_zipWith,hr,hw]
theorem eL{s:Spc}{p:Pol}{items:List Itm}(h:p.wats.length=p.rules.length):(FC s p items).length=p.rules.length:=by simp[FC,h]
theorem Ug{α:Type}(q:α→Bool):∀(l:List α) (i:Nat),decide (0≤Cp (fun _ x=>q x) l i)=l.any q
 |[],_=>rfl
 |x::xs,i=>by
   rw[Cp,List.any_cons];split
   ·rename_i h;rw[h];simp
   rename_i h;rw[Ug q xs (i+1)];simp[h]
def Na(b:Bool):AV:= .v (.bool b)
def HB(L:List Bool)(j:Nat):List AV:=(L.take j++List.replicate (L.length - j) false).map Na
theorem eM(L:List Bool){j:Nat}(h:j≤L.length):(HB L j).length=L.length:=by simp[HB];omega
theorem eN(L:List Bool):HB L 0=List.replicate L.length (.v (.bool false)):=by simp[HB,Na]
theorem eO{L:List Bool}{j:Nat}{b:Bool}(h:L[j]?=some b):(HB L j).set j (.v (.bool b))=HB L (j+1):=by
 obtain⟨hj,e⟩:=Ah.1 h;unfold HB;rw[show(AV.v (.bool b))=Na b from rfl,←List.map_set,List.take_succ_eq_append_getElem hj,e,show L.length - j=(L.length - (j+1))+1 by omega,List.replicate_succ]
 congr 1
 rw[List.set_append_right _ _ (by simp;omega)];simp[show min j L.length=j by omega]
theorem Uh{L:List Bool}{j:Nat}(h:L[j]?=some false):HB L j=HB L (j+1):=by
 obtain⟨hj,e⟩:=Ah.1 h;unfold HB;rw[List.take_succ_eq_append_getElem hj,e,show L.length - j=(L.length - (j+1))+1 by omega,List.replicate_succ,List.append_assoc];rfl
theorem Ui{G:Gh}{w:World}{u:Value}:∀n:Nat,AT G w (List.replicate n (.v u)) (List.replicate n u)
 |0=>by simp[AT]
 |n+1=>by
   simp only[List.replicate_succ,AT,rep];exact⟨_,_,rfl,rfl,Ui n⟩
section
variable {P:Program}{ev:Operand→Option AV}{h:AH}{R:AV→AH→Prop}{d:Option Tmp}{ty:TypeId}{pos:String}{af:Array Edge}{gd:Option (Nat×Bool)}
theorem eQ{T:TypeId}{x y:Operand}{E bytes m k:Nat}{i j:Int}{u:Value}{bx':List (List AV)}[hE:Elm P T E 1 bytes][hzr:Zer P E [.v u]](hx:ev x=some (.v (.int .i64 i)))(hy:ev y=some (.v (.int .i64 j)))(hi:i=(m:Int))(hj:j=(m:Int))(hm0:0<m)(hm:m≤1000000)
    (hset:SnocAt h.bx (List.replicate m (.v u)) k bx') (hR:R (.bs k 0 1 m m) ⟨bx',h.tk⟩):AStep P ⟨d, .makeSlice T x y,ty,pos,af,gd⟩ ev h R:=by
 intro E' G w ec hr he;have k1:=he x (by simp[Op.operands]) _ hx;have k2:=he y (by simp[Op.operands]) _ hy;simp only[rep]at k1 k2;subst hi hj;obtain⟨hu,inf,z,hinf,hz,hzs,hs,hby,hp⟩:=Dp hE.eq;have hw:IntKind.i64.wrap (m:Int)=m:=IntWalk.i64_in _ (by omega)
 have hbig:¬(inf.bytes:Int) * (m:Int)>2 ^ 48:=by
  have h1:inf.bytes * m≤100000 * 1000000:=Nat.mul_le_mul (by rw[hby];exact hE.few) (by omega);have h2:((inf.bytes * m:Nat):Int)≤100000000000:=by omega
  rw[Int.natCast_mul]at h2;omega
 have hneg:¬((m:Int)<0):=by omega
 obtain⟨zs,z1,z2,z3⟩:=hzr.eq;obtain⟨inf',z',k3,k4,k5⟩:=Ls z1;rw[hinf]at k3;injection k3 with k3;subst k3;rw[hz]at k4;injection k4 with k4;subst k4
 obtain⟨v,rfl⟩:∃v,zs=[v]:=by
  match zs,z2 with
  |[v],_=>exact⟨v,rfl⟩
 obtain rfl:v=u:=by simpa using z2
 have hone:v.oneCell'=true:=by simpa using z3
 have hcells:((Array.range (m * 1)).map fun x=>z.cells[x % z.cells.size]!)=(List.replicate m v).toArray:=by
  rw[k5];apply Array.ext
  ·simp
  intro i h1 h2;simp[Nat.mod_one]
 have hrun:(Instr.makeSlice T (.int .i64 m) (.int .i64 m)).run P w= .ok (.slice (some ⟨w.heap.size,0,none⟩) m m) (w.alloc (.cells (List.replicate m v).toArray E)):=by
  rw[←hcells];have h0:¬m=0:=by omega
  have hnb:(inf.bytes:Int) * (m:Int)≤2 ^ 48:=by omega
  simp[Instr.makeSlice,run_underlying hu,asInt,asIntOf,typeInfo,hinf,hw,hneg,sizeOf,hs,h0,newRow,zeroValue,hz];omega
 obtain⟨G',s1,s2,s3⟩:=JT (T:=E) hr (Ui (u:=v) m) (fun q hq=>by rw[List.eq_of_mem_replicate hq];exact hone) hset;simp only[rep]at s3;obtain⟨b',s4,s5⟩:=s3;simp only[execOp,k1,k2,Sem.run_bind,hrun,Result.andThen_ok,Sem.run_pure];refine⟨_,_,G',hR,s1,s2,?_⟩;simp only[rep];injection s5 with s5;injection s5 with s5;injection s5 with s5;exact⟨b',s4,by rw[s5],At _,by unfold maxLen;omega⟩
end
section
theorem eR(s:Spc)(r:Rul)(w:Wch)(x:Itm)(hs:SpcB s):AFn prog 72 [.agg (DW x), .fp (Aa r), .fp (Aj s), .fp (CG w)] (fun y=>y= .v (.bool (qF s r w x))):=by
 refine enter Tryz.func72 rfl rfl rfl rfl rfl 0 rfl ?_;refine w_ (b_ (h:=a_ (h:=e_ (w_ (f_ (h:=l_ (h:=f_ (h:=l_ (h:=MY (h:=Ao (h:=m_ (h:=?_))))))))))));refine AR true rfl rfl (fun hb1=>?_) (fun hb1=>?_)
 ·have hc1:=bp hb1;refine l_ (h:=l_ (h:=l_ (h:=?_)));refine Av (AJ (eJ s w x hs) ?_);rintro r rfl;refine AB (h:=a_ (h:=e_ (A4 (?_))));refine A8 ?_
  first|(exfalso;first|contradiction|omega)|(exact vb (by simp_all [qF]))
 have hc1:=bp hb1;refine A3 (h:=A3 (h:=A3 (h:=A3 (h:=AF (h:=a_ (h:=e_ (A4 (?_))))))));refine A8 ?_
 first|(exfalso;first|contradiction|omega)|(exact vb (by simp_all [qF]))
theorem eS(l:List Itm)(hl:l.length≤1000)(q:Itm→Bool)(f:FuncId)(caps:List AV)[Fun prog f](hcl:Fa caps=true)(hbl:B6 0 0 (.fn f caps)=true)
    (hp:∀x,AFn prog f ([.agg (DW x)]++caps) (fun y=>y= .v (.bool (q x)))):AFn prog 118 [.sl 13 (l.map DW) none, .fn f caps] (fun r=>r= .v (.int .i64 (Cp (fun _ x=>q x) l 0))):=by
 refine enter Tryz.func118 rfl rfl rfl rfl rfl 0 rfl ?_;refine w_ (a_ (h:=e_ (q_ (w_ (m_ (h:=n_ (h:=m_ (h:=e_ (Af (?_))))))))));refine BW (fun m t=>∃j:Nat,j≤l.length∧m=l.length - j∧Cp (fun _ x=>q x) (l.drop j) j=Cp (fun _ x=>q x) l 0∧t=⟨look [(0, .sl 13 (l.map DW) none),(1, .fn f caps),(7, .v (.int .i64 ((l.map DW).length:Int))),(8, .v (.int .i64 (j:Int)))],⟨[],[]⟩⟩) (l.length) (Az 0 0 rfl rfl rfl rfl (by repeat (first|exact Sub.nil|refine B0 rfl rfl ?_|refine Sub.cons _ _ _ rfl hbl ?_|refine B3 ?_|refine B4 rfl ?_|refine B5 rfl ?_))) (⟨0,by omega,rfl,rfl,rfl⟩) ?_;rintro m t ⟨j,hj,rfl,ha,rfl⟩;refine w_ (B1 (h:=e_ (q_ (?_))));refine A9 rfl (fun hb1=>?_) (fun hb1=>?_)
 ·have hc1:=bp hb1;obtain⟨hlt,x,hy,hrow, -⟩:=Bv DW hc1;refine AE (q_ (Af (w_ (m_ (h:=a_ (h:=e_ (w_ (m_ (h:=m_ (h:=m_ (h:=i_ (h:=l_ (h:=?_)))))))))))));refine A6 rfl (O3 (cy:=[]) rfl (by repeat (first|exact Args.nil|refine Args.cons _ _ _ _ _ rfl (Fb rfl) ?_|refine Args.cons _ _ _ _ _ rfl (GH _) ?_|refine Args.cons _ _ _ _ _ rfl (Fx _) ?_|refine Args.cons _ _ _ _ _ rfl (GM rfl (by repeat (first|exact AX _|exact LeA.nil _|exact LeL.refl _|refine LeA.agg ?_|refine LeA.tup ?_|exact LeL.nil|refine LeL.cons ?_ ?_|exact LeA.any _))) ?_)) hcl rfl (hp x) ?_);rintro y rfl;refine e_ (?_);refine A9 rfl (fun hb2=>?_) (fun hb2=>?_)
  ·have hc2:=bp hb2;refine w_ (m_ (h:=a_ (h:=e_ (A4 (AP (A7 (A7 (AP (A7 (?_))))))))));refine A8 ?_
   first|(exfalso;first|contradiction|omega)|(exact vi (by rw[←ha,Jd hy,if_pos hc2]))
  have hc2:=bp hb2;refine Aw (Al (t_ (AW (BE (h:=m_ (h:=AQ (?_)))))));refine AK ?_;refine⟨_,_,?_,⟨j+1,by omega,rfl,(by rw[←ha,Jd hy];simp[*]),rfl⟩,Az 0 0 rfl rfl rfl rfl (by repeat (first|exact Sub.nil|refine B0 rfl rfl ?_|refine Sub.cons _ _ _ rfl hbl ?_|refine B3 ?_|refine B4 rfl ?_|refine B5 rfl ?_))⟩;omega
 have hc1:=bp hb1;have e3:=CM DW hj hc1;subst e3;refine BL (Ai (Ai (BM (t_ (w_ (a_ (h:=e_ (A4 (?_)))))))));refine A8 ?_
 first|(exfalso;first|contradiction|omega)|(exact vi (by rw[←ha,OW]))
theorem eT(l:List Itm)(hl:l.length≤1000)(q:Itm→Bool)(f:FuncId)(caps:List AV)[Fun prog f](hcl:Fa caps=true)(hbl:B6 0 0 (.fn f caps)=true)
    (hp:∀x,AFn prog f ([.agg (DW x)]++caps) (fun y=>y= .v (.bool (q x)))):AFn prog 71 [.sl 13 (l.map DW) none, .fn f caps] (fun r=>r= .v (.bool (l.any q))):=by
 refine enter Tryz.func71 rfl rfl rfl rfl rfl 0 rfl ?_;refine w_ (a_ (h:=e_ (w_ (m_ (h:=m_ (h:=?_))))));refine A6 rfl (Qj rfl (by repeat (first|exact Args.nil|refine Args.cons _ _ _ _ _ rfl (Fb (by first|rfl|exact hcl)) ?_)) (eS l hl q f caps hcl hbl hp) ?_);rintro y rfl;refine DL (h:=a_ (h:=e_ (A4 (?_))));refine A8 ?_;exact vb (Ug q l 0)
end
theorem Uj:RowF 1 Ef:=⟨fun _=>rfl,fun b y hy=> .inl ⟨.bool b,by simpa[Ef]using hy⟩,by decide⟩
theorem Uk:∀L:List Bool,(L.map Ef).flatten=L.map Na
 |[]=>rfl
 |x::xs=>by simp only[List.map_cons,List.flatten_cons,Uk xs];rfl
theorem Ul{L:List Bool}{j:Nat}(h:j≤L.length):HB L j=LB 1 Ef (L.take j++List.replicate (L.length - j) false) L.length:=by
 unfold LB C7 HB;rw[Uk];simp;omega
theorem eU(L:List Bool):HB L L.length=LB 1 Ef L L.length:=by
 rw[Ul (At _)];simp
theorem Lg{L:List Bool}{j n m:Nat}(h:j≤L.length):BD n m (HB L j)=true:=by rw[Ul h];exact ZO Uj
theorem eV{L:List Bool}{j:Nat}{b:Bool}(h:L[j]?=some b):SetAt (HB L j) (0+j * 1) (CS (.v (.bool b))) (HB L (j+1)):=by
 have hj:j<L.length:=(Ah.1 h).1;rw[←eO h,show 0+j * 1=j by omega];exact SetAt.put1 (by rw[eM L (by omega)];exact hj)
section
theorem eW(s:Spc)(p:Pol)(items:List Itm)(h0:p.rules=[]):AFn prog 32 [.agg (Cf p), .agg (Aj s), .sl 13 (items.map DW) none] (fun r=>r= .sl 1 ((FC s p items).map Ef) none):=by
 rw[show FC s p items=[] by simp[FC,h0],show Cf p=[.sl 8 [] none, .sl 6 (p.wats.map CG) none] by simp[Cf,h0]];refine enter Tryz.func32 rfl rfl rfl rfl rfl 0 rfl ?_;refine w_ (b_ (h:=b_ (h:=a_ (h:=e_ (w_ (f_ (h:=l_ (h:=n_ (h:=?_)))))))));refine A6 rfl (O4 rfl rfl (by decide) (by repeat constructor) ?_);refine a_ (h:=e_ (q_ (w_ (f_ (h:=l_ (h:=n_ (h:=m_ (h:=e_ (Af (?_))))))))));refine BW (fun n S=>n=0∧S=⟨look [(7, .sl 1 [] (some 0)),(17, .v (.int .i64 0)),(18, .v (.int .i64 0))],⟨[[.sl 8 [] none, .sl 6 (p.wats.map CG) none],Aj s],[(4,1,[])]⟩⟩) (0) ((wk 2 1)) (⟨rfl,rfl⟩) ?_;rintro n S ⟨rfl,rfl⟩;refine w_ (B1 (h:=e_ (q_ (?_))));refine A9 rfl (fun hb1=>?_) (fun hb1=>?_)
 ·have hc1:=bp hb1;simp at hc1
 have hc1:=bp hb1;refine BL (Ai (Ai (BM (t_ (w_ (m_ (h:=a_ (h:=e_ (A4 (?_))))))))));refine A8 ?_;rfl
theorem eX(s:Spc)(p:Pol)(items:List Itm)(hs:SpcB s)(h0:0<p.rules.length)(h1:p.rules.length≤1000)(h2:p.wats.length=p.rules.length)(hit:items.length≤1000)(L:List Bool)(hL:FC s p items=L):AFn prog 32 [.agg (Cf p), .agg (Aj s), .sl 13 (items.map DW) none] (fun r=>r= .sl 1 (L.map Ef) none):=by
 have hlen:L.length=p.rules.length:=by rw[←hL];exact eL h2
 refine enter Tryz.func32 rfl rfl rfl rfl rfl 0 rfl ?_;refine w_ (b_ (h:=b_ (h:=a_ (h:=e_ (w_ (f_ (h:=l_ (h:=n_ (h:=?_)))))))));refine A6 rfl (eQ (m:=L.length) rfl rfl (by simp[hlen]) (by simp[hlen]) (by omega) (by omega) (by repeat constructor) ?_);refine a_ (h:=e_ (q_ (w_ (f_ (h:=l_ (h:=n_ (h:=m_ (h:=e_ (Af (?_))))))))));refine BW (fun n S=>∃j:Nat,j≤p.rules.length∧n=p.rules.length - j∧S=⟨look [(2, .sl 13 (items.map DW) none),(3, .bp 0 0),(4, .bp 1 0),(7, .bs 2 0 1 L.length L.length),(16, .sl 8 (p.rules.map Aa) none),(17, .v (.int .i64 ((p.rules.map Aa).length:Int))),(18, .v (.int .i64 (j:Int)))],⟨[Cf p,Aj s,HB L j],[]⟩⟩) (p.rules.length) (by rw[←eN];exact C0 3 0 (by simp[BH,Lg,Cf,Aj,BD,B6])) (⟨0,BU _,rfl,rfl⟩) ?_;rintro n S ⟨j,hj,rfl,rfl⟩;refine w_ (B1 (h:=e_ (q_ (?_))));refine A9 rfl (fun hb1=>?_) (fun hb1=>?_)
 ·have hc1:=bp hb1;obtain⟨hlt,r,hy,hrow, -⟩:=Bv Aa hc1;obtain⟨w,hyw⟩:∃w,p.wats[j]?=some w:=⟨_,BR (by omega)⟩;have hLj:=eK (s:=s) (items:=items) hy hyw;rw[hL]at hLj;refine AE (q_ (Af (w_ (m_ (h:=i_ (h:=l_ (h:=Ac (h:=a_ (h:=s_ (h:=e_ (q_ (w_ (f_ (h:=l_ (h:=AN (h:=e_ (?_)))))))))))))))));refine A9 rfl (fun hb2=>?_) (fun hb2=>?_)
  ·have hc2:=bp hb2;have hb0:L[j]?=some false:=by rw[hLj];simp_all [Lf]
   refine BL (Ai (BM (t_ (AW (BE (h:=m_ (h:=AQ (?_))))))));refine AK ?_;refine⟨_,_,?_,⟨j+1,by omega,rfl,rfl⟩,?_⟩
   ·omega
   first|(rw[←Uh hb0];exact C0 3 0 (by simp[BH,Lg (L:=L) (j:=j) (by omega),Cf,Aj,BD,B6]))|exact C0 3 0 (by simp[BH,Lg (L:=L) (j:=j+1) (by omega),Cf,Aj,BD,B6])
  have hc2:=bp hb2;have hb2:L[j]?=some (items.any (qF s r w)):=by rw[hLj];simp_all [Lf]
  refine AE (w_ (l_ (h:=m_ (h:=?_))));refine A6 rfl (AJ (dC p j w (by omega) hyw) ?_);rintro r rfl;refine Ac (h:=s_ (h:=e_ (AW (m_ (h:=m_ (h:=m_ (h:=OK (h:=?_))))))));refine A6 rfl (O9 rfl (by repeat (first|exact ArgsL.nil|refine ArgsL.cons _ _ _ _ _ rfl rfl ?_)) (eT items hit (qF s r w) 72 [.fp (Aa r), .fp (Aj s), .fp (CG w)] rfl rfl fun x=>eR s r w x hs) ?_);rintro x rfl;refine⟨rfl,?_⟩;refine A6 rfl (DJ (m:=j) rfl rfl rfl (by omega) ?_);refine MC (Bd (row':=HB L (j+1)) rfl rfl rfl rfl rfl rfl (eV hb2) (by repeat constructor) ?_);refine AQ (Al (t_ (AW (BE (h:=m_ (h:=AQ (?_)))))));refine AK ?_;refine⟨_,_,?_,⟨j+1,by omega,rfl,rfl⟩,?_⟩
  ·omega
  first|(rw[←Uh hb0];exact C0 3 0 (by simp[BH,Lg (L:=L) (j:=j) (by omega),Cf,Aj,BD,B6]))|exact C0 3 0 (by simp[BH,Lg (L:=L) (j:=j+1) (by omega),Cf,Aj,BD,B6])
 have hc1:=bp hb1;have e:=CM Aa hj hc1;subst e;refine BL (Ai (Ai (BM (t_ (?_)))));refine CA (fun S=>S=⟨look [(6, .sl 1 (L.map Ef) none)],⟨[Cf p,Aj s],[]⟩⟩) ?_ ?_
 ·skip
  refine AW (m_ (h:=a_ (h:=AQ (?_))));refine AK ?_;rw[←hlen,eU];exact⟨_,rfl,Ew 2 1 rfl rfl (.cons _ _ _ _ rfl (LeA.of_eq (ZQ Uj rfl rfl (At _))) .nil)⟩
 rintro S rfl;refine A4 (?_);refine A8 ?_;rfl
end
def Q9(c:Ctx):Ctx:={c with phase:=2}
def Nb(s:Spc)(p:Pol)(c:Ctx):Int:=Cp (H7 3 (FC s p c.items) (Q9 c)) p.rules 0
def Hh(s:Spc)(p:Pol)(c:Ctx):Vdt:=if c.audited=false then Le else if 0≤NZ p c then Ge p.rules (NZ p c)else Ge p.rules (Nb s p c)
section
theorem eY(s:Spc)(p:Pol)(items:List Itm)(hs:SpcB s)(h1:p.rules.length≤1000)(h2:p.wats.length=p.rules.length)(hit:items.length≤1000):AFn prog 32 [.agg (Cf p), .agg (Aj s), .sl 13 (items.map DW) none] (fun r=>r= .sl 1 ((FC s p items).map Ef) none):=by
 rcases Nat.eq_zero_or_pos p.rules.length with h0|h0
 ·exact eW s p items (Cj h0)
 exact eX s p items hs h0 h1 h2 hit _ rfl
variable (s:Spc)(p:Pol)(c:Ctx)(k:Cxs)(hs:SpcB s)(h1:p.rules.length≤1000)(h2:p.wats.length=p.rules.length)(ht:∀r∈p.rules,r.tests.length≤1000)(hit:c.items.length≤1000)
include hs h1 h2 ht hit
theorem eZ:AFn prog 24 [.agg (Cf p), .agg (Aj s), .agg (DX c k)] (fun r=>r= .agg (KF (Ge p.rules (Nb s p c)))):=by
 refine enter Tryz.func24 rfl rfl rfl rfl rfl 0 rfl ?_;refine w_ (b_ (h:=b_ (h:=b_ (h:=Ac (h:=e_ (w_ (f_ (h:=s_ (h:=e_ (q_ (CE ([(0,Cf p),(1,Aj s),(2,DX (Q9 c) k)]) 12 (h:=AY 0 (h:=Ay 1 (h:=AY 2 (h:=AY 3 (h:=AY 4 (h:=Ay 5 (h:=AY 6 (h:=AY 8 (h:=?_))))))))))))))))))));refine c_ 7 rfl (AJ (eY s p c.items hs h1 h2 hit) ?_);rintro r rfl;refine o_ (h:=?_);refine c_ 9 rfl (AJ (Ro p.rules 3 (FC s p c.items) (Q9 c) k h1 hit ht) ?_);rintro r rfl;refine o_ (h:=?_);refine c_ 10 rfl (AJ (Q8 p (Nb s p c) (Ud _ _) h1) ?_);rintro r rfl;refine o_ (h:=?_);refine Bm 11 rfl (Bd rfl rfl rfl rfl rfl rfl (by repeat constructor) (by repeat constructor) ?_);refine o_ (h:=z_ (h:=t_ (A4 (?_))));refine A8 ?_;rfl
theorem Um:AFn prog 26 [.agg (Cf p), .agg (Aj s), .agg (DX c k)] (fun r=>r= .agg (KF (Hh s p c))):=by
 refine enter Tryz.func26 rfl rfl rfl rfl rfl 0 rfl ?_;refine w_ (b_ (h:=b_ (h:=b_ (h:=Ac (h:=e_ (q_ (w_ (f_ (h:=f_ (h:=l_ (h:=BB (h:=e_ (?_)))))))))))));refine A9 rfl (fun hb1=>?_) (fun hb1=>?_)
 ·have hc1:=bp hb1;have k1:c.audited=false:=by simpa using hc1
  refine w_ (l_ (h:=?_));refine A6 rfl (AJ (Q8 p (-1) (.inl (by decide)) h1) ?_);rintro r rfl;refine s_ (h:=e_ (A4 (A7 (?_))));refine A8 ?_;rw[Hh,if_pos k1,←Ua (l:=p.rules) (i:= -1) (by decide)];rfl
 have hc1:=bp hb1;have k1:¬c.audited=false:=by simpa using hc1
 refine AE (q_ (w_ (l_ (h:=l_ (h:=?_)))));refine A6 rfl (AJ (eG p c k h1 ht) ?_);rintro r rfl;refine m_ (h:=x_ (h:=x_ (h:=Ac (h:=s_ (h:=a_ (h:=e_ (w_ (m_ (h:=e_ (?_))))))))));refine A9 rfl (fun hb2=>?_) (fun hb2=>?_)
 ·have hc2:=bp hb2;refine w_ (l_ (h:=s_ (h:=e_ (A4 (A7 (?_))))));refine A8 ?_;rw[Hh,if_neg k1,if_pos (by simpa using hc2)];rfl
 have hc2:=bp hb2;refine AE (w_ (l_ (h:=l_ (h:=l_ (h:=?_)))));refine A6 rfl (AJ (eZ s p c k hs h1 h2 ht hit) ?_);rintro r rfl;refine s_ (h:=e_ (A4 (?_)));refine A8 ?_;rw[Hh,if_neg k1,if_neg (by simpa using hc2)];rfl
variable (hv:SpcV s)
include hv
end
def Nc:Rul:=⟨2,2,1,[⟨3,1,0,⟨#[]⟩,0⟩],0,⟨#[]⟩,0,⟨#[]⟩⟩
def Nd:Rul:=⟨3,1,1,[],0,⟨#[]⟩,0,⟨#[107]⟩⟩
def FD:List Rul:=[Nc,Nd]
def FE:Pol:=⟨FD,[DP,DP]⟩
def Gf(u:Int):Ctx:={d8 u with audited:=true}
theorem Un:∀r∈FD,Cb r:=by
 intro r hr;simp[FD]at hr;rcases hr with rfl|rfl<;>exact⟨by decide,by decide,by decide,by decide⟩
theorem f6(s:Spc):D5 s FD=(FE,0):=by
 have hp:∀r∈FD,CD s r=(DP,0):=by
  intro r hr;simp[FD]at hr;rcases hr with rfl|rfl<;>exact if_pos rfl
 rw[NV (by decide) fun r hr=>by rw[hp r hr]]
 have:D6 s FD=[DP,DP]:=by
  simp[D6,FD,hp Nc (by simp[FD]),hp Nd (by simp[FD])]
 rw[this];rfl
theorem f8(s:Spc):Hh s FE (Gf 0)=⟨false,0,⟨#[]⟩⟩:=by
 rw[Hh,if_neg (by decide),if_pos (by decide)];decide
theorem f9(s:Spc):Hh s FE (Gf 5)=⟨true,1,⟨#[107]⟩⟩:=by
 rw[Hh,if_neg (by decide),if_neg (by decide),Nb];rw[show FC s FE (Gf 5).items=[false,false] by simp[FC,FE,FD,Nc,Nd,Lf]];decide
theorem fA:(Fm 1).2=0:=by decide+kernel
section
theorem Uo:AFn prog 34 [] (fun x=>x= .v (.bool true)):=by
 have hnew:AFn prog 60 [.v (.int .i64 1)] (fun r=>r= .tup [.agg (Tf (Fm 1).1), .v (.int .i64 0)]):=(bS 1).mono fun r hr=>by rw[hr,NP,fA]
 have hv:=UQ.1.v;have hm:=UQ.1.m;obtain⟨S0,hS0⟩:∃S,S=(Fm 1).1:=⟨_,rfl⟩;rw[←hS0]at hnew hv hm;clear hS0;have hmm:S0.spc.mounts.length≤1000:=by omega
 have ht:∀r∈FE.rules,r.tests.length≤1000:=fun r hr=>(Un r hr).2.2.2;have hload:AFn prog 41 [.sl 8 (FD.map Aa) none, .agg (Aj S0.spc)] (fun r=>r= .tup [.agg (Cf FE), .v (.int .i64 0)]):=(UP S0.spc FD hv hmm (by decide) Un).mono fun r hr=>by rw[hr,f6];rfl
 have hd0:AFn prog 26 [.agg (Cf FE), .agg (Aj S0.spc), .agg (DX (Gf 0) KD)] (fun r=>r= .agg [.v (.bool false), .v (.int .i64 0), .v (.string ⟨#[]⟩)]):=(Um S0.spc FE (Gf 0) KD (hv.b hmm) (by decide) rfl ht (by decide)).mono fun r hr=>by rw[hr,f8];rfl
 have hd5:AFn prog 26 [.agg (Cf FE), .agg (Aj S0.spc), .agg (DX (Gf 5) KD)] (fun r=>r= .agg [.v (.bool true), .v (.int .i64 1), .v (.string ⟨#[107]⟩)]):=(Um S0.spc FE (Gf 5) KD (hv.b hmm) (by decide) rfl ht (by decide)).mono fun r hr=>by rw[hr,f9];rfl
 refine enter Tryz.func34 rfl rfl rfl rfl rfl 0 rfl ?_;refine w_ (a_ (h:=e_ (w_ (?_))));refine A6 rfl (AJ (hnew) ?_);rintro r rfl;refine m_ (h:=x_ (h:=x_ (h:=Ac (h:=s_ (h:=a_ (h:=e_ (w_ (Ab (h:=Bo (h:=?_))))))))));refine A6 rfl (Gw (y:= .agg (Aa Nc)) (E0 ⟨rfl,rfl⟩) ?_);refine A6 rfl (Gw (y:= .agg (Aa Nd)) (E0 ⟨rfl,rfl⟩) ?_);refine Bo (h:=a_ (h:=e_ (w_ (m_ (h:=f_ (h:=l_ (h:=?_)))))));refine A6 rfl (AJ (hload) ?_);rintro r rfl;refine m_ (h:=x_ (h:=x_ (h:=Ac (h:=s_ (h:=a_ (h:=e_ (w_ (l_ (h:=f_ (h:=l_ (h:=Ab (h:=?_))))))))))));refine A6 rfl (Gw (y:= .agg (DX (Gf 0) KD)) (E0 ⟨rfl,rfl⟩) ?_);refine A6 rfl (AJ (hd0) ?_);rintro r rfl;refine Ac (h:=s_ (h:=e_ (w_ (l_ (h:=f_ (h:=l_ (h:=Ab (h:=?_))))))));refine A6 rfl (Gw (y:= .agg (DX (Gf 5) KD)) (E0 ⟨rfl,rfl⟩) ?_);refine A6 rfl (AJ (hd5) ?_);rintro r rfl;refine Ac (h:=s_ (h:=e_ (w_ (m_ (h:=AN (h:=m_ (h:=?_)))))));refine AR true rfl rfl (fun hb1=>?_) (fun hb1=>?_)
 ·have hc1:=bp hb1;refine f_ (h:=l_ (h:=BB (h:=AB (h:=m_ (h:=?_)))));refine AR true rfl rfl (fun hb2=>?_) (fun hb2=>?_)
  ·have hc2:=bp hb2;refine f_ (h:=l_ (h:=AN (h:=AB (h:=m_ (h:=?_)))));refine AR true rfl rfl (fun hb3=>?_) (fun hb3=>?_)
   ·have hc3:=bp hb3;refine f_ (h:=l_ (h:=AB (h:=m_ (h:=?_))));refine AR true rfl rfl (fun hb4=>?_) (fun hb4=>?_)
    ·have hc4:=bp hb4;refine f_ (h:=l_ (h:=AN (h:=AB (h:=m_ (h:=?_)))));refine AR true rfl rfl (fun hb5=>?_) (fun hb5=>?_)
     ·have hc5:=bp hb5;refine f_ (h:=l_ (h:=AN (h:=AB (h:=a_ (h:=e_ (A4 (?_)))))));refine A8 ?_
      first|rfl|(exfalso;first|contradiction|omega)|exact vb (by simp)
     have hc5:=bp hb5;refine A3 (h:=A3 (h:=A3 (h:=AF (h:=a_ (h:=e_ (A4 (?_)))))));refine A8 ?_
     first|rfl|(exfalso;first|contradiction|omega)|exact vb (by simp)
    have hc4:=bp hb4;refine A3 (h:=A3 (h:=A3 (h:=AF (h:=m_ (h:=A3 (h:=A3 (h:=A3 (h:=AF (h:=a_ (h:=e_ (A4 (?_))))))))))));refine A8 ?_
    first|rfl|(exfalso;first|contradiction|omega)|exact vb (by simp)
   have hc3:=bp hb3;refine A3 (h:=A3 (h:=AF (h:=m_ (h:=A3 (h:=A3 (h:=A3 (h:=AF (h:=m_ (h:=A3 (h:=A3 (h:=A3 (h:=AF (h:=a_ (h:=e_ (A4 (?_))))))))))))))));refine A8 ?_
   first|rfl|(exfalso;first|contradiction|omega)|exact vb (by simp)
  have hc2:=bp hb2;refine A3 (h:=A3 (h:=A3 (h:=AF (h:=m_ (h:=A3 (h:=A3 (h:=AF (h:=m_ (h:=A3 (h:=A3 (h:=A3 (h:=AF (h:=m_ (h:=A3 (h:=A3 (h:=A3 (h:=AF (h:=a_ (h:=e_ (A4 (?_)))))))))))))))))))));refine A8 ?_
  first|rfl|(exfalso;first|contradiction|omega)|exact vb (by simp)
 have hc1:=bp hb1;refine A3 (h:=A3 (h:=A3 (h:=AF (h:=m_ (h:=A3 (h:=A3 (h:=A3 (h:=AF (h:=m_ (h:=A3 (h:=A3 (h:=AF (h:=m_ (h:=A3 (h:=A3 (h:=A3 (h:=AF (h:=m_ (h:=A3 (h:=A3 (h:=A3 (h:=AF (h:=a_ (h:=?_))))))))))))))))))))))));refine e_ (A4 (?_));refine A8 ?_
 first|rfl|(exfalso;first|contradiction|omega)|exact vb (by simp)
end
structure SmP(p:Pol):Prop where
 rl:p.rules.length≤1000
 wl:p.wats.length≤1000
 ts:∀r∈p.rules,r.tests.length≤1000
theorem SmP.nil:SmP Fo:=⟨by decide,by decide,by simp[Fo]⟩
theorem PolOk.sm{s:Spc}{p:Pol}{n:Nat}(h:PolOk s p n)(hn:n≤1000):SmP p:=⟨Nat.le_trans h.lst.len hn,by rw[h.len];exact Nat.le_trans h.lst.len hn,fun r hr=>(h.lst.ins r hr).2.2.2⟩
end Go.Proofs.YtbgnigjfkbmceaaGreatDoor
