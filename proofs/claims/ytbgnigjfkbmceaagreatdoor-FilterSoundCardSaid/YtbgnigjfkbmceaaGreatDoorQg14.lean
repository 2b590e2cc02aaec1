/-
  Part 14 of the proof of FilterSoundP: what the statement's proof uses of the texts in wip/tpl.
-/
import Derived.Test.YtbgnigjfkbmceaaGreatDoorQg13
open Go.Proofs.Tryz (prog)
set_option maxRecDepth 10000
set_option maxHeartbeats 4000000
set_option linter.unusedVariables false
set_option linter.unusedSimpArgs false
namespace Go.Proofs.YtbgnigjfkbmceaaGreatDoor
open Go.RowKit
set_option maxRecDepth 10000 in
set_option maxHeartbeats 2000000 in
theorem fK(op:BinOp)(x y:Wch)(w:World)(h:op= .eql∨op= .neq):(binOp op 93 (.agg (Lt x).toArray) (.agg (Lt y).toArray)).run prog w= .ok (.bool (decide (x=y)==decide (op= .eql))) w:=by
 have u3:=Tryz.underlying3;have a3:=Tryz.isAgg3;have z3:=Tryz.sizeOf3;have u9:=Tryz.underlying9;have a9:=Tryz.isAgg9;have z9:=Tryz.sizeOf9;have u5:=Tryz.underlying26;have a5:=Tryz.isAgg26;have z5:=Tryz.sizeOf26;have hS:prog.underlying 93=some (.struct (prog.fieldsOf 93)):=by kernel_rfl
 have hp:prog.stoodInHeld 93=false:=by kernel_rfl
 have hSF:prog.underlying 26=some (.struct (prog.fieldsOf 26)):=by kernel_rfl
 have hpF:prog.stoodInHeld 26=false:=by kernel_rfl
 have eF:∀(d:Nat) (a b a' b':Int) (w:World),(Op.equalIn (d+2) 26 (.agg #[.int .i64 a, .int .i64 b]) (.agg #[.int .i64 a', .int .i64 b'])).run prog w= .ok (a==a'&&b==b') w:=by
  intro d a b a' b' w;rw[run_equalIn_agg w (d+1) 26 _ _ hSF hpF];simp only[Program.fieldsOf,Tryz.underlying26]
  go_simp
  by_cases h1:a=a'<;>by_cases h2:b=b'<;>simp[h1,h2]
 obtain⟨k,⟨d1,d2⟩,n,⟨f1,f2⟩⟩:=x;obtain⟨k',⟨d1',d2'⟩,n',⟨f1',f2'⟩⟩:=y
 have hn:¬n=n'→¬n.toList=n'.toList:=fun h e=>by
  have:=Ve n n';rw[e]at this;simp[h]at this
 have e:∀w,(Op.equalIn 10000 93 (.agg (Lt ⟨k,(d1,d2),n,(f1,f2)⟩).toArray) (.agg (Lt ⟨k',(d1',d2'),n',(f1',f2')⟩).toArray)).run prog w= .ok (decide (Wch.mk k (d1,d2) n (f1,f2)=Wch.mk k' (d1',d2') n' (f1',f2'))) w:=by
  intro w;rw[show(10000:Nat)=9999+1 from rfl,run_equalIn_agg w 9999 93 _ _ hS hp];simp only[Program.fieldsOf,Tryz.underlying93,Lt]
  go_simp
  by_cases h1:k=k'<;>by_cases h2:d1=d1'<;>by_cases h3:d2=d2'<;>by_cases h4:n=n'<;>by_cases h5:f1=f1'<;>by_cases h6:f2=f2'<;>first|(simp[h1,h2,h3,h4,h5,h6];done)|(simp[h1,h2,h3,h4,h5,h6];exact hn h4)
 rcases h with rfl|rfl
 ·rw[run_eql_struct,e];simp
 rw[run_neq_struct,e];simp
theorem Vp{ev:Operand→Option AV}{h:AH}{R:AV→AH→Prop}{d:Option Tmp}{ty:TypeId}{pos:String}{af:Array Edge}{gd:Option (Nat×Bool)}{yT:TypeId}{x y:Operand}(a b:Wch)(hx:ev x=some (.agg (BR a)))(hy:ev y=some (.agg (BR b)))(hR:R (.v (.bool (!decide (a=b)))) h):AStep prog ⟨d, .binOp .neq 93 x y yT,ty,pos,af,gd⟩ ev h R:=
 Ff hx hy (Vo a) (Vo b) (fun w=>(fK .neq a b w (.inr rfl)).trans (by simp)) (by kernel_rfl) hR
theorem P3{s:Spc}{p:Pol}{j:Nat}{r:Rul}{w:Wch}(hr:p.rules[j]?=some r)(hw:p.wats[j]?=some w)(ha:∀i r w,i<j→p.rules[i]?=some r→p.wats[i]?=some w→DZ s r w=true)(h:DZ s r w=true):∀i r w,i<j+1→p.rules[i]?=some r→p.wats[i]?=some w→DZ s r w=true:=by
 intro i r' w' hi h1 h2;rcases Nat.lt_or_ge i j with c|c
 ·exact ha i r' w' c h1 h2
 obtain rfl:i=j:=by omega
 rw[hr]at h1;rw[hw]at h2;cases h1;cases h2;exact h
theorem Vq{s:Spc}{p:Pol}(h:CN p.rules≠0):Hi s p=false:=by simp[Hi,h]
theorem Vr{s:Spc}{p:Pol}(h:p.wats.length≠p.rules.length):Hi s p=false:=by simp[Hi,h]
theorem Lu{s:Spc}{p:Pol}{j:Nat}{r:Rul}{w:Wch}(hr:p.rules[j]?=some r)(hw:p.wats[j]?=some w)(h:DZ s r w=false):Hi s p=false:=by
 have:((p.rules.zip p.wats).all fun x=>DZ s x.1 x.2)=false:=by
  rw[List.all_eq_false];refine⟨(r,w),AT (i:=j) ?_,by simp[h]⟩;rw[List.getElem?_zip_eq_some];exact⟨hr,hw⟩
 simp[Hi,this]
theorem RY{s:Spc}{p:Pol}(h1:CN p.rules=0)(h2:p.wats.length=p.rules.length)(ha:∀i r w,i<p.rules.length→p.rules[i]?=some r→p.wats[i]?=some w→DZ s r w=true):Hi s p=true:=by
 have:((p.rules.zip p.wats).all fun x=>DZ s x.1 x.2)=true:=by
  rw[List.all_eq_true];rintro⟨r,w⟩ hx;obtain⟨i,hi⟩:=List.getElem?_of_mem hx;rw[List.getElem?_zip_eq_some]at hi;exact ha i r w (AP.1 hi.1).1 hi.1 hi.2
 simp[Hi,h1,h2,this]
section
variable (s:Spc)(p:Pol)(hs:SpcB s)(h1:p.rules.length≤1000)(h2:p.wats.length≤1000)(hi:∀r∈p.rules,DJ r)(hn:∀w∈p.wats,w.name.size≤100000)
include hs h1 hi
theorem Lv:AFn prog 44 [.agg (Au p), .agg (AQ s)] (fun r=>r= .v (.bool (Hi s p))):=by
 refine enter Tryz.func44 rfl rfl rfl rfl rfl 0 rfl ?_;refine Dg (h:=F7 (h:=?_));refine A3 rfl (AA (Vg p.rules h1 hi) ?_);rintro r rfl;refine E7 (h:=?_);refine AF false rfl rfl (fun hb1 hc1=>?_) (fun hb1 hc1=>?_)
 ·have k1:CN p.rules≠0:=by simpa using hc1
  refine BF (h:=Ce (h:=e_ (GO (h:=?_))));refine A4 ?_
  first|(exfalso;first|contradiction|omega)|(exact vb (by exact(Vq k1).symm))
 have k1:CN p.rules=0:=by simpa using hc1
 refine Ct (h:=Ct (h:=Gs (h:=C1 (h:=?_))));refine A6 rfl (fun hb2 hc2=>?_) (fun hb2 hc2=>?_)
 ·have k2:p.wats.length≠p.rules.length:=by simp at hc2;omega
  refine Bd (h:=?_);refine A4 ?_
  first|(exfalso;first|contradiction|omega)|(exact vb (by exact(Vr k2).symm))
 have hlen:p.wats.length=p.rules.length:=by simp at hc2;omega
 refine D0 (h:=Fm (h:=e_ (BL (?_))));refine BX (fun n S=>∃j:Nat,j≤p.rules.length∧n=p.rules.length - j∧(∀i r w,i<j→p.rules[i]?=some r→p.wats[i]?=some w→DZ s r w=true)∧S=⟨look [(2, .bp 0 0),(3, .bp 1 0),(22, .sl 8 (p.rules.map AJ) none),(23, .v (.int .i64 ((p.rules.map AJ).length:Int))),(24, .v (.int .i64 (j:Int)))],⟨[Au p,AQ s],[]⟩⟩) (p.rules.length) ((wk 2 0)) (⟨0,BO _,rfl,fun i _ _ h=>absurd h (Nat.not_lt_zero i),rfl⟩) ?_;rintro n S ⟨j,hj,rfl,ha,rfl⟩;refine w_ (BZ (h:=q_ (?_)));refine A6 rfl (fun hb3 hc3=>?_) (fun hb3 hc3=>?_)
 ·obtain⟨hlt,r,hy,hrow, -⟩:=Bw AJ hc3;obtain⟨w,hyw⟩:∃w,p.wats[j]?=some w:=⟨_,BA (by omega)⟩;have hroww:(p.wats.map BR)[j]?=some (BR w):=by rw[List.getElem?_map,hyw];rfl
  refine Bk (h:=Aa (h:=Dh (h:=D4 (h:=a_ (h:=s_ (h:=e_ (G3 (h:=Dh (h:=CY (h:=Ah (h:=ET (h:=?_))))))))))));refine e_ (?_);refine A6 rfl (fun hb4 hc4=>?_) (fun hb4 hc4=>?_)
  ·refine Be (h:=Ck (h:=?_));refine A3 rfl (Vp w Dp rfl rfl ?_);refine e_ (?_);refine A6 rfl (fun hb5 hc5=>?_) (fun hb5 hc5=>?_)
   ·refine Cw (h:=Bj (h:=?_));refine A4 ?_
    first|(exfalso;first|contradiction|omega)|(exact vb (by exact(Lu hy hyw (by simp_all [DZ])).symm))
   refine As (Am (t_ (B2 (Es (h:=?_)))));refine⟨_,_,?_,⟨j+1,by omega,rfl,P3 hy hyw ha (by simp_all [DZ]),rfl⟩,(wk 2 0)⟩;omega
  refine Ah (h:=Bg (h:=m_ (h:=?_)));refine AF false rfl rfl (fun hb6 hc6=>?_) (fun hb6 hc6=>?_)
  ·refine BF (h:=Cl (h:=Cv (h:=Bj (h:=?_))));refine A4 ?_
   first|(exfalso;first|contradiction|omega)|(exact vb (by exact(Lu hy hyw (by simp_all [DZ])).symm))
  refine Em (h:=?_);refine Af (AA (eB s w hs) ?_);rintro r rfl;refine Dd (h:=C1 (h:=?_));refine A6 rfl (fun hb7 hc7=>?_) (fun hb7 hc7=>?_)
  ·refine Cw (h:=Bj (h:=?_));refine A4 ?_
   first|(exfalso;first|contradiction|omega)|(exact vb (by exact(Lu hy hyw (by simp_all [DZ])).symm))
  refine As (Am (t_ (B2 (Es (h:=?_)))));refine⟨_,_,?_,⟨j+1,by omega,rfl,P3 hy hyw ha (by simp_all [DZ]),rfl⟩,(wk 2 0)⟩;omega
 have e:=CS AJ hj hc3;subst e;refine FS (h:=?_);refine A4 ?_
 first|(exfalso;first|contradiction|omega)|(exact vb (by exact(RY k1 hlen ha).symm))
include hn
theorem P4:AFn prog 48 [.agg (Au p), .agg (AQ s)] (fun r=>r= .v (.bool (Hi s p))):=by
 refine enter Tryz.func48 rfl rfl rfl rfl rfl 0 rfl ?_;refine Dg (h:=F7 (h:=?_));refine A3 rfl (AA (RX p.rules h1 hi) ?_);rintro r rfl;refine E7 (h:=?_);refine AF false rfl rfl (fun hb1 hc1=>?_) (fun hb1 hc1=>?_)
 ·have k1:CN p.rules≠0:=by simpa using hc1
  refine BF (h:=Ce (h:=e_ (GO (h:=?_))));refine A4 ?_
  first|(exfalso;first|contradiction|omega)|(exact vb (by exact(Vq k1).symm))
 have k1:CN p.rules=0:=by simpa using hc1
 refine Ct (h:=Ct (h:=Gs (h:=C1 (h:=?_))));refine A6 rfl (fun hb2 hc2=>?_) (fun hb2 hc2=>?_)
 ·have k2:p.wats.length≠p.rules.length:=by simp at hc2;omega
  refine Bd (h:=?_);refine A4 ?_
  first|(exfalso;first|contradiction|omega)|(exact vb (by exact(Vr k2).symm))
 have hlen:p.wats.length=p.rules.length:=by simp at hc2;omega
 refine AK (D8 (h:=?_));refine BX (fun n S=>∃j:Nat,j≤p.rules.length∧n=p.rules.length - j∧(∀i r w,i<j→p.rules[i]?=some r→p.wats[i]?=some w→DZ s r w=true)∧S=⟨look [(2, .bp 0 0),(3, .bp 1 0),(5, .v (.int .i64 (j:Int)))],⟨[Au p,AQ s],[]⟩⟩) (p.rules.length) ((wk 2 0)) (⟨0,BO _,rfl,fun i _ _ h=>absurd h (Nat.not_lt_zero i),rfl⟩) ?_;rintro n S ⟨j,hj,rfl,ha,rfl⟩;refine BD (h:=Ct (h:=BZ (h:=?_)));refine A6 rfl (fun hb3 hc3=>?_) (fun hb3 hc3=>?_)
 ·obtain⟨hlt,r,hy,hrow, -⟩:=Bw AJ hc3;obtain⟨w,hyw⟩:∃w,p.wats[j]?=some w:=⟨_,BA (by omega)⟩;have hroww:(p.wats.map BR)[j]?=some (BR w):=by rw[List.getElem?_map,hyw];rfl
  refine Bk (h:=G3 (h:=Dh (h:=CY (h:=G3 (h:=i_ (h:=CW (h:=e_ (?_))))))));refine A6 rfl (fun hb4 hc4=>?_) (fun hb4 hc4=>?_)
  ·refine Be (h:=Ck (h:=?_));refine A3 rfl (Vp w Dp rfl rfl ?_);refine e_ (?_);refine A6 rfl (fun hb5 hc5=>?_) (fun hb5 hc5=>?_)
   ·refine Cw (h:=Bj (h:=?_));refine A4 ?_
    first|(exfalso;first|contradiction|omega)|(exact vb (by exact(Lu hy hyw (by simp_all [DZ])).symm))
   refine Di (h:=?_);refine⟨_,_,?_,⟨j+1,by omega,rfl,P3 hy hyw ha (by simp_all [DZ]),rfl⟩,(wk 2 0)⟩;omega
  refine q_ (E4 15 (h:=Ar 0 (h:=AD 1 (h:=Ar 2 (h:=AD 3 (h:=Ac 4 (h:=FK 5 (h:=Ar 6 (h:=AD 7 (h:=O1 8 (h:=Ac 9 (h:=?_))))))))))));refine Fs (j:=9) rfl (fun hb6=>?_) (fun hb6=>?_)
  ·have hc6:=bp hb6;refine BH 10 (h:=BH 11 (h:=BH 12 (h:=BH 13 (h:=Fi 14 (h:=z_ (h:=t_ (Cz (h:=w_ (a_ (h:=e_ (Ax (Gl (BS (BS (Gl (BS (?_)))))))))))))))));refine A4 ?_
   first|(exfalso;first|contradiction|omega)|(exact vb (by exact(Lu hy hyw (by simp_all [DZ])).symm))
  have hc6:=bp hb6;refine AD 10 (h:=AD 11 (h:=?_));refine c_ 12 rfl (AA (dZ s w hs (hn w (AT hyw))) ?_);rintro r rfl;refine o_ (h:=XK 13 (h:=JJ 14 (h:=z_ (h:=t_ (?_)))));refine A6 rfl (fun hb7 hc7=>?_) (fun hb7 hc7=>?_)
  ·refine Cw (h:=Bj (h:=?_));refine A4 ?_
   first|(exfalso;first|contradiction|omega)|(exact vb (by exact(Lu hy hyw (by simp_all [DZ])).symm))
  refine Di (h:=?_);refine⟨_,_,?_,⟨j+1,by omega,rfl,P3 hy hyw ha (by simp_all [DZ]),rfl⟩,(wk 2 0)⟩;omega
 have e:=CS AJ hj hc3;subst e;refine FS (h:=?_);refine A4 ?_
 first|(exfalso;first|contradiction|omega)|(exact vb (by exact(RY k1 hlen ha).symm))
end
section
variable (s:Spc)(p:Pol)(r:Rul)(hv:SpcV s)(hm:s.mounts.length≤1000)(h1:p.rules.length≤1000)(h2:p.wats.length=p.rules.length)(hi:∀r∈p.rules,DJ r)(hr:DJ r)
include hv hm h1 h2 hi hr
theorem fL(front:Bool)(hf:front=true)(A:List Rul×Int)(hA:CC p.rules r front=A)(W:Wch×Int)(hW:CD s r=W):AFn prog 57 [.agg (Au p), .agg (AQ s), .agg (AJ r), .v (.bool true)] (fun x=>x=H5 (Fd s p r front)):=by
 have hadd:AFn prog 61 [.sl 8 (p.rules.map AJ) none, .agg (AJ r), .v (.bool true)] (fun x=>x= .tup [.sl 8 (A.1.map AJ) none, .v (.int .i64 A.2)]):=by rw[←hA,hf];exact Vk p.rules r true h1 hi hr
 have hplc:AFn prog 90 [.agg (AJ r), .agg (AQ s)] (fun x=>x= .tup [.agg (BR W.1), .v (.int .i64 W.2)]):=by rw[←hW];exact Vl s r hv hm hr
 have heq:Fd s p r front=if A.2≠0 then(Dq,A.2)else if W.2≠0 then(Dq,W.2)else(⟨A.1,W.1::p.wats⟩,0):=by rw[Fd,hA,hW,hf];rfl
 refine enter Tryz.func57 rfl rfl rfl rfl rfl 0 rfl ?_;refine EV (h:=EL (h:=B5 (h:=Ah (h:=l_ (h:=m_ (h:=?_))))));refine A3 rfl (AA (hadd) ?_);rintro r rfl;refine Fx (h:=a_ (h:=Bi (h:=C6 (h:=?_))));refine A6 rfl (fun hb1 hc1=>?_) (fun hb1 hc1=>?_)
 ·have k1:A.2≠0:=by simpa using hc1
  refine w_ (FP (h:=At (h:=BS (?_))));refine Ag (r:=H5 (Fd s p r front)) none (h5:=?_) (h6:=⟨rfl,rfl,rfl⟩);exact Ls (by rw[heq,if_pos k1])
 have k1:¬A.2≠0:=by simpa using hc1
 refine AK (Bl (h:=?_));refine A3 rfl (AA (hplc) ?_);rintro r rfl;refine Ea (h:=C6 (h:=?_));refine A6 rfl (fun hb2 hc2=>?_) (fun hb2 hc2=>?_)
 ·have k2:W.2≠0:=by simpa using hc2
  refine w_ (FP (h:=At (h:=BS (?_))));refine Ag (r:=H5 (Fd s p r front)) none (h5:=?_) (h6:=⟨rfl,rfl,rfl⟩);exact Ls (by rw[heq,if_neg k1,if_pos k2])
 have k2:¬W.2≠0:=by simpa using hc2
 refine AK (BD (h:=e_ (?_)));refine A6 rfl (fun hb3 hc3=>?_) (fun hb3 hc3=>?_)
 ·refine Aa (h:=l_ (h:=?_));refine A3 rfl (SH (by repeat (first|exact DenseA.nil _|(apply DenseA.cons;(focus exact rfl);(focus exact rfl);(focus exact rfl);(focus exact rfl))|(apply DenseA.consE;(focus exact rfl);(focus exact rfl);(focus exact rfl)))) rfl rfl rfl rfl (by repeat constructor) ?_);refine f_ (h:=l_ (h:=Fh (h:=Ck (h:=s_ (h:=a_ (h:=e_ (Ax (BS (?_)))))))));refine A4 ?_;rw[heq,if_neg k1,if_neg k2];rfl
 exact Fw
theorem fM(front:Bool)(hf:front=false)(A:List Rul×Int)(hA:CC p.rules r front=A)(W:Wch×Int)(hW:CD s r=W):AFn prog 57 [.agg (Au p), .agg (AQ s), .agg (AJ r), .v (.bool false)] (fun x=>x=H5 (Fd s p r front)):=by
 have hadd:AFn prog 61 [.sl 8 (p.rules.map AJ) none, .agg (AJ r), .v (.bool false)] (fun x=>x= .tup [.sl 8 (A.1.map AJ) none, .v (.int .i64 A.2)]):=by rw[←hA,hf];exact Vk p.rules r false h1 hi hr
 have hplc:AFn prog 90 [.agg (AJ r), .agg (AQ s)] (fun x=>x= .tup [.agg (BR W.1), .v (.int .i64 W.2)]):=by rw[←hW];exact Vl s r hv hm hr
 have heq:Fd s p r front=if A.2≠0 then(Dq,A.2)else if W.2≠0 then(Dq,W.2)else(⟨A.1,p.wats++[W.1]⟩,0):=by rw[Fd,hA,hW,hf];rfl
 refine enter Tryz.func57 rfl rfl rfl rfl rfl 0 rfl ?_;refine EV (h:=EL (h:=B5 (h:=Ah (h:=l_ (h:=m_ (h:=?_))))));refine A3 rfl (AA (hadd) ?_);rintro r rfl;refine Fx (h:=a_ (h:=Bi (h:=C6 (h:=?_))));refine A6 rfl (fun hb1 hc1=>?_) (fun hb1 hc1=>?_)
 ·have k1:A.2≠0:=by simpa using hc1
  refine w_ (FP (h:=At (h:=BS (?_))));refine Ag (r:=H5 (Fd s p r front)) none (h5:=?_) (h6:=⟨rfl,rfl,rfl⟩);exact Ls (by rw[heq,if_pos k1])
 have k1:¬A.2≠0:=by simpa using hc1
 refine AK (Bl (h:=?_));refine A3 rfl (AA (hplc) ?_);rintro r rfl;refine Ea (h:=C6 (h:=?_));refine A6 rfl (fun hb2 hc2=>?_) (fun hb2 hc2=>?_)
 ·have k2:W.2≠0:=by simpa using hc2
  refine w_ (FP (h:=At (h:=BS (?_))));refine Ag (r:=H5 (Fd s p r front)) none (h5:=?_) (h6:=⟨rfl,rfl,rfl⟩);exact Ls (by rw[heq,if_neg k1,if_pos k2])
 have k2:¬W.2≠0:=by simpa using hc2
 refine AK (BD (h:=e_ (?_)));refine A6 rfl (fun hb3 hc3=>?_) (fun hb3 hc3=>?_)
 ·exact Fw
 refine AK (q_ (Bz ([(0,Au p),(1,AQ s),(2,AJ r),(4,BR W.1)]) 10 (h:=Ac 0 (h:=Ar 1 (h:=AD 2 (h:=AD 4 (h:=L9 5 (h:=?_))))))))
 first|refine c_ 3 rfl (FJ rfl rfl rfl (by simp<;>omega) (by repeat constructor) ?_)|refine c_ 3 rfl (GJ rfl rfl (by simp<;>omega) (by repeat constructor) ?_)
 refine o_ (h:=?_)
 first|refine c_ 6 rfl (FJ rfl rfl rfl (by simp<;>omega) (by repeat constructor) ?_)|refine c_ 6 rfl (GJ rfl rfl (by simp<;>omega) (by repeat constructor) ?_)
 refine o_ (h:=Hq 7 (h:=?_));refine CG 8 (h:=BM 9 (h:=z_ (h:=t_ (Ax (?_)))));refine A4 ?_;rw[heq,if_neg k1,if_neg k2];simp[H5,Au,List.map_append];rfl
theorem P5(front:Bool):AFn prog 57 [.agg (Au p), .agg (AQ s), .agg (AJ r), .v (.bool front)] (fun x=>x=H5 (Fd s p r front)):=by
 cases front
 ·exact fM s p r hv hm h1 h2 hi hr false rfl _ rfl _ rfl
 exact fL s p r hv hm h1 h2 hi hr true rfl _ rfl _ rfl
end
theorem P6(a:Int):0≤IntKind.u64.wrap a∧IntKind.u64.wrap a<18446744073709551616:=by
 simp only[IntKind.wrap,IntKind.signed,IntKind.bits];simp;omega
theorem Vs(a b:Int):0≤Nh .u64 a b∧Nh .u64 a b<18446744073709551616:=P6 _
theorem fN(a b:Int):0≤Ni .u64 a b∧Ni .u64 a b<18446744073709551616:=P6 _
section
theorem Vt(l:List Int)(a:Nat)(ha:a≤100000000000):Ej prog 82 l a [] 40 (fun r=>∃m:Int,r= .v (.int .u64 m)∧0≤m∧m<18446744073709551616):=by
 refine enter Tryz.func82 rfl rfl rfl rfl rfl 1 rfl ?_;refine w_ (Bi (h:=?_));refine A3 rfl (AX 0 (hc:=Gn l _ (6) (by omega) (by omega)) (hR:=?_));rintro r a1 ha1 ⟨k1,rfl,p1,q1,o1⟩;refine AY ?_;refine e_ (BL (B6 (h:=?_)));refine A6 rfl (fun hb1 hc1=>?_) (fun hb1 hc1=>?_)
 ·refine Cw (h:=?_);refine Ag none (h5:=(A9 _)) (h6:=⟨_,rfl,rfl,a1,by omega,rfl,_,rfl,by omega,by omega⟩)
 refine B6 (h:=?_);refine A6 rfl (fun hb2 hc2=>?_) (fun hb2 hc2=>?_)
 ·refine Aa (h:=?_);refine A3 rfl (AX 0 (hc:=Gn l _ (32) (by omega) (by omega)) (hR:=?_));rintro r a2 ha2 ⟨k2,rfl,p2,q2,o2⟩;refine AY ?_
  first|refine A3 rfl (L5 rfl Tryz.underlying3 Tryz.underlying113 ?_)|refine A3 rfl (L5 rfl Tryz.underlying3 Tryz.underlying80 ?_)
  refine A3 rfl (SN rfl rfl (P6 _).1 ?_);refine BK (h:=?_);refine Ag none (h5:=(A9 _)) (h6:=⟨_,rfl,rfl,a2,by omega,rfl,_,rfl,fN _ _⟩)
 refine As (Am (t_ (Df (h:=D8 (h:=?_)))));refine BX (fun n s=>∃(j a1:Nat) (m:Int),j≤32∧n=32 - j∧a1≤a+1+j∧0≤m∧m<18446744073709551616∧s=⟨look [(0, .bp 0 0),(3, .v (.int .u64 m)),(4, .v (.int .i64 (j:Int)))],⟨[Cq l a1],[]⟩⟩) (32) ((wk 1 0)) (⟨0,a1,0,by omega,rfl,by omega,by omega,by omega,rfl⟩) ?_;rintro n s ⟨j,b1,m,hj,rfl,hb1,hm1,hm2,rfl⟩;refine BD (h:=BZ (h:=?_));refine A6 rfl (fun hb3 hc3=>?_) (fun hb3 hc3=>?_)
 ·refine Bk (h:=BV (h:=m_ (h:=?_)));refine A3 rfl (AX 0 (hc:=Gn l _ (2) (by omega) (by omega)) (hR:=?_));rintro r a3 ha3 ⟨k3,rfl,p3,q3,o3⟩;refine AY ?_
  first|refine A3 rfl (L5 rfl Tryz.underlying3 Tryz.underlying113 ?_)|refine A3 rfl (L5 rfl Tryz.underlying3 Tryz.underlying80 ?_)
  refine m_ (h:=?_)
  first|refine A3 rfl (L5 rfl Tryz.underlying3 Tryz.underlying113 ?_)|refine A3 rfl (L5 rfl Tryz.underlying3 Tryz.underlying80 ?_)
  refine A3 rfl (SN rfl rfl (P6 _).1 ?_);refine XO (h:=EG (h:=EH (h:=?_)));refine⟨_,_,?_,⟨j+1,_,_,by omega,rfl,?_,(Vs _ _).1,(Vs _ _).2,rfl⟩,(wk 1 0)⟩<;>omega
 refine Cg (h:=Aa (h:=At (h:=?_)));refine Ag none (h5:=(A9 _)) (h6:=⟨_,rfl,rfl,b1,by omega,rfl,m,rfl,hm1,hm2⟩)
theorem fO(l:List Int)(a:Nat)(list:Int)(ha:a≤100000000000):Ej prog 83 l a [.v (.int .i64 list)] 20 (fun r=>∃t:Tst,r= .agg (CB t)):=by
 refine enter Tryz.func83 rfl rfl rfl rfl rfl 1 rfl ?_;refine w_ (D4 (h:=e_ (Aa (h:=?_))));refine A3 rfl (AX 0 (hc:=Ci l _ (1) (8) (by omega) (by omega) (by omega) (by omega)) (hR:=?_));rintro r a1 ha1 ⟨k1,rfl,p1,q1⟩;refine AY ?_;refine m_ (h:=?_);refine A3 rfl (AX 0 (hc:=Ci l _ (1) (8) (by omega) (by omega) (by omega) (by omega)) (hR:=?_));rintro r a2 ha2 ⟨k2,rfl,p2,q2⟩;refine AY ?_;refine FQ (h:=?_);refine A3 rfl (AX 0 (hc:=FE l _ _ (fun _=>true) (by omega) (by rfl) (by rfl) (by rfl)) (hR:=?_));rintro r a3 ha3 ⟨k3,rfl,p3⟩;refine AY ?_;refine Ck (h:=CY (h:=Aa (h:=?_)));refine A3 rfl (AX 0 (hc:=Gn l _ (8) (by omega) (by omega)) (hR:=?_));rintro r a4 ha4 ⟨k4,rfl,p4,q4,o4⟩;refine AY ?_;refine B5 (h:=?_);refine C5 (fun s=>∃(b:Nat) (f o n ot:Int) (t:ByteArray),b≤a+8∧s=⟨look [(0, .bp 0 0),(4, .bp 1 0),(5, .bp 2 0)],⟨[Cq l b,[.v (.int .i64 0), .v (.int .i64 0), .v (.int .i64 0), .v (.string ⟨#[]⟩), .v (.int .i64 0)],[.v (.int .i64 f), .v (.int .i64 o), .v (.int .i64 n), .v (.string t), .v (.int .i64 ot)]],[]⟩⟩) ?_ ?_
 ·skip
  refine BL (Aa (h:=HG (h:=?_)));refine A6 rfl (fun hb1 hc1=>?_) (fun hb1 hc1=>?_)
  ·refine BV (h:=?_);refine A3 rfl (AX 0 (hc:=Ci l _ (13) (14) (by omega) (by omega) (by omega) (by omega)) (hR:=?_));rintro r a5 ha5 ⟨k5,rfl,p5,q5⟩;refine AY ?_;refine m_ (h:=?_);refine A3 rfl (AX 0 (hc:=Ci l _ (1) (2) (by omega) (by omega) (by omega) (by omega)) (hR:=?_));rintro r a6 ha6 ⟨k6,rfl,p6,q6⟩;refine AY ?_;refine FQ (h:=?_);refine A3 rfl (AX 0 (hc:=Km l _ _ (fun _=>true) (by omega) (by rfl) (by rfl) (by rfl)) (hR:=?_));rintro r a7 ha7 ⟨k7,rfl,p7⟩;refine AY ?_;refine De (h:=CP (Am (Ab (?_))));refine⟨_,⟨_,_,_,_,_,_,?_,rfl⟩,(wk 3 0)⟩<;>omega
  refine Aa (h:=HG (h:=?_));refine A6 rfl (fun hb2 hc2=>?_) (fun hb2 hc2=>?_)
  ·refine BV (h:=?_);refine A3 rfl (AX 0 (hc:=Ci l _ (3) (7) (by omega) (by omega) (by omega) (by omega)) (hR:=?_));rintro r a8 ha8 ⟨k8,rfl,p8,q8⟩;refine AY ?_;refine m_ (h:=?_);refine A3 rfl (AX 0 (hc:=Ci l _ (1) (2) (by omega) (by omega) (by omega) (by omega)) (hR:=?_));rintro r a9 ha9 ⟨k9,rfl,p9,q9⟩;refine AY ?_;refine m_ (h:=?_);refine A3 rfl (AX 0 (hc:=Ci l _ (3) (7) (by omega) (by omega) (by omega) (by omega)) (hR:=?_));rintro r a10 ha10 ⟨k10,rfl,p10,q10⟩;refine AY ?_;refine De (h:=CP (Am (Ab (?_))));refine⟨_,⟨_,_,_,_,_,_,?_,rfl⟩,(wk 3 0)⟩<;>omega
  refine Aa (h:=DT (h:=?_));refine AF true rfl rfl (fun hb3 hc3=>?_) (fun hb3 hc3=>?_)
  ·refine CX (h:=DE (h:=?_));refine A6 rfl (fun hb4 hc4=>?_) (fun hb4 hc4=>?_)
   ·refine BV (h:=?_);refine A3 rfl (AX 0 (hc:=Ci l _ (19) (20) (by omega) (by omega) (by omega) (by omega)) (hR:=?_));rintro r a11 ha11 ⟨k11,rfl,p11,q11⟩;refine AY ?_;refine m_ (h:=?_);refine A3 rfl (AX 0 (hc:=Ci l _ (1) (2) (by omega) (by omega) (by omega) (by omega)) (hR:=?_));rintro r a12 ha12 ⟨k12,rfl,p12,q12⟩;refine AY ?_;refine FQ (h:=?_);refine A3 rfl (AX 0 (hc:=FE l _ _ (fun _=>true) (by omega) (by rfl) (by rfl) (by rfl)) (hR:=?_));rintro r a13 ha13 ⟨k13,rfl,p13⟩;refine AY ?_;refine De (h:=CP (Am (Ab (?_))));refine⟨_,⟨_,_,_,_,_,_,?_,rfl⟩,(wk 3 0)⟩<;>omega
   refine Aa (h:=DS (h:=?_));refine AF true rfl rfl (fun hb5 hc5=>?_) (fun hb5 hc5=>?_)
   ·refine CX (h:=DE (h:=KP (h:=Aa (h:=DS (h:=CX (h:=DE (h:=?_)))))));refine A6 rfl (fun hb6 hc6=>?_) (fun hb6 hc6=>?_)
    ·refine BV (h:=?_);refine A3 rfl (AX 0 (hc:=Ci l _ (9) (12) (by omega) (by omega) (by omega) (by omega)) (hR:=?_));rintro r a14 ha14 ⟨k14,rfl,p14,q14⟩;refine AY ?_;refine Bm (h:=CP (Am (Ab (?_))));refine⟨_,⟨_,_,_,_,_,_,?_,rfl⟩,(wk 3 0)⟩<;>omega
    refine Aa (h:=DS (h:=?_));refine AF true rfl rfl (fun hb7 hc7=>?_) (fun hb7 hc7=>?_)
    ·refine CX (h:=DE (h:=?_));refine A6 rfl (fun hb8 hc8=>?_) (fun hb8 hc8=>?_)
     ·refine BV (h:=?_);refine A3 rfl (AX 0 (hc:=Ci l _ (1) (6) (by omega) (by omega) (by omega) (by omega)) (hR:=?_));rintro r a15 ha15 ⟨k15,rfl,p15,q15⟩;refine AY ?_;refine FQ (h:=?_);refine A3 rfl (AX 0 (hc:=FE l _ _ (fun _=>true) (by omega) (by rfl) (by rfl) (by rfl)) (hR:=?_));rintro r a16 ha16 ⟨k16,rfl,p16⟩;refine AY ?_;refine De (h:=CP (Am (Ab (?_))));refine⟨_,⟨_,_,_,_,_,_,?_,rfl⟩,(wk 3 0)⟩<;>omega
     refine As (Am (Ab (?_)));refine⟨_,⟨_,_,_,_,_,_,?_,rfl⟩,(wk 3 0)⟩<;>omega
    refine B1 (h:=FO (h:=As (Am (Ab (?_)))));refine⟨_,⟨_,_,_,_,_,_,?_,rfl⟩,(wk 3 0)⟩<;>omega
   refine B1 (h:=FO (h:=Aa (h:=DS (h:=B1 (h:=FO (h:=Aa (h:=DS (h:=?_))))))));refine AF true rfl rfl (fun hb9 hc9=>?_) (fun hb9 hc9=>?_)
   ·refine CX (h:=DE (h:=?_));refine A6 rfl (fun hb10 hc10=>?_) (fun hb10 hc10=>?_)
    ·refine BV (h:=?_);refine A3 rfl (AX 0 (hc:=Ci l _ (1) (6) (by omega) (by omega) (by omega) (by omega)) (hR:=?_));rintro r a17 ha17 ⟨k17,rfl,p17,q17⟩;refine AY ?_;refine FQ (h:=?_);refine A3 rfl (AX 0 (hc:=FE l _ _ (fun _=>true) (by omega) (by rfl) (by rfl) (by rfl)) (hR:=?_));rintro r a18 ha18 ⟨k18,rfl,Ge⟩;refine AY ?_;refine De (h:=CP (Am (Ab (?_))));refine⟨_,⟨_,_,_,_,_,_,?_,rfl⟩,(wk 3 0)⟩<;>omega
    refine As (Am (Ab (?_)));refine⟨_,⟨_,_,_,_,_,_,?_,rfl⟩,(wk 3 0)⟩<;>omega
   refine B1 (h:=FO (h:=As (Am (Ab (?_)))));refine⟨_,⟨_,_,_,_,_,_,?_,rfl⟩,(wk 3 0)⟩<;>omega
  refine B1 (h:=FO (h:=Aa (h:=DS (h:=?_))));refine AF true rfl rfl (fun hb11 hc11=>?_) (fun hb11 hc11=>?_)
  ·refine CX (h:=DE (h:=?_));refine A6 rfl (fun hb12 hc12=>?_) (fun hb12 hc12=>?_)
   ·refine BV (h:=?_);refine A3 rfl (AX 0 (hc:=Ci l _ (15) (21) (by omega) (by omega) (by omega) (by omega)) (hR:=?_));rintro r a19 ha19 ⟨k19,rfl,p19,q19⟩;refine AY ?_;refine FQ (h:=?_);refine A3 rfl (AX 0 (hc:=FE l _ _ (fun _=>true) (by omega) (by rfl) (by rfl) (by rfl)) (hR:=?_));rintro r a20 ha20 ⟨k20,rfl,p20⟩;refine AY ?_;refine Bm (h:=Bm (h:=CP (Am (Ab (?_)))));refine⟨_,⟨_,_,_,_,_,_,?_,rfl⟩,(wk 3 0)⟩<;>omega
   refine Aa (h:=DS (h:=CX (h:=DE (h:=?_))));refine A6 rfl (fun hb13 hc13=>?_) (fun hb13 hc13=>?_)
   ·refine BV (h:=?_);refine A3 rfl (AX 0 (hc:=Ci l _ (9) (12) (by omega) (by omega) (by omega) (by omega)) (hR:=?_));rintro r a21 ha21 ⟨k21,rfl,p21,q21⟩;refine AY ?_;refine Bm (h:=CP (Am (Ab (?_))));refine⟨_,⟨_,_,_,_,_,_,?_,rfl⟩,(wk 3 0)⟩<;>omega
   refine Aa (h:=DS (h:=?_));refine AF true rfl rfl (fun hb14 hc14=>?_) (fun hb14 hc14=>?_)
   ·refine CX (h:=DE (h:=?_));refine A6 rfl (fun hb15 hc15=>?_) (fun hb15 hc15=>?_)
    ·refine BV (h:=?_);refine A3 rfl (AX 0 (hc:=Ci l _ (1) (6) (by omega) (by omega) (by omega) (by omega)) (hR:=?_));rintro r a22 ha22 ⟨k22,rfl,p22,q22⟩;refine AY ?_;refine FQ (h:=?_);refine A3 rfl (AX 0 (hc:=FE l _ _ (fun _=>true) (by omega) (by rfl) (by rfl) (by rfl)) (hR:=?_));rintro r a23 ha23 ⟨k23,rfl,p23⟩;refine AY ?_;refine De (h:=CP (Am (Ab (?_))));refine⟨_,⟨_,_,_,_,_,_,?_,rfl⟩,(wk 3 0)⟩<;>omega
    refine As (Am (Ab (?_)));refine⟨_,⟨_,_,_,_,_,_,?_,rfl⟩,(wk 3 0)⟩<;>omega
   refine B1 (h:=FO (h:=As (Am (Ab (?_)))));refine⟨_,⟨_,_,_,_,_,_,?_,rfl⟩,(wk 3 0)⟩<;>omega
  refine B1 (h:=FO (h:=Aa (h:=DS (h:=B1 (h:=FO (h:=Aa (h:=DS (h:=?_))))))));refine AF true rfl rfl (fun hb16 hc16=>?_) (fun hb16 hc16=>?_)
  ·refine CX (h:=DE (h:=?_));refine A6 rfl (fun hb17 hc17=>?_) (fun hb17 hc17=>?_)
   ·refine BV (h:=?_);refine A3 rfl (AX 0 (hc:=Ci l _ (1) (6) (by omega) (by omega) (by omega) (by omega)) (hR:=?_));rintro r a24 ha24 ⟨k24,rfl,p24,q24⟩;refine AY ?_;refine FQ (h:=?_);refine A3 rfl (AX 0 (hc:=FE l _ _ (fun _=>true) (by omega) (by rfl) (by rfl) (by rfl)) (hR:=?_));rintro r a25 ha25 ⟨k25,rfl,p25⟩;refine AY ?_;refine De (h:=CP (Am (Ab (?_))));refine⟨_,⟨_,_,_,_,_,_,?_,rfl⟩,(wk 3 0)⟩<;>omega
   refine As (Am (Ab (?_)));refine⟨_,⟨_,_,_,_,_,_,?_,rfl⟩,(wk 3 0)⟩<;>omega
  refine B1 (h:=FO (h:=As (Am (Ab (?_)))));refine⟨_,⟨_,_,_,_,_,_,?_,rfl⟩,(wk 3 0)⟩<;>omega
 rintro s ⟨b,f,o,n,ot,t,hb,rfl⟩;refine BD (h:=?_);refine A3 rfl (AX 0 (hc:=Gn l _ (24) (by omega) (by omega)) (hR:=?_));rintro r a26 ha26 ⟨k26,rfl,p26,q26,o26⟩;refine AY ?_;refine C2 (h:=?_);refine A6 rfl (fun hb18 hc18=>?_) (fun hb18 hc18=>?_)
 ·refine BV (h:=?_);refine A3 rfl (AX 0 (hc:=Ci l _ (0) (24) (by omega) (by omega) (by omega) (by omega)) (hR:=?_));rintro r a27 ha27 ⟨k27,rfl,p27,q27⟩;refine AY ?_;refine m_ (h:=?_);refine A3 rfl (AX 0 (hc:=Ci l _ (0) (9) (by omega) (by omega) (by omega) (by omega)) (hR:=?_));rintro r a28 ha28 ⟨k28,rfl,p28,q28⟩;refine AY ?_;refine Bm (h:=Bm (h:=e_ (D6 (h:=e_ (Ax (?_))))));refine Ag none (h5:=(A9 _)) (h6:=⟨_,rfl,rfl,_,?_,rfl,⟨_,_,_,_,_⟩,rfl⟩)<;>omega
 refine AK (D6 (h:=e_ (Ax (?_))));refine Ag none (h5:=(A9 _)) (h6:=⟨_,rfl,rfl,_,?_,rfl,⟨_,_,_,_,_⟩,rfl⟩)<;>omega
end
theorem Vu{α:Type}{p:Nat→α→Bool}:∀{l:List α} {i:Nat},(∀k x,l[k]?=some x→p (i+k) x=false)→D1 p l i= -1
 |[],_,_=>rfl
 |x::xs,i,h=>by
   rw[D1,if_neg (by simpa using h 0 x rfl)]
   exact Vu fun k y hy=>by
    have:=h (k+1) y (by simpa using hy)
    rwa [show i+1+k=i+(k+1) by omega]
theorem RZ{l:List Rul}{r:Rul}:Fc l r<0↔r∉l:=by
 constructor
 ·intro h hm;obtain⟨k,hk⟩:=List.getElem?_of_mem hm;rcases Int.lt_or_le (Fc l r) 0 with h1|h1
  ·clear h
   have:∀(l:List Rul) (i k:Nat),l[k]?=some r→0≤D1 (fun _ x=>decide (x=r)) l i:=by
    intro l
    induction l with
    |nil=>intro i k hk;simp at hk
    |cons x xs ih=>
      intro i k hk;rw[D1];split
      ·omega
      rename_i hne
      cases k with
      |zero=>simp at hk;simp[hk]at hne
      |succ k=>exact ih (i+1) k (by simpa using hk)
   have:=this l 0 k hk;unfold Fc at h1;omega
  omega
 intro h
 have:Fc l r= -1:=Vu fun k x hx=>by
  simp only[decide_eq_false_iff_not];rintro rfl;exact h (AT hx)
 omega
theorem Vv:∀(l pre:List Rul),GE pre l=0↔(∀x∈l,Av x=0∧x∉pre)∧l.Nodup
 |[],pre=>by simp[GE]
 |r::rs,pre=>by
   rw[GE];by_cases h1:Av r=0
   ·rw[if_neg (by simpa using h1)];by_cases h2:0≤Fc pre r
    ·rw[if_pos h2];have h3:r∈pre:=Classical.byContradiction fun h=>by have:=RZ.2 h;omega
     exact⟨fun h=>absurd h (by decide),fun h=>absurd h3 (h.1 r (by simp)).2⟩
    rw[if_neg h2,Vv rs (pre++[r])];have h3:r∉pre:=RZ.1 (by omega);constructor
    ·rintro⟨k1,k2⟩;refine⟨?_,?_⟩
     ·intro x hx;rcases List.mem_cons.1 hx with rfl|hx
      ·exact⟨h1,h3⟩
      exact⟨(k1 x hx).1,fun hm=>(k1 x hx).2 (by simp[hm])⟩
     exact List.nodup_cons.2 ⟨fun hm=>(k1 r hm).2 (by simp),k2⟩
    rintro⟨k1,k2⟩;obtain⟨k3,k4⟩:=List.nodup_cons.1 k2;refine⟨fun x hx=>⟨(k1 x (by simp[hx])).1,fun hm=>?_⟩,k4⟩;rcases List.mem_append.1 hm with hm|hm
    ·exact(k1 x (by simp[hx])).2 hm
    rw[List.mem_singleton.1 hm]at hx;exact k3 hx
   rw[if_pos (by simpa using h1)];constructor
   ·intro h;exact absurd h h1
   intro h;exact absurd (h.1 r (by simp)).1 h1
theorem P7(l:List Rul):CN l=0↔l.length≤24∧(∀x∈l,Av x=0)∧l.Nodup:=by
 unfold CN;split
 ·simp;omega
 rw[Vv];simp;omega
structure LstOk(l:List Rul)(n:Nat):Prop where
 chk:CN l=0
 ins:∀r∈l,DJ r
 len:l.length≤n
theorem LstOk.nil(n:Nat):LstOk [] n:=⟨(P7 []).2 (by simp),by simp,by simp⟩
theorem LstOk.add{l:List Rul}{n:Nat}{r:Rul}{f:Bool}(h:LstOk l n)(hr:DJ r)(he:(CC l r f).2=0):LstOk (CC l r f).1 (n+1):=by
 unfold CC at he ⊢;rw[if_neg (by rw[h.chk];simp)]at he ⊢;split at he
 ·rename_i h1;exact absurd he h1
 rename_i h1;rw[if_neg h1];split at he
 ·cases he
 rename_i h2;rw[if_neg h2];split at he
 ·cases he
 rename_i h3;rw[if_neg h3];have hm:r∉l:=RZ.1 (by omega);obtain⟨c1,c2,c3⟩:=(P7 l).1 h.chk;have h1':Av r=0:=by simpa using h1
 cases f
 ·refine⟨(P7 _).2 ⟨by simp;omega,?_,?_⟩,?_,?_⟩
  ·intro x hx;rcases(by simpa using hx:x∈l∨x=r)with hx|hx
   ·exact c2 x hx
   rw[hx];exact h1'
  ·simp only[Bool.false_eq_true,if_false];exact List.nodup_append.2 ⟨c3,by simp,fun a ha b hb=>by rw[List.mem_singleton.1 hb];rintro rfl;exact hm ha⟩
  ·intro x hx;rcases(by simpa using hx:x∈l∨x=r)with hx|hx
   ·exact h.ins x hx
   rw[hx];exact hr
  have:=h.len;simp;omega
 refine⟨(P7 _).2 ⟨by simp;omega,?_,?_⟩,?_,?_⟩
 ·intro x hx;rcases(by simpa using hx:x=r∨x∈l)with hx|hx
  ·rw[hx];exact h1'
  exact c2 x hx
 ·simp only[if_true];exact List.nodup_cons.2 ⟨hm,c3⟩
 ·intro x hx;rcases(by simpa using hx:x=r∨x∈l)with hx|hx
  ·rw[hx];exact hr
  exact h.ins x hx
 have:=h.len;simp;omega
theorem LstOk.mono{l:List Rul}{n m:Nat}(h:LstOk l n)(hm:n≤m):LstOk l m:=⟨h.chk,h.ins,Nat.le_trans h.len hm⟩
def Mu:Rul:=⟨3,1,4294967295,[],0,⟨#[]⟩,0,⟨#[]⟩⟩
theorem fP:DJ Mu:=by unfold DJ Mu;simp;decide
theorem fQ:Av Mu=0:=by decide
section
theorem Vw(l:List Int)(a:Nat)(ha:a≤10000000000):Ej prog 40 l a [] 200 (fun r=>∃x:Rul,DJ x∧r= .agg (AJ x)):=by
 refine enter Tryz.func40 rfl rfl rfl rfl rfl 1 rfl ?_;refine w_ (D4 (h:=e_ (Aa (h:=Cd (h:=?_)))));refine A3 rfl (AX 0 (hc:=FE l _ _ (fun _=>true) (by omega) (by rfl) (by rfl) (by rfl)) (hR:=?_));rintro r a1 ha1 ⟨k1,rfl,p1⟩;refine AY ?_;refine FQ (h:=?_);refine A3 rfl (AX 0 (hc:=FE l _ _ (fun _=>true) (by omega) (by rfl) (by rfl) (by rfl)) (hR:=?_));rintro r a2 ha2 ⟨k2,rfl,p2⟩;refine AY ?_;refine FQ (h:=?_);refine A3 rfl (AX 0 (hc:=Km l _ _ (fun _=>true) (by omega) (by rfl) (by rfl) (by rfl)) (hR:=?_));rintro r a3 ha3 ⟨k3,rfl,p3⟩;refine AY ?_;refine Ck (h:=CY (h:=?_));refine C5 (fun s=>∃(b:Nat) (li ac ca:Int) (key:ByteArray),b≤a+50∧0≤ca∧ca<18446744073709551616∧s=⟨look [(0, .bp 0 0),(2, .bp 1 0),(3, .bp 2 0)],⟨[Cq l b,[.v (.int .i64 0), .v (.int .i64 0), .v (.int .u64 0), .v (.slice none 0 0), .v (.int .i64 0), .v (.string ⟨#[]⟩), .v (.int .i64 0), .v (.string ⟨#[]⟩)],[.v (.int .i64 li), .v (.int .i64 ac), .v (.int .u64 ca), .v (.slice none 0 0), .v (.int .i64 0), .v (.string ⟨#[]⟩), .v (.int .i64 0), .v (.string key)]],[]⟩⟩) ?_ ?_
 ·skip
  refine Ah (h:=DT (h:=?_));refine AF false rfl rfl (fun hb1 hc1=>?_) (fun hb1 hc1=>?_)
  ·refine Ce (h:=e_ (Cz (h:=Aa (h:=?_))));refine A3 rfl (AX 0 (hc:=Vt l _ (by omega)) (hR:=?_));rintro r a4 ha4 ⟨k4,rfl,p4,q4⟩;refine AY ?_;refine Bm (h:=e_ (BD (h:=?_)));refine A3 rfl (AX 0 (hc:=Gn l _ (3) (by omega) (by omega)) (hR:=?_));rintro r a5 ha5 ⟨k5,rfl,p5,q5,o5⟩;refine AY ?_;refine Dk (h:=?_);refine A6 rfl (fun hb2 hc2=>?_) (fun hb2 hc2=>?_)
   ·refine B2 (Bm (h:=e_ (Ah (h:=C2 (h:=?_)))));refine A6 rfl (fun hb3 hc3=>?_) (fun hb3 hc3=>?_)
    ·refine B2 (Bm (h:=Bq (h:=?_)));refine⟨_,⟨_,_,_,_,_,?_,?_,?_,rfl⟩,(wk 3 0)⟩<;>omega
    refine As (Ab (?_));refine⟨_,⟨_,_,_,_,_,?_,?_,?_,rfl⟩,(wk 3 0)⟩<;>omega
   refine AK (Ah (h:=C2 (h:=?_)));refine A6 rfl (fun hb4 hc4=>?_) (fun hb4 hc4=>?_)
   ·refine B2 (Bm (h:=Bq (h:=?_)));refine⟨_,⟨_,_,_,_,_,?_,?_,?_,rfl⟩,(wk 3 0)⟩<;>omega
   refine As (Ab (?_));refine⟨_,⟨_,_,_,_,_,?_,?_,?_,rfl⟩,(wk 3 0)⟩<;>omega
  refine CW (h:=C1 (h:=?_));refine A6 rfl (fun hb5 hc5=>?_) (fun hb5 hc5=>?_)
  ·refine Aa (h:=?_);refine A3 rfl (AX 0 (hc:=Vt l _ (by omega)) (hR:=?_));rintro r a6 ha6 ⟨k6,rfl,p6,q6⟩;refine AY ?_;refine Bm (h:=e_ (BD (h:=?_)));refine A3 rfl (AX 0 (hc:=Gn l _ (3) (by omega) (by omega)) (hR:=?_));rintro r a7 ha7 ⟨k7,rfl,p7,q7,o7⟩;refine AY ?_;refine Dk (h:=?_);refine A6 rfl (fun hb6 hc6=>?_) (fun hb6 hc6=>?_)
   ·refine B2 (Bm (h:=e_ (Ah (h:=C2 (h:=?_)))));refine A6 rfl (fun hb7 hc7=>?_) (fun hb7 hc7=>?_)
    ·refine B2 (Bm (h:=Bq (h:=?_)));refine⟨_,⟨_,_,_,_,_,?_,?_,?_,rfl⟩,(wk 3 0)⟩<;>omega
    refine As (Ab (?_));refine⟨_,⟨_,_,_,_,_,?_,?_,?_,rfl⟩,(wk 3 0)⟩<;>omega
   refine AK (Ah (h:=C2 (h:=?_)));refine A6 rfl (fun hb8 hc8=>?_) (fun hb8 hc8=>?_)
   ·refine B2 (Bm (h:=Bq (h:=?_)));refine⟨_,⟨_,_,_,_,_,?_,?_,?_,rfl⟩,(wk 3 0)⟩<;>omega
   refine As (Ab (?_));refine⟨_,⟨_,_,_,_,_,?_,?_,?_,rfl⟩,(wk 3 0)⟩<;>omega
  refine As (Ab (?_));refine⟨_,⟨_,_,_,_,_,?_,?_,?_,rfl⟩,(wk 3 0)⟩<;>omega
 rintro s ⟨b,li,ac,ca,key,hb,hca1,hca2,rfl⟩;refine BD (h:=Cd (h:=?_));refine A3 rfl (AX 0 (hc:=FE l _ _ (fun z=>decide (0≤z∧z≤3)) (by omega) (by rfl) (by rfl) (by rfl)) (hR:=?_));rintro r a8 ha8 ⟨k8,rfl,p8⟩;refine AY ?_;obtain⟨hz1,hz2⟩:=of_decide_eq_true p8;obtain⟨m,rfl⟩:=Int.eq_ofNat_of_zero_le (show 0≤k8 by omega);refine B5 (h:=BL (?_));refine Nt 2 3 115 5 rfl rfl (by repeat constructor) (by repeat constructor) (by repeat constructor) ?_;refine BX (fun n s=>∃(j b1:Nat) (ts:List Tst),j≤m∧n=j∧b1≤b+1+20 * (m - j)∧ts.length=m - j∧s=⟨look [(0, .bp 0 0),(2, .bp 1 0),(3, .bp 2 0),(4, .v (.int .i64 (j:Int)))],⟨[Cq l b1,[.v (.int .i64 0), .v (.int .i64 0), .v (.int .u64 0), .v (.slice none 0 0), .v (.int .i64 0), .v (.string ⟨#[]⟩), .v (.int .i64 0), .v (.string ⟨#[]⟩)],[.v (.int .i64 li), .v (.int .i64 ac), .v (.int .u64 ca), .sl 5 (ts.map CB) (some 0), .v (.int .i64 0), .v (.string ⟨#[]⟩), .v (.int .i64 0), .v (.string key)]],[(115,5,ts.map CB)]⟩⟩) (m) ((wk 3 1)) (⟨m,_,[],by omega,rfl,by omega,by simp,rfl⟩) ?_;rintro n s ⟨j,b1,ts,hj,hn,hb1,hts,rfl⟩;subst n;refine BD (h:=Dk (h:=?_));refine A6 rfl (fun hb9 hc9=>?_) (fun hb9 hc9=>?_)
 ·refine AK (q_ (BL (Bz ([(1,[.v (.int .i64 0), .v (.int .i64 0), .v (.int .u64 0), .v (.slice none 0 0), .v (.int .i64 0), .v (.string ⟨#[]⟩), .v (.int .i64 0), .v (.string ⟨#[]⟩)]),(2,[.v (.int .i64 li), .v (.int .i64 ac), .v (.int .u64 ca), .sl 5 (ts.map CB) (some 0), .v (.int .i64 0), .v (.string ⟨#[]⟩), .v (.int .i64 0), .v (.string key)])]) 9 (h:=Ar 0 (h:=AD 1 (h:=Ac 2 (h:=Ar 3 (h:=AD 4 (h:=?_)))))))));refine c_ 5 rfl (AX 0 (hc:=fO l _ _ (by omega)) (hR:=?_));rintro r a9 ha9 ⟨T9,rfl⟩;refine AY ?_;refine o_ (h:=L9 6 (h:=?_))
  first|refine c_ 7 rfl (FJ rfl rfl rfl (by simp<;>omega) (by repeat constructor) ?_)|refine c_ 7 rfl (GJ rfl rfl (by simp<;>omega) (by repeat constructor) ?_)
  refine o_ (h:=Ar 8 (h:=?_));refine CG 9 (h:=z_ (h:=Am (t_ (B2 (m_ (h:=Hr (h:=a_ (h:=CP (Ab (?_))))))))));obtain⟨j,rfl⟩:∃i,j=i+1:=⟨j - 1,by omega⟩;refine⟨_,_,?_,⟨j,_,ts++[T9],by omega,rfl,?_,?_,rfl⟩,(by rw[List.map_append];exact Aj 3 1 rfl rfl rfl rfl (by repeat (first|exact Sub.nil|refine Ak rfl rfl ?_|(apply Sub.of;(focus exact rfl);(focus exact LeA.of_eq (vi (by omega)));(focus exact rfl)))))⟩
  ·omega
  ·omega
  simp;omega
 refine Cg (h:=?_);refine C5 (fun s=>∃(b2:Nat) (wa pe:Int) (pa:ByteArray),b2≤a+140∧pa.size≤60∧s=⟨look [(0, .bp 0 0),(2, .bp 1 0),(3, .bp 2 0)],⟨[Cq l b2,[.v (.int .i64 0), .v (.int .i64 0), .v (.int .u64 0), .v (.slice none 0 0), .v (.int .i64 0), .v (.string ⟨#[]⟩), .v (.int .i64 0), .v (.string ⟨#[]⟩)],[.v (.int .i64 li), .v (.int .i64 ac), .v (.int .u64 ca), .sl 5 (ts.map CB) (some 0), .v (.int .i64 wa), .v (.string pa), .v (.int .i64 pe), .v (.string key)]],[(115,5,ts.map CB)]⟩⟩) ?_ ?_
 ·skip
  refine Ah (h:=DT (h:=?_));refine AF true rfl rfl (fun hb10 hc10=>?_) (fun hb10 hc10=>?_)
  ·refine m_ (h:=?_);refine Af (AX 0 (hc:=Gn l _ (3) (by omega) (by omega)) (hR:=?_));rintro r a10 ha10 ⟨k10,rfl,p10,q10,o10⟩;refine AY ?_;refine ET (h:=Cl (h:=?_));refine A6 rfl (fun hb11 hc11=>?_) (fun hb11 hc11=>?_)
   ·refine Aa (h:=?_);refine A3 rfl (AX 0 (hc:=Ci l _ (1) (2) (by omega) (by omega) (by omega) (by omega)) (hR:=?_));rintro r a11 ha11 ⟨k11,rfl,p11,q11⟩;refine AY ?_;refine m_ (h:=?_);refine A3 rfl (AX 0 (hc:=fH l _ (by omega)) (hR:=?_));rintro r a12 ha12 ⟨k12,rfl,p12⟩;refine AY ?_;refine m_ (h:=?_);refine A3 rfl (AX 0 (hc:=Ci l _ (1) (15) (by omega) (by omega) (by omega) (by omega)) (hR:=?_));rintro r a13 ha13 ⟨k13,rfl,p13,q13⟩;refine AY ?_;refine Bm (h:=Bm (h:=Bm (h:=e_ (Aa (h:=?_)))));refine A3 rfl (AX 0 (hc:=Gn l _ (8) (by omega) (by omega)) (hR:=?_));rintro r a14 ha14 ⟨k14,rfl,p14,q14,o14⟩;refine AY ?_;refine C2 (h:=?_);refine A6 rfl (fun hb12 hc12=>?_) (fun hb12 hc12=>?_)
    ·refine B2 (Bm (h:=Bq (h:=?_)));refine⟨_,⟨_,_,_,_,?_,?_,rfl⟩,(wk 3 1)⟩<;>first|omega|exact B7 rfl
    refine As (Ab (?_));refine⟨_,⟨_,_,_,_,?_,?_,rfl⟩,(wk 3 1)⟩<;>first|omega|exact B7 rfl
   refine As (Ab (?_));refine⟨_,⟨_,_,_,_,?_,?_,rfl⟩,(wk 3 1)⟩<;>first|omega|exact B7 rfl
  refine E6 (h:=D7 (h:=As (Ab (?_))));refine⟨_,⟨_,_,_,_,?_,?_,rfl⟩,(wk 3 1)⟩<;>first|omega|exact B7 rfl
 rintro s ⟨b2,wa,pe,pa,hb2,hpa,rfl⟩;refine BD (h:=?_);refine A3 rfl (AX 0 (hc:=Gn l _ (24) (by omega) (by omega)) (hR:=?_));rintro r a15 ha15 ⟨k15,rfl,p15,q15,o15⟩;refine AY ?_;refine C2 (h:=?_);refine A6 rfl (fun hb13 hc13=>?_) (fun hb13 hc13=>?_)
 ·refine BV (h:=?_);refine A3 rfl (AX 0 (hc:=Ci l _ (-1) (16) (by omega) (by omega) (by omega) (by omega)) (hR:=?_));rintro r a16 ha16 ⟨k16,rfl,p16,q16⟩;refine AY ?_;refine m_ (h:=?_);refine A3 rfl (AX 0 (hc:=Ci l _ (0) (6) (by omega) (by omega) (by omega) (by omega)) (hR:=?_));rintro r a17 ha17 ⟨k17,rfl,p17,q17⟩;refine AY ?_;refine m_ (h:=?_);refine A3 rfl (AX 0 (hc:=Ci l _ (0) (3) (by omega) (by omega) (by omega) (by omega)) (hR:=?_));rintro r a18 ha18 ⟨k18,rfl,Ge,q18⟩;refine AY ?_;refine Bm (h:=Bm (h:=Bm (h:=e_ (D6 (h:=e_ (Ax (?_)))))));refine Ag none (h5:=(A9 _)) (h6:=⟨_,rfl,rfl,_,?_,rfl,⟨_,_,_,ts,_,pa,_,_⟩,⟨hca1,hca2,Nat.le_trans hpa (by decide),by show ts.length≤1000;omega⟩,rfl⟩)<;>omega
 refine AK (D6 (h:=e_ (Ax (?_))));refine Ag none (h5:=(A9 _)) (h6:=⟨_,rfl,rfl,_,?_,rfl,⟨_,_,_,ts,_,pa,_,_⟩,⟨hca1,hca2,Nat.le_trans hpa (by decide),by show ts.length≤1000;omega⟩,rfl⟩)<;>omega
end
structure PolOk(s:Spc)(p:Pol)(n:Nat):Prop where
 lst:LstOk p.rules n
 wat:p.wats=Ey s p.rules
 ok:∀r∈p.rules,(CD s r).2=0
theorem fR{s:Spc}{k:Int}{p:AB}(h:(GD s k p).2=0):(GD s k p).1.kind=k:=by
 unfold GD at h ⊢;by_cases c1:(k≠1∧k≠2)∨Dy p.data.toList=false
 ·rw[if_pos c1]at h;cases h
 rw[if_neg c1]at h ⊢;by_cases c2:(Bt s (0,0) p (decide (k=2))).2≠0
 ·rw[if_pos c2]at h;exact absurd h c2
 rw[if_neg c2]at h ⊢;by_cases c3:k=2
 ·rw[if_pos c3]at h ⊢;by_cases c4:(Bt s (0,0) p true).1.ex=false
  ·rw[if_pos c4]at h;cases h
  rw[if_neg c4]at h ⊢;by_cases c5:AZ s.files (Bt s (0,0) p true).1.file=false
  ·rw[if_pos c5]at h;cases h
  rw[if_neg c5]
 rw[if_neg c3]at h ⊢;by_cases c4:(Bt s (0,0) p false).1.name=⟨#[]⟩
 ·rw[if_pos c4]at h;cases h
 rw[if_neg c4]
theorem Vx{s:Spc}{r:Rul}(hv:SpcV s)(h:(CD s r).2=0):DZ s r (CD s r).1=true:=by
 unfold DZ;unfold CD at h ⊢;by_cases c:r.watch=0
 ·simp[c]
 rw[if_neg c]at h ⊢;rw[if_neg c];by_cases c2:(GD s r.watch r.path).2≠0
 ·rw[if_pos c2]at h;cases h
 rw[if_neg c2];have c3:(GD s r.watch r.path).2=0:=by simpa using c2
 rw[dT hv c3,Bool.and_true,decide_eq_true_iff];exact fR c3
theorem PolOk.sound{s:Spc}{p:Pol}{n:Nat}(hv:SpcV s)(h:PolOk s p n):Hi s p=true:=by
 refine RY h.lst.chk (by rw[h.wat];simp[Ey]) ?_;intro i r w hi hr hw;rw[h.wat]at hw;simp only[Ey,List.getElem?_map,hr,Option.map_some,Option.some.injEq]at hw;rw[←hw];exact Vx hv (h.ok r (AT hr))
theorem PolOk.nil(s:Spc)(n:Nat):PolOk s Dq n:=⟨LstOk.nil n,rfl,by simp[Dq]⟩
theorem PolOk.mono{s:Spc}{p:Pol}{n m:Nat}(h:PolOk s p n)(hm:n≤m):PolOk s p m:=⟨h.lst.mono hm,h.wat,h.ok⟩
theorem PolOk.len{s:Spc}{p:Pol}{n:Nat}(h:PolOk s p n):p.wats.length=p.rules.length:=by rw[h.wat];simp[Ey]
theorem Vy{l:List Rul}{r:Rul}{f:Bool}(h:(CC l r f).2=0):(CC l r f).1=if f=true then r::l else l++[r]:=by
 unfold CC at h ⊢;by_cases c1:CN l≠0
 ·rw[if_pos c1]at h;exact absurd h c1
 rw[if_neg c1]at h ⊢;by_cases c2:Av r≠0
 ·rw[if_pos c2]at h;exact absurd h c2
 rw[if_neg c2]at h ⊢;by_cases c3:0≤Fc l r
 ·rw[if_pos c3]at h;cases h
 rw[if_neg c3]at h ⊢;by_cases c4:24≤(l.length:Int)
 ·rw[if_pos c4]at h;cases h
 rw[if_neg c4]
theorem PolOk.add{s:Spc}{p:Pol}{n:Nat}{r:Rul}{f:Bool}(h:PolOk s p n)(hr:DJ r)(he:(Fd s p r f).2=0):PolOk s (Fd s p r f).1 (n+1):=by
 unfold Fd at he ⊢;by_cases c1:(CC p.rules r f).2≠0
 ·rw[if_pos c1]at he;exact absurd he c1
 rw[if_neg c1]at he ⊢;by_cases c2:(CD s r).2≠0
 ·rw[if_pos c2]at he;exact absurd he c2
 rw[if_neg c2];have d1:(CC p.rules r f).2=0:=by simpa using c1
 have d2:(CD s r).2=0:=by simpa using c2
 refine⟨h.lst.add hr d1,?_,?_⟩
 ·simp only[Vy d1,h.wat];cases f<;>simp[Ey]
 intro x hx;simp only[Vy d1]at hx
 have:x=r∨x∈p.rules:=by
  cases f
  ·exact(by simpa using hx:x∈p.rules∨x=r).symm
  simpa using hx
 rcases this with rfl|hx
 ·exact d2
 exact h.ok x hx
section
theorem Vz(l:List Int)(a:Nat)(ha:a≤1000000000):Ej prog 56 l a [] 1600 (fun r=>∃x:Rul,DJ x∧Av x=0∧r= .agg (AJ x)):=by
 refine enter Tryz.func56 rfl rfl rfl rfl rfl 1 rfl ?_;refine w_ (D4 (h:=e_ (D8 (h:=?_))));refine BX (fun n s=>∃(j b:Nat),j≤8∧n=8 - j∧b≤a+200 * j∧s=⟨look [(0, .bp 0 0),(2, .bp 1 0),(3, .v (.int .i64 (j:Int)))],⟨[Cq l b,[.v (.int .i64 0), .v (.int .i64 0), .v (.int .u64 0), .v (.slice none 0 0), .v (.int .i64 0), .v (.string ⟨#[]⟩), .v (.int .i64 0), .v (.string ⟨#[]⟩)]],[]⟩⟩) (8) ((wk 2 0)) (⟨0,a,by omega,rfl,by omega,rfl⟩) ?_;rintro n s ⟨j,b,hj,rfl,hb,rfl⟩;refine BD (h:=BZ (h:=?_));refine A6 rfl (fun hb1 hc1=>?_) (fun hb1 hc1=>?_)
 ·refine Bk (h:=Aa (h:=?_));refine A3 rfl (AX 0 (hc:=Vw l _ (by omega)) (hR:=?_));rintro r a1 ha1 ⟨x,hx,rfl⟩;refine AY ?_;refine CY (h:=Be (h:=?_));refine A3 rfl (AA (Oz x hx) ?_);rintro r rfl;refine C2 (h:=?_);refine A6 rfl (fun hb2 hc2=>?_) (fun hb2 hc2=>?_)
  ·refine D6 (h:=e_ (Ax (F6 (h:=Bj (h:=?_)))));refine Ag none (h5:=(A9 _)) (h6:=⟨_,rfl,rfl,_,?_,rfl,x,hx,hc2,rfl⟩)<;>omega
  refine Di (h:=?_);refine⟨_,_,?_,⟨j+1,_,by omega,rfl,?_,rfl⟩,(wk 2 0)⟩<;>omega
 refine Cg (h:=w_ (De (h:=e_ (Ax (?_)))));refine Ag (r:= .agg (AJ Mu)) none (h5:=(by repeat (first|exact A9 _|exact LeA.nil _|exact LeL.refl _|refine LeA.agg ?_|refine LeA.tup ?_|exact LeL.nil|refine LeL.cons ?_ ?_|exact LeA.any _))) (h6:=⟨_,rfl,rfl,b,by omega,rfl,Mu,fP,fQ,rfl⟩)
end
theorem fS:LeL [.v (.slice none 0 0), .v (.slice none 0 0)] (Au Dq):=by
 show LeL _ [.sl 8 [] none, .sl 6 [] none];exact LeL.cons (LeA.nil _) (LeL.cons (LeA.nil _) LeL.nil)
section
theorem fT(l:List Int)(a m:Nat)(s:Spc)(ha:a≤100000000)(hm:m≤20)(hv:SpcV s)(hmm:s.mounts.length≤1000):Ej prog 20 l a [.agg (AQ s), .v (.int .i64 (m:Int))] 50000 (fun r=>∃p:Pol,PolOk s p 20∧r= .agg (Au p)):=by
 refine enter Tryz.func20 rfl rfl rfl rfl rfl 1 rfl ?_;refine w_ (EL (h:=e_ (w_ (D4 (h:=e_ (Dv (h:=HA (h:=?_))))))));refine A3 rfl (AX 0 (hc:=Gn l _ ((m:Int)+1) (by omega) (by omega)) (hR:=?_));rintro r a1 ha1 ⟨k1,rfl,p1,q1,o1⟩;refine AY ?_;obtain⟨m0,rfl⟩:=Int.eq_ofNat_of_zero_le p1;have hm0:m0≤20:=by omega
 refine B5 (h:=BL (?_));refine BX (fun n S=>∃(j b:Nat) (p:Pol),j≤m0∧n=j∧b≤a+1+1700 * (m0 - j)∧PolOk s p (m0 - j)∧S=⟨look [(0, .bp 0 0),(4, .bp 1 0),(6, .bp 2 0),(7, .bp 3 0),(8, .v (.int .i64 (j:Int)))],⟨[Cq l b,AQ s,[.v (.slice none 0 0), .v (.slice none 0 0)],Au p],[]⟩⟩) (m0) (Weak.trans (J9 3 rfl fS) ((wk 4 0))) (⟨m0,_,Dq,by omega,rfl,by omega,PolOk.nil _ _,rfl⟩) ?_;rintro n S ⟨j,b,p,hj,hn,hb,hp,rfl⟩;subst n;refine BD (h:=Dk (h:=?_));refine A6 rfl (fun hb1 hc1=>?_) (fun hb1 hc1=>?_)
 ·refine Bk (h:=?_);refine C5 (fun S=>∃(b1:Nat) (x:Rul) (f:Bool),b1≤a+1+1700 * (m0 - j)+1610∧DJ x∧S=⟨look [(0, .bp 0 0),(4, .bp 1 0),(6, .bp 2 0),(7, .bp 3 0),(8, .v (.int .i64 (j:Int))),(9, .bp 4 0),(10, .v (.int .i64 (Fd s p x f).2))],⟨[Cq l b1,AQ s,[.v (.slice none 0 0), .v (.slice none 0 0)],Au p,Au (Fd s p x f).1],[]⟩⟩) ?_ ?_
  ·skip
   refine Bz ([(1,AQ s),(2,[.v (.slice none 0 0), .v (.slice none 0 0)]),(3,Au p)]) 14 (h:=?_)
   first|refine AD 0 (h:=?_)|refine BT 0 rfl (fun _ hS=>J0 (row:=Au p) rfl (kb hS rfl) (B7 rfl) rfl ⟨rfl,rfl⟩) ?_|refine BT 0 rfl (fun _ hS=>J0 (row:=AQ s) rfl (kb hS rfl) (B7 rfl) rfl ⟨rfl,rfl⟩) ?_
   first|refine AD 1 (h:=?_)|refine BT 1 rfl (fun _ hS=>J0 (row:=Au p) rfl (kb hS rfl) (B7 rfl) rfl ⟨rfl,rfl⟩) ?_|refine BT 1 rfl (fun _ hS=>J0 (row:=AQ s) rfl (kb hS rfl) (B7 rfl) rfl ⟨rfl,rfl⟩) ?_
   refine Ac 2 (h:=Ac 4 (h:=?_));refine KQ 3 11 rfl rfl ?_ ?_
   ·refine AX 0 (hc:=Vz l _ (by omega)) (hR:=?_);rintro r a2 ha2 ⟨x,hx,hg,rfl⟩;refine AY ?_;refine o_ (h:=?_);refine KQ 5 11 rfl rfl ?_ ?_
    ·refine AX 0 (hc:=Gn l _ (4) (by omega) (by omega)) (hR:=?_);rintro r a3 ha3 ⟨k3,rfl,p3,q3,o3⟩;refine AY ?_;refine o_ (h:=?_);refine Fj 6 (h:=?_);refine KQ 7 11 rfl rfl ?_ ?_
     ·refine AA (P5 s p x hv hmm (by have:=hp.lst.len;omega) hp.len hp.lst.ins hx _) ?_;rintro r rfl;refine o_ (h:=?_);refine Ac 8 (h:=D5 9 (h:=D5 10 (h:=?_)));refine c_ 11 rfl (Gm (by repeat constructor) ?_);refine o_ (h:=?_);refine CG 12 (h:=BM 13 (h:=z_ (h:=?_)));refine Ab ?_;exact⟨_,⟨_,x,_,(by omega),hx,rfl⟩,Aj 5 0 rfl rfl rfl rfl ((by repeat (first|exact Sub.nil|refine Ak rfl rfl ?_|refine Ao ?_|refine Ap rfl ?_|refine Aq rfl ?_)))⟩
     refine Gm (by repeat constructor) ?_;refine o_ (h:=?_);refine c_ 7 rfl (AA (P5 s p x hv hmm (by have:=hp.lst.len;omega) hp.len hp.lst.ins hx _) ?_);rintro r rfl;refine o_ (h:=Ac 8 (h:=D5 9 (h:=D5 10 (h:=?_))));refine CG 12 (h:=BM 13 (h:=z_ (h:=?_)));refine Ab ?_;exact⟨_,⟨_,x,_,(by omega),hx,rfl⟩,Aj 5 0 rfl rfl rfl rfl ((by repeat (first|exact Sub.nil|refine Ak rfl rfl ?_|refine Ao ?_|refine Ap rfl ?_|refine Aq rfl ?_)))⟩
    refine Gm (by repeat constructor) ?_;refine o_ (h:=?_);refine c_ 5 rfl (AX 0 (hc:=Gn l _ (4) (by omega) (by omega)) (hR:=?_));rintro r a4 ha4 ⟨k4,rfl,p4,q4,o4⟩;refine AY ?_;refine o_ (h:=Fj 6 (h:=?_));refine c_ 7 rfl (AA (P5 s p x hv hmm (by have:=hp.lst.len;omega) hp.len hp.lst.ins hx _) ?_);rintro r rfl;refine o_ (h:=Ac 8 (h:=D5 9 (h:=D5 10 (h:=?_))));refine CG 12 (h:=BM 13 (h:=z_ (h:=?_)));refine Ab ?_;exact⟨_,⟨_,x,_,(by omega),hx,rfl⟩,Aj 5 0 rfl rfl rfl rfl ((by repeat (first|exact Sub.nil|refine Ak rfl rfl ?_|refine Ao ?_|refine Ap rfl ?_|refine Aq rfl ?_)))⟩
   refine Gm (by repeat constructor) ?_;refine o_ (h:=?_);refine c_ 3 rfl (AX 0 (hc:=Vz l _ (by omega)) (hR:=?_));rintro r a5 ha5 ⟨x,hx,hg,rfl⟩;refine AY ?_;refine o_ (h:=?_);refine c_ 5 rfl (AX 0 (hc:=Gn l _ (4) (by omega) (by omega)) (hR:=?_));rintro r a6 ha6 ⟨k6,rfl,p6,q6,o6⟩;refine AY ?_;refine o_ (h:=Fj 6 (h:=?_));refine c_ 7 rfl (AA (P5 s p x hv hmm (by have:=hp.lst.len;omega) hp.len hp.lst.ins hx _) ?_);rintro r rfl;refine o_ (h:=Ac 8 (h:=D5 9 (h:=D5 10 (h:=?_))));refine CG 12 (h:=BM 13 (h:=z_ (h:=?_)));refine Ab ?_;exact⟨_,⟨_,x,_,(by omega),hx,rfl⟩,Aj 5 0 rfl rfl rfl rfl ((by repeat (first|exact Sub.nil|refine Ak rfl rfl ?_|refine Ao ?_|refine Ap rfl ?_|refine Aq rfl ?_)))⟩
  rintro S ⟨b1,x,f,hb1,hx,rfl⟩;refine Aa (h:=C2 (h:=?_));refine A6 rfl (fun hb2 hc2=>?_) (fun hb2 hc2=>?_)
  ·have hp2:=hp.add (f:=f) hx (by simpa using hc2);refine B2 (l_ (h:=s_ (h:=CP (Am (t_ (BV (h:=Hr (h:=E8 (h:=?_)))))))));obtain⟨j,rfl⟩:∃i,j=i+1:=⟨j - 1,by omega⟩;refine⟨_,_,?_,⟨j,_,_,by omega,rfl,?_,hp2.mono (by omega),rfl⟩,Aj 4 0 rfl rfl rfl rfl (by repeat (first|exact Sub.nil|refine Ak rfl rfl ?_|(apply Sub.of;(focus exact rfl);(focus exact LeA.of_eq (vi (by omega)));(focus exact rfl))))⟩<;>omega
  have hp2:=hp.mono (Nat.le_succ _);refine As (Am (t_ (BV (h:=Hr (h:=E8 (h:=?_))))));obtain⟨j,rfl⟩:∃i,j=i+1:=⟨j - 1,by omega⟩;refine⟨_,_,?_,⟨j,_,_,by omega,rfl,?_,hp2.mono (by omega),rfl⟩,Aj 4 0 rfl rfl rfl rfl (by repeat (first|exact Sub.nil|refine Ak rfl rfl ?_|(apply Sub.of;(focus exact rfl);(focus exact LeA.of_eq (vi (by omega)));(focus exact rfl))))⟩<;>omega
 refine Cg (h:=D6 (h:=e_ (Ax (?_))));refine Ag none (h5:=(A9 _)) (h6:=⟨_,rfl,rfl,b,by omega,rfl,p,hp.mono (by omega),rfl⟩)
end
structure Vdt where
 sel:Bool
 rule:Int
 key:AB
deriving DecidableEq
def Lw(v:Vdt):List AV:=[.v (.bool v.sel), .v (.int .i64 v.rule), .v (.string v.key)]
def Mv:Vdt:=⟨false, -1,⟨#[]⟩⟩
def JV(l:List Rul)(i:Int):Vdt:=if i<0 then Mv else match l[i.toNat]? with|some r=>⟨decide (r.action=1),i,r.key⟩|none=>Mv
theorem fU{l:List Rul}{i:Nat}{r:Rul}(h:l[i]?=some r):JV l (i:Int)=⟨decide (r.action=1),(i:Int),r.key⟩:=by
 rw[JV,if_neg (by omega),Int.toNat_natCast,h]
theorem W7{l:List Rul}{i:Int}(h:i<0):JV l i=Mv:=by rw[JV,if_pos h]
def W8(l:List Rul)(i:Int):Prop:=i<0∨∃(k:Nat) (r:Rul),i=(k:Int)∧l[k]?=some r
theorem W9{α:Type}{p:Nat→α→Bool}:∀{l:List α} {i:Nat},D1 p l i<0∨∃(k:Nat) (r:α),D1 p l i=((i+k:Nat):Int)∧l[k]?=some r
 |[],_=> .inl (by simp[D1])
 |x::xs,i=>by
   rw[D1];split
   ·exact .inr ⟨0,x,rfl,rfl⟩
   rcases W9 (p:=p) (l:=xs) (i:=i+1)with h|⟨k,r,h1,h2⟩
   ·exact .inl h
   exact .inr ⟨k+1,r,by rw[h1];congr 1;omega,by simpa using h2⟩
theorem WB(p:Nat→Rul→Bool)(l:List Rul):W8 l (D1 p l 0):=by
 rcases W9 (p:=p) (l:=l) (i:=0)with h|⟨k,r,h1,h2⟩
 ·exact .inl h
 exact .inr ⟨k,r,by rw[h1,Nat.zero_add],h2⟩
def WC(c:Ctx):Ctx:={c with phase:=1,ext:=0,items:=[]}
def P8(p:Pol)(c:Ctx):Int:=D1 (Jv 2 [] (WC c)) p.rules 0
section
theorem fV(p:Pol)(i:Int)(hi:i<0):AFn prog 67 [.agg (Au p), .v (.int .i64 i)] (fun r=>r= .agg (Lw Mv)):=by
 refine enter Tryz.func67 rfl rfl rfl rfl rfl 0 rfl ?_;refine w_ (EL (h:=e_ (BD (h:=BZ (h:=?_)))));refine A6 rfl (fun hb1 hc1=>?_) (fun hb1 hc1=>?_)
 ·refine w_ (De (h:=e_ (Ax (BS (?_)))));refine A4 ?_;rfl
 exact Fw
theorem fW(p:Pol)(k:Nat)(r:Rul)(hr:p.rules[k]?=some r)(h1:p.rules.length≤1000):AFn prog 67 [.agg (Au p), .v (.int .i64 (k:Int))] (fun x=>x= .agg (Lw ⟨decide (r.action=1),(k:Int),r.key⟩)):=by
 have hrow:(p.rules.map AJ)[k]?=some (AJ r):=by rw[List.getElem?_map,hr];rfl
 have hlt:k<p.rules.length:=(AP.1 hr).1;refine enter Tryz.func67 rfl rfl rfl rfl rfl 0 rfl ?_;refine w_ (EL (h:=e_ (BD (h:=BZ (h:=?_)))));refine A6 rfl (fun hb1 hc1=>?_) (fun hb1 hc1=>?_)
 ·exact Fw
 refine AK (G3 (h:=Dh (h:=CY (h:=Ah (h:=DT (h:=AN (h:=De (h:=e_ (Ax (?_))))))))));refine A4 ?_;rfl
theorem Ra(p:Pol)(i:Int)(hi:W8 p.rules i)(h1:p.rules.length≤1000):AFn prog 67 [.agg (Au p), .v (.int .i64 i)] (fun r=>r= .agg (Lw (JV p.rules i))):=by
 rcases hi with hi|⟨k,r,rfl,hr⟩
 ·rw[W7 hi];exact fV p i hi
 rw[fU hr];exact fW p k r hr h1
variable (p:Pol)(c:Ctx)(k:Cxs)(h1:p.rules.length≤1000)(ht:∀r∈p.rules,r.tests.length≤1000)
include h1 ht
theorem fX:AFn prog 22 [.agg (Au p), .agg (EB c k)] (fun r=>r= .tup [.agg (Lw (JV p.rules (P8 p c))), .v (.bool (decide (0≤P8 p c)))]):=by
 refine enter Tryz.func22 rfl rfl rfl rfl rfl 0 rfl ?_;refine FM (h:=B5 (h:=w_ (Bm (h:=Bm (h:=Bm (h:=e_ (Ah (h:=l_ (h:=?_)))))))));refine A3 rfl (AA (TH p.rules 2 [] (WC c) k h1 (BO _) ht) ?_);rintro r rfl;refine B5 (h:=Be (h:=m_ (h:=?_)));refine A3 rfl (AA (Ra p _ (WB _ _) h1) ?_);rintro r rfl;refine m_ (h:=E5 (h:=s_ (h:=At (h:=?_))));refine A4 ?_;rfl
end
theorem WD{s:Spc}{a b:A7}(h:AZ s.files b=false):decide (a∈B8 s (BG s.files) b)=false:=by
 have e:B8 s (BG s.files) b=[]:=by
  cases BG s.files with
  |zero=>rfl
  |succ k=>unfold B8;rw[h];rfl
 rw[e];rfl
section
variable {ev:Operand→Option AV}{h:AH}{R:AV→AH→Prop}{d:Option Tmp}{ty:TypeId}{pos:String}{af:Array Edge}{gd:Option (Nat×Bool)}
theorem fY{x ix:Operand}{a b:A7}(j:Nat)(hx:ev x=some (.agg [.v (.int .i64 a.1), .v (.int .i64 a.2), .v (.int .i64 b.1), .v (.int .i64 b.2)]))(hi:ev ix=some (.v (.int .i64 (j:Int))))(hj:j<2)(hR:R (.agg (A8 (if j=0 then a else b))) h):AStep prog ⟨d, .index 176 x ix,ty,pos,af,gd⟩ ev h R:=by
 refine Cc (fun _ G w ec _ he=>?_) hR;have h1:=he x (by simp[Op.operands]) _ hx;have h2:=he ix (by simp[Op.operands]) _ hi;simp only[rep]at h1 h2;obtain⟨ys,h3,h4⟩:=h1;simp only[AE,rep]at h4;obtain⟨v1,q1,rfl,rfl,v2,q2,rfl,rfl,v3,q3,rfl,rfl,v4,q4,rfl,rfl,rfl⟩:=h4;have u1:=Tryz.underlying176;have u2:=Tryz.isAgg26;have u3:=Tryz.sizeOf26
 match j,hj with
 |0,_=>
   refine⟨.agg #[.int .i64 a.1, .int .i64 a.2],?_,by simp[rep,AE,A8]⟩;simp[execOp,h2,h3,Instr.index,asIntOf,part]
 |1,_=>
   refine⟨.agg #[.int .i64 b.1, .int .i64 b.2],?_,by simp[rep,AE,A8]⟩;simp[execOp,h2,h3,Instr.index,asIntOf,part]
end
theorem GF{s:Spc}{w:Wch}{d f:A7}{n:AB}(hk:w.kind=1):DN s w d n f=((!decide (w.file=(0,0))&&decide (w.file=f))||(!decide (n=⟨#[]⟩)&&decide (d=w.dir)&&decide (n=w.name))):=by
 unfold DN;rw[if_pos hk];have e1:decide (w.file≠(0,0))= !decide (w.file=(0,0)):=by simp
 have e2:decide (n≠⟨#[]⟩)= !decide (n=⟨#[]⟩):=by simp
 have e3:decide (f=w.file)=decide (w.file=f):=decide_eq_decide.2 ⟨Eq.symm,Eq.symm⟩;rw[e1,e2,e3]
section
theorem fZ(s:Spc)(w:Wch)(y:Itm)(hs:SpcB s):AFn prog 73 [.agg (AQ s), .agg (BR w), .agg (Mp y)] (fun r=>r= .v (.bool (DN s w y.dir y.name y.file))):=by
 refine enter Tryz.func73 rfl rfl rfl rfl rfl 0 rfl ?_;refine EV (h:=b_ (h:=G2 (h:=e_ (BL (B6 (h:=?_))))));refine A6 rfl (fun hb1 hc1=>?_) (fun hb1 hc1=>?_)
 ·refine q_ (?_);refine C5 (fun S=>S=⟨look [(3, .bp 0 0),(4, .bp 1 0),(5, .bp 2 0),(23, .v (.bool (!decide (w.file=(0,0))&&decide (w.file=y.file))))],⟨[AQ s,BR w,Mp y],[]⟩⟩) ?_ ?_
  ·skip
   refine B2 (AN (h:=Ck (h:=?_)));refine A3 rfl (Ff rfl rfl (by repeat constructor) (by repeat constructor) (fun W=>dU w.file (0,0) W) (by kernel_rfl) ?_);refine m_ (h:=?_);refine AF true rfl rfl (fun hb2 hc2=>?_) (fun hb2 hc2=>?_)
   ·refine AN (h:=AN (h:=?_));refine Af (Ff rfl rfl (by repeat constructor) (by repeat constructor) (fun W=>Lo w.file y.file W) (by kernel_rfl) ?_);refine Bc (h:=Bq (h:=?_));exact⟨_,rfl,DY 3 0 rfl⟩
   refine EU (h:=G5 (h:=?_));exact⟨_,rfl,DY 3 0 rfl⟩
  rintro S rfl;refine A6 rfl (fun hb3 hc3=>?_) (fun hb3 hc3=>?_)
  ·refine Bd (h:=F6 (h:=?_));refine A4 ?_
   first|(exfalso;first|contradiction|omega)|(exact vb (by first|(rw[GF hc1,hc3];simp[*];done)|(rw[GF hc1,hc3];rfl)|(have hj3:j=0∨j=1:=(by omega);rcases hj3 with rfl|rfl<;>simp_all [DN];done)|(simp[DN,hj1 (by omega),hj2 (by omega), *];done)|(simp[DN, *];done)))
  refine AK (Ah (h:=E7 (h:=?_)));refine AF true rfl rfl (fun hb4 hc4=>?_) (fun hb4 hc4=>?_)
  ·refine AN (h:=AN (h:=?_));refine Af (Ff rfl rfl (by repeat constructor) (by repeat constructor) (fun W=>Lo y.dir w.dir W) (by kernel_rfl) ?_);refine BY (h:=?_);refine AF true rfl rfl (fun hb5 hc5=>?_) (fun hb5 hc5=>?_)
   ·refine AN (h:=CW (h:=Bc (h:=BK (h:=?_))));refine A4 ?_
    first|(exfalso;first|contradiction|omega)|(exact vb (by first|(rw[GF hc1,hc3];simp[*];done)|(rw[GF hc1,hc3];rfl)|(have hj3:j=0∨j=1:=(by omega);rcases hj3 with rfl|rfl<;>simp_all [DN];done)|(simp[DN,hj1 (by omega),hj2 (by omega), *];done)|(simp[DN, *];done)))
   refine EU (h:=C0 (h:=BK (h:=?_)));refine A4 ?_
   first|(exfalso;first|contradiction|omega)|(exact vb (by first|(rw[GF hc1,hc3];simp[*];done)|(rw[GF hc1,hc3];rfl)|(have hj3:j=0∨j=1:=(by omega);rcases hj3 with rfl|rfl<;>simp_all [DN];done)|(simp[DN,hj1 (by omega),hj2 (by omega), *];done)|(simp[DN, *];done)))
  refine EU (h:=Eb (h:=C0 (h:=BK (h:=?_))));refine A4 ?_
  first|(exfalso;first|contradiction|omega)|(exact vb (by first|(rw[GF hc1,hc3];simp[*];done)|(rw[GF hc1,hc3];rfl)|(have hj3:j=0∨j=1:=(by omega);rcases hj3 with rfl|rfl<;>simp_all [DN];done)|(simp[DN,hj1 (by omega),hj2 (by omega), *];done)|(simp[DN, *];done)))
 refine B6 (h:=?_);refine A6 rfl (fun hb6 hc6=>?_) (fun hb6 hc6=>?_)
 ·refine Ah (h:=AN (h:=Pw (h:=e_ (BL (?_)))));refine BX (fun m S=>∃j:Nat,j≤2∧m=2 - j∧(0<j→Mt s w.file y.dir=false)∧(1<j→Mt s w.file y.file=false)∧S=⟨look [(3, .bp 0 0),(4, .bp 1 0),(5, .bp 2 0),(47, .agg [.v (.int .i64 y.dir.1), .v (.int .i64 y.dir.2), .v (.int .i64 y.file.1), .v (.int .i64 y.file.2)]),(48, .v (.int .i64 (j:Int)))],⟨[AQ s,BR w,Mp y],[]⟩⟩) (2) ((wk 3 0)) (⟨0,by omega,rfl,fun q=>by omega,fun q=>by omega,rfl⟩) ?_;rintro m S ⟨j,hj,rfl,hj1,hj2,rfl⟩;refine w_ (BZ (h:=q_ (?_)));refine A6 rfl (fun hb7 hc7=>?_) (fun hb7 hc7=>?_)
  ·refine Bk (h:=?_);refine C5 (fun S=>∃z,z=(if j=0 then y.dir else y.file)∧S=⟨look [(3, .bp 0 0),(4, .bp 1 0),(5, .bp 2 0),(8, .bp 3 0),(47, .agg [.v (.int .i64 y.dir.1), .v (.int .i64 y.dir.2), .v (.int .i64 y.file.1), .v (.int .i64 y.file.2)]),(48, .v (.int .i64 (j:Int)))],⟨[AQ s,BR w,Mp y,A8 z],[]⟩⟩) ?_ ?_
   ·skip
    refine B2 (?_);refine A3 rfl (fY j rfl rfl (by omega) ?_);refine LA (h:=Bq (h:=?_));exact⟨_,⟨_,rfl,rfl⟩,Aj 4 0 rfl rfl rfl rfl ((by repeat (first|exact Sub.nil|refine Ak rfl rfl ?_|refine Ao ?_|refine Ap rfl ?_|refine Aq rfl ?_)))⟩
   rintro S ⟨z,hz,rfl⟩;refine C5 (fun S=>S=⟨look [(3, .bp 0 0),(4, .bp 1 0),(5, .bp 2 0),(47, .agg [.v (.int .i64 y.dir.1), .v (.int .i64 y.dir.2), .v (.int .i64 y.file.1), .v (.int .i64 y.file.2)]),(48, .v (.int .i64 (j:Int))),(60, .v (.bool (Mt s w.file z)))],⟨[AQ s,BR w,Mp y],[]⟩⟩) ?_ ?_
   ·skip
    refine B2 (Em (h:=?_));refine A3 rfl (AA (Vb s z hs) ?_);rintro r rfl;refine m_ (h:=?_);refine AF true rfl rfl (fun hb8 hc8=>?_) (fun hb8 hc8=>?_)
    ·refine l_ (h:=AN (h:=l_ (h:=?_)));refine Af (AA (aD s hs w.file z) ?_);rintro r rfl;refine Bc (h:=Bq (h:=?_));refine⟨_,rfl,Aj 3 0 rfl rfl rfl rfl (by repeat (first|exact Sub.nil|refine Ak rfl rfl ?_|(apply Sub.of;(focus exact rfl);(focus exact LeA.of_eq (vb (by first|rfl|exact(WD ‹_›).symm)));(focus exact rfl))))⟩
    refine EU (h:=G5 (h:=?_));refine⟨_,rfl,Aj 3 0 rfl rfl rfl rfl (by repeat (first|exact Sub.nil|refine Ak rfl rfl ?_|(apply Sub.of;(focus exact rfl);(focus exact LeA.of_eq (vb (by first|rfl|exact(WD ‹_›).symm)));(focus exact rfl))))⟩
   rintro S rfl;refine A6 rfl (fun hb9 hc9=>?_) (fun hb9 hc9=>?_)
   ·refine Cw (h:=BS (Gl (F6 (h:=?_))));refine A4 ?_
    first|(exfalso;first|contradiction|omega)|(exact vb (by first|(rw[GF hc1,hc3];simp[*];done)|(rw[GF hc1,hc3];rfl)|(have hj3:j=0∨j=1:=(by omega);rcases hj3 with rfl|rfl<;>simp_all [DN];done)|(simp[DN,hj1 (by omega),hj2 (by omega), *];done)|(simp[DN, *];done)))
   refine As (Am (t_ (B2 (Es (h:=?_)))));have hj3:j=0∨j=1:=by omega
   refine⟨_,_,?_,⟨j+1,by omega,rfl,?_,?_,rfl⟩,Aj 3 0 rfl rfl rfl rfl ((by repeat (first|exact Sub.nil|refine Ak rfl rfl ?_|refine Ao ?_|refine Ap rfl ?_|refine Aq rfl ?_)))⟩
   ·omega
   ·intro _;rcases hj3 with rfl|rfl
    ·rw[if_pos rfl]at hz;rw[←hz];assumption
    exact hj1 (by omega)
   intro q;rcases hj3 with rfl|rfl
   ·omega
   rw[if_neg (by omega)]at hz;rw[←hz];assumption
  refine MG (h:=Am (EX (h:=?_)));refine A4 ?_
  first|(exfalso;first|contradiction|omega)|(exact vb (by first|(rw[GF hc1,hc3];simp[*];done)|(rw[GF hc1,hc3];rfl)|(have hj3:j=0∨j=1:=(by omega);rcases hj3 with rfl|rfl<;>simp_all [DN];done)|(simp[DN,hj1 (by omega),hj2 (by omega), *];done)|(simp[DN, *];done)))
 refine As (Am (EX (h:=?_)));refine A4 ?_
 first|(exfalso;first|contradiction|omega)|(exact vb (by first|(rw[GF hc1,hc3];simp[*];done)|(rw[GF hc1,hc3];rfl)|(have hj3:j=0∨j=1:=(by omega);rcases hj3 with rfl|rfl<;>simp_all [DN];done)|(simp[DN,hj1 (by omega),hj2 (by omega), *];done)|(simp[DN, *];done)))
end
def qF(s:Spc)(r:Rul)(w:Wch)(x:Itm):Bool:=decide (JG .i64 x.perm r.perm≠0)&&DN s w x.dir x.name x.file
def Mw(s:Spc)(r:Rul)(w:Wch)(items:List Itm):Bool:=decide (r.watch≠0)&&items.any (qF s r w)
def Gd(s:Spc)(p:Pol)(items:List Itm):List Bool:=List.zipWith (fun r w=>Mw s r w items) p.rules p.wats
theorem g7{s:Spc}{p:Pol}{items:List Itm}{j:Nat}{r:Rul}{w:Wch}(hr:p.rules[j]?=some r)(hw:p.wats[j]?=some w):(Gd s p items)[j]?=some (Mw s r w items):=by
 simp[Gd,List.getElem?_zipWith,hr,hw]
theorem g8{s:Spc}{p:Pol}{items:List Itm}(h:p.wats.length=p.rules.length):(Gd s p items).length=p.rules.length:=by simp[Gd,h]
theorem WE{α:Type}(q:α→Bool):∀(l:List α) (i:Nat),decide (0≤D1 (fun _ x=>q x) l i)=l.any q
 |[],_=>rfl
 |x::xs,i=>by
   rw[D1,List.any_cons];split
   ·rename_i h;rw[h];simp
   rename_i h;rw[WE q xs (i+1)];simp[h]
def P9(b:Bool):AV:= .v (.bool b)
def HB(L:List Bool)(j:Nat):List AV:=(L.take j++List.replicate (L.length - j) false).map P9
theorem g9(L:List Bool){j:Nat}(h:j≤L.length):(HB L j).length=L.length:=by simp[HB];omega
theorem gA(L:List Bool):HB L 0=List.replicate L.length (.v (.bool false)):=by simp[HB,P9]
theorem gB{L:List Bool}{j:Nat}{b:Bool}(h:L[j]?=some b):(HB L j).set j (.v (.bool b))=HB L (j+1):=by
 obtain⟨hj,e⟩:=AP.1 h;unfold HB;rw[show(AV.v (.bool b))=P9 b from rfl,←List.map_set,List.take_succ_eq_append_getElem hj,e,show L.length - j=(L.length - (j+1))+1 by omega,List.replicate_succ]
 congr 1
 rw[List.set_append_right _ _ (by simp;omega)];simp[show min j L.length=j by omega]
theorem WF{L:List Bool}{j:Nat}(h:L[j]?=some false):HB L j=HB L (j+1):=by
 obtain⟨hj,e⟩:=AP.1 h;unfold HB;rw[List.take_succ_eq_append_getElem hj,e,show L.length - j=(L.length - (j+1))+1 by omega,List.replicate_succ,List.append_assoc];rfl
theorem WG{G:Gh}{w:World}{u:Value}:∀n:Nat,AE G w (List.replicate n (.v u)) (List.replicate n u)
 |0=>by simp[AE]
 |n+1=>by
   simp only[List.replicate_succ,AE,rep];exact⟨_,_,rfl,rfl,WG n⟩
section
variable {P:Program}{ev:Operand→Option AV}{h:AH}{R:AV→AH→Prop}{d:Option Tmp}{ty:TypeId}{pos:String}{af:Array Edge}{gd:Option (Nat×Bool)}
theorem gC{T:TypeId}{x y:Operand}{E bytes m k:Nat}{i j:Int}{u:Value}{bx':List (List AV)}[hE:Elm P T E 1 bytes][hzr:Zer P E [.v u]](hx:ev x=some (.v (.int .i64 i)))(hy:ev y=some (.v (.int .i64 j)))(hi:i=(m:Int))(hj:j=(m:Int))(hm0:0<m)(hm:m≤1000000)
    (hset:SnocAt h.bx (List.replicate m (.v u)) k bx') (hR:R (.bs k 0 1 m m) ⟨bx',h.tk⟩):AStep P ⟨d, .makeSlice T x y,ty,pos,af,gd⟩ ev h R:=by
 intro E' G w ec hr he;have k1:=he x (by simp[Op.operands]) _ hx;have k2:=he y (by simp[Op.operands]) _ hy;simp only[rep]at k1 k2;subst hi hj;obtain⟨hu,inf,z,hinf,hz,hzs,hs,hby,hp⟩:=FH hE.eq;have hw:IntKind.i64.wrap (m:Int)=m:=IntWalk.i64_in _ (by omega)
 have hbig:¬(inf.bytes:Int) * (m:Int)>2 ^ 48:=by
  have h1:inf.bytes * m≤100000 * 1000000:=Nat.mul_le_mul (by rw[hby];exact hE.few) (by omega);have h2:((inf.bytes * m:Nat):Int)≤100000000000:=by omega
  rw[Int.natCast_mul]at h2;omega
 have hneg:¬((m:Int)<0):=by omega
 obtain⟨zs,z1,z2,z3⟩:=hzr.eq;obtain⟨inf',z',k3,k4,k5⟩:=NG z1;rw[hinf]at k3;injection k3 with k3;subst k3;rw[hz]at k4;injection k4 with k4;subst k4
 obtain⟨v,rfl⟩:∃v,zs=[v]:=by
  match zs,z2 with
  |[v],_=>exact⟨v,rfl⟩
 obtain rfl:v=u:=by simpa using z2
 have hone:v.oneCell'=true:=by simpa using z3
 have hcells:((Array.range (m * 1)).map fun x=>z.cells[x % z.cells.size]!)=(List.replicate m v).toArray:=by
  rw[k5];apply Array.ext
  ·simp
  intro i h1 h2;simp[Nat.mod_one]
 have hrun:(Instr.makeSlice T (.int .i64 m) (.int .i64 m)).run P w= .ok (.slice (some ⟨w.heap.size,0,none⟩) m m) (w.alloc (.cells (List.replicate m v).toArray E)):=by
  rw[←hcells];have h0:¬m=0:=by omega
  have hnb:(inf.bytes:Int) * (m:Int)≤2 ^ 48:=by omega
  simp[Instr.makeSlice,run_underlying hu,asInt,asIntOf,typeInfo,hinf,hw,hneg,sizeOf,hs,h0,newRow,zeroValue,hz];omega
 obtain⟨G',s1,s2,s3⟩:=Ky (T:=E) hr (WG (u:=v) m) (fun q hq=>by rw[List.eq_of_mem_replicate hq];exact hone) hset;simp only[rep]at s3;obtain⟨b',s4,s5⟩:=s3;simp only[execOp,k1,k2,Sem.run_bind,hrun,Result.andThen_ok,Sem.run_pure];refine⟨_,_,G',hR,s1,s2,?_⟩;simp only[rep];injection s5 with s5;injection s5 with s5;injection s5 with s5;exact⟨b',s4,by rw[s5],Al _,by unfold maxLen;omega⟩
end
section
theorem gD(s:Spc)(r:Rul)(w:Wch)(x:Itm)(hs:SpcB s):AFn prog 72 [.agg (EA x), .fp (AJ r), .fp (AQ s), .fp (BR w)] (fun y=>y= .v (.bool (qF s r w x))):=by
 refine enter Tryz.func72 rfl rfl rfl rfl rfl 0 rfl ?_;refine w_ (b_ (h:=B5 (h:=Ah (h:=AN (h:=O2 (h:=E7 (h:=?_)))))));refine AF true rfl rfl (fun hb1 hc1=>?_) (fun hb1 hc1=>?_)
 ·refine Em (h:=l_ (h:=?_));refine Af (AA (fZ s w x hs) ?_);rintro r rfl;refine FN (h:=?_);refine A4 ?_
  first|(exfalso;first|contradiction|omega)|(exact vb (by simp_all [qF]))
 refine BF (h:=EY (h:=?_));refine A4 ?_
 first|(exfalso;first|contradiction|omega)|(exact vb (by simp_all [qF]))
theorem gE(l:List Itm)(hl:l.length≤1000)(q:Itm→Bool)(f:FuncId)(caps:List AV)[Fun prog f](hcl:H8 caps=true)(hbl:Aw 0 0 (.fn f caps)=true)
    (hp:∀x,AFn prog f ([.agg (EA x)]++caps) (fun y=>y= .v (.bool (q x)))):AFn prog 118 [.sl 13 (l.map EA) none, .fn f caps] (fun r=>r= .v (.int .i64 (D1 (fun _ x=>q x) l 0))):=by
 refine enter Tryz.func118 rfl rfl rfl rfl rfl 0 rfl ?_;refine w_ (Bi (h:=Fm (h:=e_ (BL (?_)))));refine BX (fun m t=>∃j:Nat,j≤l.length∧m=l.length - j∧D1 (fun _ x=>q x) (l.drop j) j=D1 (fun _ x=>q x) l 0∧t=⟨look [(0, .sl 13 (l.map EA) none),(1, .fn f caps),(7, .v (.int .i64 ((l.map EA).length:Int))),(8, .v (.int .i64 (j:Int)))],⟨[],[]⟩⟩) (l.length) (Aj 0 0 rfl rfl rfl rfl (by repeat (first|exact Sub.nil|refine Ak rfl rfl ?_|refine Sub.cons _ _ _ rfl hbl ?_|refine Ao ?_|refine Ap rfl ?_|refine Aq rfl ?_))) (⟨0,by omega,rfl,rfl,rfl⟩) ?_;rintro m t ⟨j,hj,rfl,ha,rfl⟩;refine w_ (BZ (h:=q_ (?_)));refine A6 rfl (fun hb1 hc1=>?_) (fun hb1 hc1=>?_)
 ·obtain⟨hlt,x,hy,hrow, -⟩:=Bw EA hc1;refine Bk (h:=Aa (h:=BJ (h:=DF (h:=Dh (h:=?_)))));refine A3 rfl (Pa (cy:=[]) rfl (by repeat (first|exact Args.nil|refine Args.cons _ _ _ _ _ rfl (JE rfl) ?_|refine Args.cons _ _ _ _ _ rfl (KF _) ?_|refine Args.cons _ _ _ _ _ rfl (Jh _) ?_|refine Args.cons _ _ _ _ _ rfl (KK rfl (by repeat (first|exact A9 _|exact LeA.nil _|exact LeL.refl _|refine LeA.agg ?_|refine LeA.tup ?_|exact LeL.nil|refine LeL.cons ?_ ?_|exact LeA.any _))) ?_)) hcl rfl (hp x) ?_);rintro y rfl;refine e_ (?_);refine A6 rfl (fun hb2 hc2=>?_) (fun hb2 hc2=>?_)
  ·refine Aa (h:=BK (h:=Bj (h:=?_)));refine A4 ?_
   first|(exfalso;first|contradiction|omega)|(exact vi (by rw[←ha,LL hy,if_pos hc2]))
  refine As (Am (t_ (B2 (Es (h:=?_)))));refine⟨_,_,?_,⟨j+1,by omega,rfl,(by rw[←ha,LL hy];simp[*]),rfl⟩,Aj 0 0 rfl rfl rfl rfl (by repeat (first|exact Sub.nil|refine Ak rfl rfl ?_|refine Sub.cons _ _ _ rfl hbl ?_|refine Ao ?_|refine Ap rfl ?_|refine Aq rfl ?_))⟩;omega
 have e3:=CS EA hj hc1;subst e3;refine FS (h:=?_);refine A4 ?_
 first|(exfalso;first|contradiction|omega)|(exact vi (by rw[←ha,Q4]))
theorem gF(l:List Itm)(hl:l.length≤1000)(q:Itm→Bool)(f:FuncId)(caps:List AV)[Fun prog f](hcl:H8 caps=true)(hbl:Aw 0 0 (.fn f caps)=true)
    (hp:∀x,AFn prog f ([.agg (EA x)]++caps) (fun y=>y= .v (.bool (q x)))):AFn prog 71 [.sl 13 (l.map EA) none, .fn f caps] (fun r=>r= .v (.bool (l.any q))):=by
 refine enter Tryz.func71 rfl rfl rfl rfl rfl 0 rfl ?_;refine w_ (BJ (h:=m_ (h:=?_)));refine A3 rfl (SC rfl (by repeat (first|exact Args.nil|refine Args.cons _ _ _ _ _ rfl (JE (by first|rfl|exact hcl)) ?_)) (gE l hl q f caps hcl hbl hp) ?_);rintro y rfl;refine E5 (h:=At (h:=?_));refine A4 ?_;exact vb (WE q l 0)
end
theorem WH:RowF 1 G9:=⟨fun _=>rfl,fun b y hy=> .inl ⟨.bool b,by simpa[G9]using hy⟩,by decide⟩
theorem WJ:∀L:List Bool,(L.map G9).flatten=L.map P9
 |[]=>rfl
 |x::xs=>by simp only[List.map_cons,List.flatten_cons,WJ xs];rfl
theorem WK{L:List Bool}{j:Nat}(h:j≤L.length):HB L j=LB 1 G9 (L.take j++List.replicate (L.length - j) false) L.length:=by
 unfold LB Br HB;rw[WJ];simp;omega
theorem gG(L:List Bool):HB L L.length=LB 1 G9 L L.length:=by
 rw[WK (Al _)];simp
theorem Mx{L:List Bool}{j n m:Nat}(h:j≤L.length):Az n m (HB L j)=true:=by rw[WK h];exact GZ WH
theorem gH{L:List Bool}{j:Nat}{b:Bool}(h:L[j]?=some b):SetAt (HB L j) (0+j * 1) (Bu (.v (.bool b))) (HB L (j+1)):=by
 have hj:j<L.length:=(AP.1 h).1;rw[←gB h,show 0+j * 1=j by omega];exact SetAt.put1 (by rw[g9 L (by omega)];exact hj)
section
theorem gJ(s:Spc)(p:Pol)(items:List Itm)(h0:p.rules=[]):AFn prog 32 [.agg (Au p), .agg (AQ s), .sl 13 (items.map EA) none] (fun r=>r= .sl 1 ((Gd s p items).map G9) none):=by
 rw[show Gd s p items=[] by simp[Gd,h0],show Au p=[.sl 8 [] none, .sl 6 (p.wats.map BR) none] by simp[Au,h0]];refine enter Tryz.func32 rfl rfl rfl rfl rfl 0 rfl ?_;refine Dg (h:=Ah (h:=n_ (h:=?_)));refine A3 rfl (Pb rfl rfl (by decide) (by repeat constructor) ?_);refine G2 (h:=Fm (h:=e_ (BL (?_))));refine BX (fun n S=>n=0∧S=⟨look [(7, .sl 1 [] (some 0)),(17, .v (.int .i64 0)),(18, .v (.int .i64 0))],⟨[[.sl 8 [] none, .sl 6 (p.wats.map BR) none],AQ s],[(4,1,[])]⟩⟩) (0) ((wk 2 1)) (⟨rfl,rfl⟩) ?_;rintro n S ⟨rfl,rfl⟩;refine w_ (BZ (h:=q_ (?_)));refine A6 rfl (fun hb1 hc1=>?_) (fun hb1 hc1=>?_)
 ·simp at hc1
 refine Cg (h:=Aa (h:=At (h:=?_)));refine A4 ?_;rfl
theorem gK(s:Spc)(p:Pol)(items:List Itm)(hs:SpcB s)(h0:0<p.rules.length)(h1:p.rules.length≤1000)(h2:p.wats.length=p.rules.length)(hit:items.length≤1000)(L:List Bool)(hL:Gd s p items=L):AFn prog 32 [.agg (Au p), .agg (AQ s), .sl 13 (items.map EA) none] (fun r=>r= .sl 1 (L.map G9) none):=by
 have hlen:L.length=p.rules.length:=by rw[←hL];exact g8 h2
 refine enter Tryz.func32 rfl rfl rfl rfl rfl 0 rfl ?_;refine Dg (h:=Ah (h:=n_ (h:=?_)));refine A3 rfl (gC (m:=L.length) rfl rfl (by simp[hlen]) (by simp[hlen]) (by omega) (by omega) (by repeat constructor) ?_);refine G2 (h:=Fm (h:=e_ (BL (?_))));refine BX (fun n S=>∃j:Nat,j≤p.rules.length∧n=p.rules.length - j∧S=⟨look [(2, .sl 13 (items.map EA) none),(3, .bp 0 0),(4, .bp 1 0),(7, .bs 2 0 1 L.length L.length),(16, .sl 8 (p.rules.map AJ) none),(17, .v (.int .i64 ((p.rules.map AJ).length:Int))),(18, .v (.int .i64 (j:Int)))],⟨[Au p,AQ s,HB L j],[]⟩⟩) (p.rules.length) (by rw[←gA];exact CK 3 0 (by simp[B4,Mx,Au,AQ,Az,Aw])) (⟨0,BO _,rfl,rfl⟩) ?_;rintro n S ⟨j,hj,rfl,rfl⟩;refine w_ (BZ (h:=q_ (?_)));refine A6 rfl (fun hb1 hc1=>?_) (fun hb1 hc1=>?_)
 ·obtain⟨hlt,r,hy,hrow, -⟩:=Bw AJ hc1;obtain⟨w,hyw⟩:∃w,p.wats[j]?=some w:=⟨_,BA (by omega)⟩;have hLj:=g7 (s:=s) (items:=items) hy hyw;rw[hL]at hLj;refine Bk (h:=Aa (h:=Dh (h:=D4 (h:=a_ (h:=s_ (h:=e_ (F7 (h:=C2 (h:=?_)))))))));refine A6 rfl (fun hb2 hc2=>?_) (fun hb2 hc2=>?_)
  ·have hb0:L[j]?=some false:=by rw[hLj];simp_all [Mw]
   refine Px (h:=Jb (t_ (B2 (Es (h:=?_)))));refine⟨_,_,?_,⟨j+1,by omega,rfl,rfl⟩,?_⟩
   ·omega
   first|(rw[←WF hb0];exact CK 3 0 (by simp[B4,Mx (L:=L) (j:=j) (by omega),Au,AQ,Az,Aw]))|exact CK 3 0 (by simp[B4,Mx (L:=L) (j:=j+1) (by omega),Au,AQ,Az,Aw])
  have hb2:L[j]?=some (items.any (qF s r w)):=by rw[hLj];simp_all [Mw]
  refine AK (Be (h:=m_ (h:=?_)));refine A3 rfl (AA (f9 p j w (by omega) hyw) ?_);rintro r rfl;refine CY (h:=BV (h:=DF (h:=Pr (h:=?_))));refine A3 rfl (Pg rfl (by repeat (first|exact ArgsL.nil|refine ArgsL.cons _ _ _ _ _ rfl rfl ?_)) (gF items hit (qF s r w) 72 [.fp (AJ r), .fp (AQ s), .fp (BR w)] rfl rfl fun x=>gD s r w x hs) ?_);rintro x rfl;refine⟨rfl,?_⟩;refine A3 rfl (Cr (m:=j) rfl rfl rfl (by omega) ?_);refine Ng (F1 (row':=HB L (j+1)) rfl rfl rfl rfl rfl rfl (gH hb2) (by repeat constructor) ?_);refine CP (Am (t_ (B2 (Es (h:=?_)))));refine⟨_,_,?_,⟨j+1,by omega,rfl,rfl⟩,?_⟩
  ·omega
  first|(rw[←WF hb0];exact CK 3 0 (by simp[B4,Mx (L:=L) (j:=j) (by omega),Au,AQ,Az,Aw]))|exact CK 3 0 (by simp[B4,Mx (L:=L) (j:=j+1) (by omega),Au,AQ,Az,Aw])
 have e:=CS AJ hj hc1;subst e;refine Cg (h:=?_);refine C5 (fun S=>S=⟨look [(6, .sl 1 (L.map G9) none)],⟨[Au p,AQ s],[]⟩⟩) ?_ ?_
 ·skip
  refine BV (h:=E8 (h:=?_));rw[←hlen,gG];exact⟨_,rfl,Co 2 1 rfl rfl (.cons _ _ _ _ rfl (LeA.of_eq (RL WH rfl rfl (Al _))) .nil)⟩
 rintro S rfl;refine Ax (?_);refine A4 ?_;rfl
end
def Rb(c:Ctx):Ctx:={c with phase:=2}
def PA(s:Spc)(p:Pol)(c:Ctx):Int:=D1 (Jv 3 (Gd s p c.items) (Rb c)) p.rules 0
def K7(s:Spc)(p:Pol)(c:Ctx):Vdt:=if c.audited=false then Mv else if 0≤P8 p c then JV p.rules (P8 p c)else JV p.rules (PA s p c)
section
theorem gL(s:Spc)(p:Pol)(items:List Itm)(hs:SpcB s)(h1:p.rules.length≤1000)(h2:p.wats.length=p.rules.length)(hit:items.length≤1000):AFn prog 32 [.agg (Au p), .agg (AQ s), .sl 13 (items.map EA) none] (fun r=>r= .sl 1 ((Gd s p items).map G9) none):=by
 rcases Nat.eq_zero_or_pos p.rules.length with h0|h0
 ·exact gJ s p items (Dr h0)
 exact gK s p items hs h0 h1 h2 hit _ rfl
variable (s:Spc)(p:Pol)(c:Ctx)(k:Cxs)(hs:SpcB s)(h1:p.rules.length≤1000)(h2:p.wats.length=p.rules.length)(ht:∀r∈p.rules,r.tests.length≤1000)(hit:c.items.length≤1000)
include hs h1 h2 ht hit
theorem gM:AFn prog 24 [.agg (Au p), .agg (AQ s), .agg (EB c k)] (fun r=>r= .agg (Lw (JV p.rules (PA s p c)))):=by
 refine enter Tryz.func24 rfl rfl rfl rfl rfl 0 rfl ?_;refine w_ (b_ (h:=b_ (h:=b_ (h:=D4 (h:=e_ (w_ (f_ (h:=s_ (h:=e_ (q_ (Bz ([(0,Au p),(1,AQ s),(2,EB (Rb c) k)]) 12 (h:=AD 0 (h:=Ar 1 (h:=AD 2 (h:=AD 3 (h:=AD 4 (h:=Ar 5 (h:=AD 6 (h:=AD 8 (h:=?_))))))))))))))))))));refine c_ 7 rfl (AA (gL s p c.items hs h1 h2 hit) ?_);rintro r rfl;refine o_ (h:=?_);refine c_ 9 rfl (AA (TH p.rules 3 (Gd s p c.items) (Rb c) k h1 hit ht) ?_);rintro r rfl;refine o_ (h:=?_);refine c_ 10 rfl (AA (Ra p (PA s p c) (WB _ _) h1) ?_);rintro r rfl;refine o_ (h:=?_);refine CG 11 (h:=z_ (h:=t_ (Ax (?_))));refine A4 ?_;rfl
theorem WM:AFn prog 26 [.agg (Au p), .agg (AQ s), .agg (EB c k)] (fun r=>r= .agg (Lw (K7 s p c))):=by
 refine enter Tryz.func26 rfl rfl rfl rfl rfl 0 rfl ?_;refine EV (h:=EL (h:=e_ (q_ (w_ (Fy (h:=Dj (h:=?_)))))));refine A6 rfl (fun hb1 hc1=>?_) (fun hb1 hc1=>?_)
 ·have k1:c.audited=false:=by simpa using hc1
  refine Be (h:=?_);refine A3 rfl (AA (Ra p (-1) (.inl (by decide)) h1) ?_);rintro r rfl;refine s_ (h:=e_ (Ax (BS (?_))));refine A4 ?_;rw[K7,if_pos k1,←W7 (l:=p.rules) (i:= -1) (by decide)];rfl
 have k1:¬c.audited=false:=by simpa using hc1
 refine FR (h:=Bl (h:=?_));refine A3 rfl (AA (fX p c k h1 ht) ?_);rintro r rfl;refine Dt (h:=BJ (h:=e_ (?_)));refine A6 rfl (fun hb2 hc2=>?_) (fun hb2 hc2=>?_)
 ·refine D6 (h:=e_ (Ax (BS (?_))));refine A4 ?_;rw[K7,if_neg k1,if_pos (by simpa using hc2)];rfl
 refine AK (Bl (h:=l_ (h:=?_)));refine A3 rfl (AA (gM s p c k hs h1 h2 ht hit) ?_);rintro r rfl;refine s_ (h:=e_ (Ax (?_)));refine A4 ?_;rw[K7,if_neg k1,if_neg (by simpa using hc2)];rfl
variable (hv:SpcV s)
include hv
end
end Go.Proofs.YtbgnigjfkbmceaaGreatDoor
