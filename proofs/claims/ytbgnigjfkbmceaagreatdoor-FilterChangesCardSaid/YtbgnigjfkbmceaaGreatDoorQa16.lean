/-
  Part 16 of the proof of FilterChangesP: what the statement's proof uses of the texts in wip/tpl.
-/
import Derived.Test.YtbgnigjfkbmceaaGreatDoorQa15
open Go.Proofs.Tryz (prog)
set_option maxRecDepth 10000
set_option maxHeartbeats 4000000
set_option linter.unusedVariables false
set_option linter.unusedSimpArgs false
namespace Go.Proofs.YtbgnigjfkbmceaaGreatDoor
open Go.RowKit
def E6(s:Spc)(l:List Rul):List Wch:=l.map fun r=>(CF s r).1
theorem dT{s:Spc}{l:List Rul}{j:Nat}{r:Rul}(h:l[j]?=some r):(E6 s (l.take (j+1))).map Bo=(E6 s (l.take j)).map Bo++[Bo (CF s r).1]:=by
 simp[E6,List.take_add_one,h]
theorem dU{s:Spc}{l:List Rul}{j:Nat}{r:Rul}(h:l[j]?=some r)(ha:∀r∈l.take j,(CF s r).2=0)(hr:(CF s r).2=0):∀r∈l.take (j+1),(CF s r).2=0:=by
 intro x hx;rw[List.take_add_one,h]at hx;rcases List.mem_append.1 hx with hx|hx
 ·exact ha x hx
 have e:x=r:=by simpa using hx
 rw[e];exact hr
theorem dV{s:Spc}{l:List Rul}(h:Cf l≠0):GL s l=(DA,Cf l):=by rw[GL,if_pos h]
theorem dW{s:Spc}{l:List Rul}{r:Rul}(h:¬Cf l≠0)(hr:r∈l)(hp:(CF s r).2≠0):GL s l=(DA,(CF s r).2):=by
 rw[GL,if_neg h,if_neg]
 ·rcases dR s r with e|e
  ·exact absurd e hp
  rw[e]
 intro k;exact hp (of_decide_eq_true (List.all_eq_true.1 k r hr))
theorem UW{s:Spc}{l:List Rul}(h:¬Cf l≠0)(ha:∀r∈l,(CF s r).2=0):GL s l=(⟨l,E6 s l⟩,0):=by
 rw[GL,if_neg h,if_pos]
 ·rfl
 exact List.all_eq_true.2 fun r hr=>decide_eq_true (ha r hr)
theorem Fd{x:Pol×Int}{e:Int}(h:x=(DA,e)):LeA (.tup [.agg [.v (.slice none 0 0), .v (.slice none 0 0)], .v (.int .i64 e)]) (DC x):=by
 rw[h];exact(by repeat (first|exact AZ _|exact LeA.nil _|exact LeL.refl _|refine LeA.agg ?_|refine LeA.tup ?_|exact LeL.nil|refine LeL.cons ?_ ?_|exact LeA.any _))
section
theorem dY(s:Spc)(l:List Rul)(hv:SpcV s)(hm:s.mounts.length≤1000)(hl:l.length≤1000)(hi:∀r∈l,CN r):AFn prog 41 [.sl 8 (l.map AO) none, .agg (Ag s)] (fun x=>x=DC (GL s l)):=by
 have hplc:∀r,CN r→AFn prog 86 [.agg (Ag s), .agg (AO r)] (fun x=>x= .tup [.agg (Bo (CF s r).1), .v (.int .i64 (CF s r).2)]):=fun r h=>QH s r hv hm h;refine enter Tryz.func41 rfl rfl rfl rfl rfl 0 rfl ?_;refine w_ (b_ (h:=Aa (h:=a_ (h:=e_ (q_ (w_ (m_ (h:=?_))))))));refine A6 rfl (AE (Le l hl hi) ?_);rintro r rfl;refine a_ (h:=e_ (w_ (m_ (h:=Aj (h:=e_ (?_))))));refine A9 rfl (fun hb1=>?_) (fun hb1=>?_)
 ·have hc1:=bp hb1;have k1:Cf l≠0:=by simpa using hc1
  refine w_ (Ab (h:=m_ (h:=s_ (h:=a_ (h:=e_ (A4 (A7 (?_))))))));refine Am (r:=DC (GL s l)) none (h5:=?_) (h6:=⟨rfl,rfl,rfl⟩);exact Fd (dV k1)
 have hc1:=bp hb1;have k1:¬Cf l≠0:=by simpa using hc1
 refine AA (w_ (Aa (h:=e_ (q_ (w_ (m_ (h:=n_ (h:=m_ (h:=e_ (Af (?_)))))))))));refine MY 2 0 83 8 rfl rfl (by repeat constructor) (by repeat constructor) (by repeat constructor) ?_;refine MY 2 1 93 6 rfl rfl (by repeat constructor) (by repeat constructor) (by repeat constructor) ?_;refine BW (fun n S=>∃j:Nat,j≤l.length∧n=l.length - j∧(∀r∈l.take j,(CF s r).2=0)∧S=⟨look [(3, .bp 0 0),(4, .bp 1 0),(7, .bp 2 0),(18, .sl 8 (l.map AO) none),(19, .v (.int .i64 ((l.map AO).length:Int))),(20, .v (.int .i64 (j:Int)))],⟨[Ag s,[.v (.slice none 0 0), .v (.slice none 0 0)],[.sl 8 ((l.take j).map AO) (some 0), .sl 6 ((E6 s (l.take j)).map Bo) (some 1)]],[(83,8,(l.take j).map AO),(93,6,(E6 s (l.take j)).map Bo)]⟩⟩) (l.length) ((wk 3 2)) (⟨0,BO _,rfl,by simp,rfl⟩) ?_;rintro n S ⟨j,hj,rfl,ha,rfl⟩;refine w_ (B1 (h:=e_ (q_ (?_))));refine A9 rfl (fun hb2=>?_) (fun hb2=>?_)
 ·have hc2:=bp hb2;obtain⟨hlt,r,hy,hrow,e⟩:=Br AO hc2;refine AA (q_ (Af (w_ (i_ (h:=l_ (h:=Aa (h:=s_ (h:=e_ (w_ (l_ (h:=l_ (h:=?_))))))))))));refine A6 rfl (AE (hplc r (hi r (Ar hy))) ?_);rintro r rfl;refine m_ (h:=x_ (h:=x_ (h:=Aa (h:=s_ (h:=a_ (h:=e_ (q_ (w_ (m_ (h:=Aj (h:=e_ (?_))))))))))));refine A9 rfl (fun hb3=>?_) (fun hb3=>?_)
  ·have hc3:=bp hb3;have k2:(CF s r).2≠0:=by simpa using hc3
   refine w_ (Ab (h:=m_ (h:=s_ (h:=a_ (h:=e_ (A4 (A7 (AR (A7 (A7 (AR (A7 (?_)))))))))))));refine Am (r:=DC (GL s l)) none (h5:=?_) (h6:=⟨rfl,rfl,rfl⟩);exact Fd (dW k1 (Ar hy) k2)
  have hc3:=bp hb3;have k2:(CF s r).2=0:=by simpa using hc3
  refine AA (q_ (CB ([(0,Ag s),(1,[.v (.slice none 0 0), .v (.slice none 0 0)]),(2,[.sl 8 ((l.take j).map AO) (some 0), .sl 6 ((E6 s (l.take j)).map Bo) (some 1)]),(3,AO r)]) 6 (h:=Az 0 (h:=AY 1 (h:=AY 2 (h:=?_))))));refine c_ 3 rfl (AE (dS r (hi r (Ar hy)).2.2.2) ?_);rintro r rfl;refine o_ (h:=Mf 4 (h:=?_))
  first|refine c_ 5 rfl (E0 rfl rfl rfl (by simp[E6]<;>omega) (by repeat constructor) ?_)|refine c_ 5 rfl (E1 rfl rfl (by simp[E6]<;>omega) (by repeat constructor) ?_)
  refine o_ (h:=?_);refine c_ 6 rfl (Dy rfl ?_);refine o_ (h:=?_);refine Bi 7 rfl (Ba rfl rfl rfl rfl rfl rfl (by repeat constructor) (by repeat constructor) ?_);refine o_ (h:=z_ (h:=t_ (AT (f_ (h:=l_ (h:=l_ (h:=Bc (h:=?_))))))))
  first|refine A6 rfl (E0 rfl rfl rfl (by simp[E6]<;>omega) (by repeat constructor) ?_)|refine A6 rfl (E1 rfl rfl (by simp[E6]<;>omega) (by repeat constructor) ?_)
  refine f_ (h:=s_ (h:=AP (Ai (t_ (AT (B5 (h:=m_ (h:=AP (?_)))))))));refine AK ?_;refine⟨_,_,?_,⟨j+1,by omega,rfl,dU hy ha k2,rfl⟩,?_⟩
  ·omega
  rw[e,dT hy];exact(wk 3 2)
 have hc2:=bp hb2;have e:=C5 AO hj hc2;subst e;rw[List.take_length]at ha ⊢;refine BH (Ah (Ah (BJ (t_ (w_ (l_ (h:=s_ (h:=a_ (h:=e_ (A4 (?_)))))))))));refine A8 ?_;rw[UW k1 ha];rfl
end
section
theorem dZ(l:List Int)(a:Nat)(ha:a≤100000000000):E2 prog 84 l a [] 4 (fun r=>∃s:ByteArray,r= .v (.string s)∧s.size≤60):=by
 refine enter Tryz.func84 rfl rfl rfl rfl rfl 1 rfl ?_;refine w_ (a_ (h:=e_ (w_ (a_ (h:=e_ (q_ (w_ (m_ (h:=Bc (h:=?_))))))))));refine A6 rfl (Au 0 (hc:=EC l _ _ (fun z=>decide (1≤z∧z≤3)) (by omega) (by rfl) (by rfl) (by rfl)) (hR:=?_));rintro r a1 ha1 ⟨k1,rfl,p1⟩;refine⟨rfl,_,(by repeat constructor),?_⟩;obtain⟨hz1,hz2⟩:=of_decide_eq_true p1;obtain⟨m,rfl⟩:=Int.eq_ofNat_of_zero_le (show 0≤k1 by omega);refine a_ (h:=e_ (Af (?_)));refine BW (fun n s=>∃(j a1:Nat) (t:ByteArray),j≤m∧n=j∧a1≤a+1+(m - j)∧t.size≤2 * (m - j)∧s=⟨look [(0, .bp 0 0),(3, .v (.string t)),(4, .v (.int .i64 (j:Int)))],⟨[D1 l a1],[]⟩⟩) (m) ((wk 1 0)) (⟨m,a1,⟨#[]⟩,by omega,rfl,by omega,by rw[Nat.sub_self];exact Aw 0,rfl⟩) ?_;rintro n s ⟨j,b1,t,hj,hn,hb1,ht,rfl⟩;subst n;refine q_ (w_ (m_ (h:=Bf (h:=e_ (?_)))));refine A9 rfl (fun hb1=>?_) (fun hb1=>?_)
 ·have hc1:=bp hb1;refine AA (q_ (Af (AT (m_ (h:=m_ (h:=Bc (h:=?_)))))));refine A6 rfl (Au 0 (hc:=JL l _ _ (fun s=>decide (s.size≤1)) (by omega) (by rfl) (by rfl) (by rfl)) (hR:=?_));rintro r a2 ha2 ⟨k2,rfl,p2⟩;refine⟨rfl,_,(by repeat constructor),?_⟩;have hw:=of_decide_eq_true p2;refine A6 rfl (Dr rfl rfl (by show 1+k2.size≤_;omega) ?_);refine A6 rfl (Dr rfl rfl (by have e:=ByteArray.size_append (a:=⟨#[47]⟩) (b:=k2);have:(⟨#[47]⟩:ByteArray).size=1:=rfl;omega) ?_);refine a_ (h:=AP (Ai (t_ (AT (m_ (h:=G8 (h:=a_ (h:=AP (?_)))))))));refine AK ?_;obtain⟨j,rfl⟩:∃i,j=i+1:=⟨j - 1,by omega⟩;refine⟨_,_,?_,⟨j,_,_,by omega,rfl,?_,?_,rfl⟩,Ay 1 0 rfl rfl rfl rfl (by repeat (first|exact Sub.nil|refine B0 rfl rfl ?_|(apply Sub.of;(focus exact rfl);(focus exact LeA.of_eq (vi (by omega)));(focus exact rfl))))⟩
  ·omega
  ·omega
  have e:=ByteArray.size_append (a:=⟨#[47]⟩) (b:=k2);have e2:=ByteArray.size_append (a:=t) (b:=⟨#[47]⟩++k2);have:(⟨#[47]⟩:ByteArray).size=1:=rfl;omega
 have hc1:=bp hb1;refine BH (Ah (Ah (BJ (t_ (w_ (m_ (h:=a_ (h:=e_ (A4 (?_))))))))));refine Am none (h5:=(AZ _)) (h6:=⟨_,rfl,rfl,b1,by omega,rfl,t,rfl,by omega⟩)
end
def Bare(s:Spc):Prop:=FlsV s.files∧0<s.files.length∧s.mounts=[]
theorem Bare.v{s:Spc}(h:Bare s):SpcV s:=⟨h.1,h.2.1,fun i m hm=>by rw[h.2.2]at hm;cases hm⟩
theorem Bare.m{s:Spc}(h:Bare s):s.mounts.length≤1000:=by rw[h.2.2];exact BO _
def eB(s:Syst):Prop:=Bare s.spc∧TabB s.tab
theorem UX:eB (Fr 1).1:=by
 have h:=TA (k:=1) (by decide) (by decide)
 have e:(Fr 1).1=⟨⟨(E3 1).1,[]⟩,Pz (0,1)⟩:=by
  unfold Fr;rw[if_neg (by decide)]
 rw[e];exact⟨⟨h.1,h.2,rfl⟩,⟨by decide,by decide,by decide,by decide⟩⟩
def KG(x:Wch):List Value:=[.int .i64 x.kind, .int .i64 x.dir.1, .int .i64 x.dir.2, .string x.name, .int .i64 x.file.1, .int .i64 x.file.2]
theorem UY(x:Wch):AllV (Bo x) (KG x):=by repeat constructor
set_option maxRecDepth 10000 in
set_option maxHeartbeats 2000000 in
theorem eC(op:BinOp)(x y:Wch)(w:World)(h:op= .eql∨op= .neq):(binOp op 93 (.agg (KG x).toArray) (.agg (KG y).toArray)).run prog w= .ok (.bool (decide (x=y)==decide (op= .eql))) w:=by
 have u3:=Tryz.underlying3;have a3:=Tryz.isAgg3;have z3:=Tryz.sizeOf3;have u9:=Tryz.underlying9;have a9:=Tryz.isAgg9;have z9:=Tryz.sizeOf9;have u5:=Tryz.underlying26;have a5:=Tryz.isAgg26;have z5:=Tryz.sizeOf26;have hS:prog.underlying 93=some (.struct (prog.fieldsOf 93)):=by kernel_rfl
 have hp:prog.stoodInHeld 93=false:=by kernel_rfl
 have hSF:prog.underlying 26=some (.struct (prog.fieldsOf 26)):=by kernel_rfl
 have hpF:prog.stoodInHeld 26=false:=by kernel_rfl
 have eF:∀(d:Nat) (a b a' b':Int) (w:World),(Op.equalIn (d+2) 26 (.agg #[.int .i64 a, .int .i64 b]) (.agg #[.int .i64 a', .int .i64 b'])).run prog w= .ok (a==a'&&b==b') w:=by
  intro d a b a' b' w;rw[run_equalIn_agg w (d+1) 26 _ _ hSF hpF];simp only[Program.fieldsOf,Tryz.underlying26]
  go_simp
  by_cases h1:a=a'<;>by_cases h2:b=b'<;>simp[h1,h2]
 obtain⟨k,⟨d1,d2⟩,n,⟨f1,f2⟩⟩:=x;obtain⟨k',⟨d1',d2'⟩,n',⟨f1',f2'⟩⟩:=y
 have hn:¬n=n'→¬n.toList=n'.toList:=fun h e=>by
  have:=UJ n n';rw[e]at this;simp[h]at this
 have e:∀w,(Op.equalIn 10000 93 (.agg (KG ⟨k,(d1,d2),n,(f1,f2)⟩).toArray) (.agg (KG ⟨k',(d1',d2'),n',(f1',f2')⟩).toArray)).run prog w= .ok (decide (Wch.mk k (d1,d2) n (f1,f2)=Wch.mk k' (d1',d2') n' (f1',f2'))) w:=by
  intro w;rw[show(10000:Nat)=9999+1 from rfl,run_equalIn_agg w 9999 93 _ _ hS hp];simp only[Program.fieldsOf,Tryz.underlying93,KG]
  go_simp
  by_cases h1:k=k'<;>by_cases h2:d1=d1'<;>by_cases h3:d2=d2'<;>by_cases h4:n=n'<;>by_cases h5:f1=f1'<;>by_cases h6:f2=f2'<;>first|(simp[h1,h2,h3,h4,h5,h6];done)|(simp[h1,h2,h3,h4,h5,h6];exact hn h4)
 rcases h with rfl|rfl
 ·rw[run_eql_struct,e];simp
 rw[run_neq_struct,e];simp
theorem UZ{ev:Operand→Option AV}{h:AH}{R:AV→AH→Prop}{d:Option Tmp}{ty:TypeId}{pos:String}{af:Array Edge}{gd:Option (Nat×Bool)}{yT:TypeId}{x y:Operand}(a b:Wch)(hx:ev x=some (.agg (Bo a)))(hy:ev y=some (.agg (Bo b)))(hR:R (.v (.bool (!decide (a=b)))) h):AStep prog ⟨d, .binOp .neq 93 x y yT,ty,pos,af,gd⟩ ev h R:=
 Ed hx hy (UY a) (UY b) (fun w=>(eC .neq a b w (.inr rfl)).trans (by simp)) (by kernel_rfl) hR
theorem Ua{s:Spc}{p:Pol}{j:Nat}{r:Rul}{w:Wch}(hr:p.rules[j]?=some r)(hw:p.wats[j]?=some w)(ha:∀i r w,i<j→p.rules[i]?=some r→p.wats[i]?=some w→EQ s r w=true)(h:EQ s r w=true):∀i r w,i<j+1→p.rules[i]?=some r→p.wats[i]?=some w→EQ s r w=true:=by
 intro i r' w' hi h1 h2;rcases Nat.lt_or_ge i j with c|c
 ·exact ha i r' w' c h1 h2
 obtain rfl:i=j:=by omega
 rw[hr]at h1;rw[hw]at h2;cases h1;cases h2;exact h
theorem eD{s:Spc}{p:Pol}(h:Cf p.rules≠0):GM s p=false:=by simp[GM,h]
theorem eG{s:Spc}{p:Pol}(h:p.wats.length≠p.rules.length):GM s p=false:=by simp[GM,h]
theorem QJ{s:Spc}{p:Pol}{j:Nat}{r:Rul}{w:Wch}(hr:p.rules[j]?=some r)(hw:p.wats[j]?=some w)(h:EQ s r w=false):GM s p=false:=by
 have:((p.rules.zip p.wats).all fun x=>EQ s x.1 x.2)=false:=by
  rw[List.all_eq_false];refine⟨(r,w),Ar (i:=j) ?_,by simp[h]⟩;rw[List.getElem?_zip_eq_some];exact⟨hr,hw⟩
 simp[GM,this]
theorem Ub{s:Spc}{p:Pol}(h1:Cf p.rules=0)(h2:p.wats.length=p.rules.length)(ha:∀i r w,i<p.rules.length→p.rules[i]?=some r→p.wats[i]?=some w→EQ s r w=true):GM s p=true:=by
 have:((p.rules.zip p.wats).all fun x=>EQ s x.1 x.2)=true:=by
  rw[List.all_eq_true];rintro⟨r,w⟩ hx;obtain⟨i,hi⟩:=List.getElem?_of_mem hx;rw[List.getElem?_zip_eq_some]at hi;exact ha i r w (Al.1 hi.1).1 hi.1 hi.2
 simp[GM,h1,h2,this]
section
variable (s:Spc)(p:Pol)(hs:SpcB s)(h1:p.rules.length≤1000)(h2:p.wats.length≤1000)(hi:∀r∈p.rules,CN r)(hn:∀w∈p.wats,w.name.size≤100000)
include hs h1 hi
theorem eH:AFn prog 44 [.agg (BV p), .agg (Ag s)] (fun r=>r= .v (.bool (GM s p))):=by
 refine enter Tryz.func44 rfl rfl rfl rfl rfl 0 rfl ?_;refine w_ (b_ (h:=b_ (h:=a_ (h:=e_ (q_ (w_ (f_ (h:=l_ (h:=?_)))))))));refine A6 rfl (AE (Le p.rules h1 hi) ?_);rintro r rfl;refine Aj (h:=m_ (h:=?_));refine AU false rfl rfl (fun hb1=>?_) (fun hb1=>?_)
 ·have hc1:=bp hb1;have k1:Cf p.rules≠0:=by simpa using hc1
  refine A3 (h:=A3 (h:=A3 (h:=A3 (h:=A3 (h:=A3 (h:=A3 (h:=AD (h:=e_ (B6 (h:=w_ (a_ (h:=e_ (A4 (A7 (?_)))))))))))))));refine A8 ?_
  first|(exfalso;first|contradiction|omega)|(exact vb (by exact(eD k1).symm))
 have hc1:=bp hb1;have k1:Cf p.rules=0:=by simpa using hc1
 refine f_ (h:=l_ (h:=n_ (h:=f_ (h:=l_ (h:=n_ (h:=Aj (h:=AG (h:=e_ (?_)))))))));refine A9 rfl (fun hb2=>?_) (fun hb2=>?_)
 ·have hc2:=bp hb2;have k2:p.wats.length≠p.rules.length:=by simp at hc2;omega
  refine w_ (a_ (h:=e_ (A4 (A7 (?_)))));refine A8 ?_
  first|(exfalso;first|contradiction|omega)|(exact vb (by exact(eG k2).symm))
 have hc2:=bp hb2;have hlen:p.wats.length=p.rules.length:=by simp at hc2;omega
 refine AA (q_ (w_ (f_ (h:=l_ (h:=n_ (h:=m_ (h:=e_ (Af (?_)))))))));refine BW (fun n S=>∃j:Nat,j≤p.rules.length∧n=p.rules.length - j∧(∀i r w,i<j→p.rules[i]?=some r→p.wats[i]?=some w→EQ s r w=true)∧S=⟨look [(2, .bp 0 0),(3, .bp 1 0),(22, .sl 8 (p.rules.map AO) none),(23, .v (.int .i64 ((p.rules.map AO).length:Int))),(24, .v (.int .i64 (j:Int)))],⟨[BV p,Ag s],[]⟩⟩) (p.rules.length) ((wk 2 0)) (⟨0,BO _,rfl,fun i _ _ h=>absurd h (Nat.not_lt_zero i),rfl⟩) ?_;rintro n S ⟨j,hj,rfl,ha,rfl⟩;refine w_ (B1 (h:=e_ (q_ (?_))));refine A9 rfl (fun hb3=>?_) (fun hb3=>?_)
 ·have hc3:=bp hb3;obtain⟨hlt,r,hy,hrow, -⟩:=Br AO hc3;obtain⟨w,hyw⟩:∃w,p.wats[j]?=some w:=⟨_,BQ (by omega)⟩;have hroww:(p.wats.map Bo)[j]?=some (Bo w):=by rw[List.getElem?_map,hyw];rfl
  refine AA (q_ (Af (w_ (m_ (h:=i_ (h:=l_ (h:=Aa (h:=a_ (h:=s_ (h:=e_ (w_ (f_ (h:=l_ (h:=m_ (h:=i_ (h:=l_ (h:=Aa (h:=s_ (h:=e_ (w_ (f_ (h:=l_ (h:=AN (h:=?_))))))))))))))))))))))));refine e_ (?_);refine A9 rfl (fun hb4=>?_) (fun hb4=>?_)
  ·have hc4:=bp hb4;refine w_ (l_ (h:=Ab (h:=?_)));refine A6 rfl (UZ w DU rfl rfl ?_);refine e_ (?_);refine A9 rfl (fun hb5=>?_) (fun hb5=>?_)
   ·have hc5:=bp hb5;refine w_ (a_ (h:=e_ (A4 (AR (A7 (A7 (AR (A7 (?_)))))))));refine A8 ?_
    first|(exfalso;first|contradiction|omega)|(exact vb (by exact(QJ hy hyw (by simp_all [EQ])).symm))
   have hc5:=bp hb5;refine Av (Ai (t_ (AT (B5 (h:=m_ (h:=AP (?_)))))));refine AK ?_;refine⟨_,_,?_,⟨j+1,by omega,rfl,Ua hy hyw ha (by simp_all [EQ]),rfl⟩,(wk 2 0)⟩;omega
  have hc4:=bp hb4;refine w_ (f_ (h:=l_ (h:=f_ (h:=l_ (h:=Aj (h:=m_ (h:=?_)))))));refine AU false rfl rfl (fun hb6=>?_) (fun hb6=>?_)
  ·have hc6:=bp hb6;refine A3 (h:=A3 (h:=A3 (h:=A3 (h:=AD (h:=e_ (B6 (h:=w_ (a_ (h:=e_ (A4 (AR (A7 (A7 (AR (A7 (?_))))))))))))))));refine A8 ?_
   first|(exfalso;first|contradiction|omega)|(exact vb (by exact(QJ hy hyw (by simp_all [EQ])).symm))
  have hc6:=bp hb6;refine l_ (h:=l_ (h:=?_));refine Ax (AE (cT s w hs) ?_);rintro r rfl;refine B7 (h:=AG (h:=e_ (?_)));refine A9 rfl (fun hb7=>?_) (fun hb7=>?_)
  ·have hc7:=bp hb7;refine w_ (a_ (h:=e_ (A4 (AR (A7 (A7 (AR (A7 (?_)))))))));refine A8 ?_
   first|(exfalso;first|contradiction|omega)|(exact vb (by exact(QJ hy hyw (by simp_all [EQ])).symm))
  have hc7:=bp hb7;refine Av (Ai (t_ (AT (B5 (h:=m_ (h:=AP (?_)))))));refine AK ?_;refine⟨_,_,?_,⟨j+1,by omega,rfl,Ua hy hyw ha (by simp_all [EQ]),rfl⟩,(wk 2 0)⟩;omega
 have hc3:=bp hb3;have e:=C5 AO hj hc3;subst e;refine BH (Ah (Ah (BJ (t_ (w_ (a_ (h:=e_ (A4 (?_)))))))));refine A8 ?_
 first|(exfalso;first|contradiction|omega)|(exact vb (by exact(Ub k1 hlen ha).symm))
include hn
end
section
theorem Uc(p:Pol)(h1:p.rules.length≤1000)(h2:p.wats.length≤1000)(ht:∀r∈p.rules,r.tests.length≤1000):AFn prog 43 [.agg (BV p), .agg (BV p)] (fun r=>r= .v (.bool true)):=by
 refine enter Tryz.func43 rfl rfl rfl rfl rfl 0 rfl ?_;refine w_ (b_ (h:=b_ (h:=a_ (h:=e_ (q_ (w_ (f_ (h:=l_ (h:=f_ (h:=l_ (h:=?_)))))))))));refine A6 rfl (AE (dD p.rules p.rules h1 ht) ?_);rintro r rfl;refine B7 (h:=m_ (h:=?_));refine AU false rfl rfl (fun hb1=>?_) (fun hb1=>?_)
 ·have hc1:=bp hb1;simp at hb1
 have hc1:=bp hb1;refine f_ (h:=l_ (h:=n_ (h:=f_ (h:=l_ (h:=n_ (h:=Aj (h:=AG (h:=e_ (?_)))))))));refine A9 rfl (fun hb2=>?_) (fun hb2=>?_)
 ·have hc2:=bp hb2;simp at hb2
 have hc2:=bp hb2;refine AA (q_ (w_ (a_ (h:=e_ (Af (?_))))));refine BW (fun n S=>∃j:Nat,j≤p.wats.length∧n=p.wats.length - j∧S=⟨look [(2, .bp 0 0),(3, .bp 1 0),(5, .v (.int .i64 (j:Int)))],⟨[BV p,BV p],[]⟩⟩) (p.wats.length) ((wk 2 0)) (⟨0,BO _,rfl,rfl⟩) ?_;rintro n S ⟨j,hj,rfl,rfl⟩;refine q_ (w_ (m_ (h:=f_ (h:=l_ (h:=n_ (h:=B1 (h:=e_ (?_))))))));refine A9 rfl (fun hb3=>?_) (fun hb3=>?_)
 ·have hc3:=bp hb3;obtain⟨hlt,w,hy,hrow, -⟩:=Br Bo hc3;refine AA (q_ (Af (q_ (DE 11 (h:=Az 0 (h:=AY 1 (h:=Ap 2 (h:=Dj 3 (h:=AY 4 (h:=Az 5 (h:=AY 6 (h:=Ap 7 (h:=Dj 8 (h:=AY 9 (h:=?_)))))))))))))));refine EV (i:=10) rfl (UZ w w rfl rfl ⟨rfl,rfl⟩) ?_;refine z_ (h:=t_ (?_));refine A9 rfl (fun hb4=>?_) (fun hb4=>?_)
  ·have hc4:=bp hb4;simp at hc4
  have hc4:=bp hb4;refine Av (Ai (t_ (AT (m_ (h:=B5 (h:=a_ (h:=AP (?_))))))));refine AK ?_;refine⟨_,_,?_,⟨j+1,by omega,rfl,rfl⟩,(wk 2 0)⟩;omega
 have hc3:=bp hb3;have e:=C5 Bo hj hc3;subst e;refine BH (Ah (Ah (BJ (t_ (w_ (a_ (h:=e_ (A4 (?_)))))))));refine A8 ?_;rfl
end
section
variable (s:Spc)(p:Pol)(r:Rul)(hv:SpcV s)(hm:s.mounts.length≤1000)(h1:p.rules.length≤1000)(h2:p.wats.length=p.rules.length)(hi:∀r∈p.rules,CN r)(hr:CN r)
include hv hm h1 h2 hi hr
theorem eJ(front:Bool)(hf:front=true)(A:List Rul×Int)(hA:BX p.rules r front=A)(W:Wch×Int)(hW:CF s r=W):AFn prog 55 [.agg (BV p), .agg (Ag s), .agg (AO r), .v (.bool true)] (fun x=>x=DC (CQ s p r front)):=by
 have hadd:AFn prog 66 [.sl 8 (p.rules.map AO) none, .agg (AO r), .v (.bool true)] (fun x=>x= .tup [.sl 8 (A.1.map AO) none, .v (.int .i64 A.2)]):=by rw[←hA,hf];exact UR p.rules r true h1 hi hr
 have hplc:AFn prog 86 [.agg (Ag s), .agg (AO r)] (fun x=>x= .tup [.agg (Bo W.1), .v (.int .i64 W.2)]):=by rw[←hW];exact QH s r hv hm hr
 have heq:CQ s p r front=if A.2≠0 then(DA,A.2)else if W.2≠0 then(DA,W.2)else(⟨A.1,W.1::p.wats⟩,0):=by rw[CQ,hA,hW,hf];rfl
 refine enter Tryz.func55 rfl rfl rfl rfl rfl 0 rfl ?_;refine w_ (b_ (h:=b_ (h:=b_ (h:=Aa (h:=a_ (h:=e_ (w_ (f_ (h:=l_ (h:=l_ (h:=m_ (h:=?_))))))))))));refine A6 rfl (AE (hadd) ?_);rintro r rfl;refine m_ (h:=x_ (h:=x_ (h:=a_ (h:=a_ (h:=e_ (q_ (w_ (m_ (h:=Aj (h:=e_ (?_)))))))))));refine A9 rfl (fun hb1=>?_) (fun hb1=>?_)
 ·have hc1:=bp hb1;have k1:A.2≠0:=by simpa using hc1
  refine w_ (Ab (h:=m_ (h:=s_ (h:=a_ (h:=e_ (A4 (A7 (?_))))))));refine Am (r:=DC (CQ s p r front)) none (h5:=?_) (h6:=⟨rfl,rfl,rfl⟩);exact Fd (by rw[heq,if_pos k1])
 have hc1:=bp hb1;have k1:¬A.2≠0:=by simpa using hc1
 refine AA (w_ (l_ (h:=l_ (h:=?_))));refine A6 rfl (AE (hplc) ?_);rintro r rfl;refine m_ (h:=x_ (h:=x_ (h:=Aa (h:=s_ (h:=a_ (h:=e_ (q_ (w_ (m_ (h:=Aj (h:=e_ (?_))))))))))));refine A9 rfl (fun hb2=>?_) (fun hb2=>?_)
 ·have hc2:=bp hb2;have k2:W.2≠0:=by simpa using hc2
  refine w_ (Ab (h:=m_ (h:=s_ (h:=a_ (h:=e_ (A4 (A7 (?_))))))));refine Am (r:=DC (CQ s p r front)) none (h5:=?_) (h6:=⟨rfl,rfl,rfl⟩);exact Fd (by rw[heq,if_neg k1,if_pos k2])
 have hc2:=bp hb2;have k2:¬W.2≠0:=by simpa using hc2
 refine AA (w_ (a_ (h:=e_ (q_ (w_ (m_ (h:=e_ (?_))))))));refine A9 rfl (fun hb3=>?_) (fun hb3=>?_)
 ·have hc3:=bp hb3;refine AT (m_ (h:=l_ (h:=Bc (h:=D3 (h:=a_ (h:=e_ (q_ (w_ (f_ (h:=l_ (h:=n_ (h:=m_ (h:=e_ (Af (?_)))))))))))))));refine BW (fun n S=>∃j:Nat,j≤p.rules.length∧n=p.rules.length - j∧S=⟨look [(3, .v (.bool true)),(4, .bp 0 0),(8, .bp 3 0),(10, .sl 8 (A.1.map AO) none),(12, .bp 4 0),(13, .sl 6 ((W.1::p.wats.take j).map Bo) (some 0)),(44, .v (.int .i64 ((p.rules.map AO).length:Int))),(45, .v (.int .i64 (j:Int)))],⟨[BV p,Ag s,AO r,[.v (.slice none 0 0), .v (.slice none 0 0)],Bo W.1],[(93,6,(W.1::p.wats.take j).map Bo)]⟩⟩) (p.rules.length) ((wk 5 1)) (⟨0,BO _,rfl,rfl⟩) ?_;rintro n S ⟨j,hj,rfl,rfl⟩;refine w_ (B1 (h:=e_ (q_ (?_))));refine A9 rfl (fun hb4=>?_) (fun hb4=>?_)
  ·have hc4:=bp hb4;obtain⟨hlt,r1,hy,hrow, -⟩:=Br AO hc4;obtain⟨w,hyw⟩:∃w,p.wats[j]?=some w:=⟨_,BQ (by omega)⟩;refine AA (q_ (Af (w_ (m_ (h:=a_ (h:=e_ (AT (m_ (h:=l_ (h:=m_ (h:=?_)))))))))));refine A6 rfl (AE (Ng p j w (by omega) hyw) ?_);rintro r rfl;refine Bc (h:=D3 (h:=a_ (h:=AP (Ai (t_ (AT (B5 (h:=m_ (h:=AP (?_))))))))));refine AK ?_;refine⟨_,_,?_,⟨j+1,by omega,rfl,rfl⟩,?_⟩
   ·omega
   rw[show(W.1::p.wats.take (j+1)).map Bo=(W.1::p.wats.take j).map Bo++[Bo w] by rw[List.map_cons,List.take_add_one,hyw,List.map_append];rfl];exact(wk 5 1)
  have hc4:=bp hb4;have e:=C5 AO hj hc4;subst e;rw[←h2,List.take_length];refine BH (Ah (Ah (BJ (t_ (q_ (w_ (m_ (h:=B7 (h:=e_ (?_))))))))));refine A9 rfl (fun hb5=>?_) (fun hb5=>?_)
  ·have hc5:=bp hb5;exfalso;first|contradiction|omega
  have hc5:=bp hb5;refine AA (w_ (m_ (h:=m_ (h:=Ab (h:=s_ (h:=a_ (h:=e_ (A4 (?_)))))))));refine A8 ?_;rw[heq,if_neg k1,if_neg k2];rfl
 have hc3:=bp hb3;exfalso;first|contradiction|omega
theorem eK(front:Bool)(hf:front=false)(A:List Rul×Int)(hA:BX p.rules r front=A)(W:Wch×Int)(hW:CF s r=W):AFn prog 55 [.agg (BV p), .agg (Ag s), .agg (AO r), .v (.bool false)] (fun x=>x=DC (CQ s p r front)):=by
 have hadd:AFn prog 66 [.sl 8 (p.rules.map AO) none, .agg (AO r), .v (.bool false)] (fun x=>x= .tup [.sl 8 (A.1.map AO) none, .v (.int .i64 A.2)]):=by rw[←hA,hf];exact UR p.rules r false h1 hi hr
 have hplc:AFn prog 86 [.agg (Ag s), .agg (AO r)] (fun x=>x= .tup [.agg (Bo W.1), .v (.int .i64 W.2)]):=by rw[←hW];exact QH s r hv hm hr
 have heq:CQ s p r front=if A.2≠0 then(DA,A.2)else if W.2≠0 then(DA,W.2)else(⟨A.1,p.wats++[W.1]⟩,0):=by rw[CQ,hA,hW,hf];rfl
 refine enter Tryz.func55 rfl rfl rfl rfl rfl 0 rfl ?_;refine w_ (b_ (h:=b_ (h:=b_ (h:=Aa (h:=a_ (h:=e_ (w_ (f_ (h:=l_ (h:=l_ (h:=m_ (h:=?_))))))))))));refine A6 rfl (AE (hadd) ?_);rintro r rfl;refine m_ (h:=x_ (h:=x_ (h:=a_ (h:=a_ (h:=e_ (q_ (w_ (m_ (h:=Aj (h:=e_ (?_)))))))))));refine A9 rfl (fun hb1=>?_) (fun hb1=>?_)
 ·have hc1:=bp hb1;have k1:A.2≠0:=by simpa using hc1
  refine w_ (Ab (h:=m_ (h:=s_ (h:=a_ (h:=e_ (A4 (A7 (?_))))))));refine Am (r:=DC (CQ s p r front)) none (h5:=?_) (h6:=⟨rfl,rfl,rfl⟩);exact Fd (by rw[heq,if_pos k1])
 have hc1:=bp hb1;have k1:¬A.2≠0:=by simpa using hc1
 refine AA (w_ (l_ (h:=l_ (h:=?_))));refine A6 rfl (AE (hplc) ?_);rintro r rfl;refine m_ (h:=x_ (h:=x_ (h:=Aa (h:=s_ (h:=a_ (h:=e_ (q_ (w_ (m_ (h:=Aj (h:=e_ (?_))))))))))));refine A9 rfl (fun hb2=>?_) (fun hb2=>?_)
 ·have hc2:=bp hb2;have k2:W.2≠0:=by simpa using hc2
  refine w_ (Ab (h:=m_ (h:=s_ (h:=a_ (h:=e_ (A4 (A7 (?_))))))));refine Am (r:=DC (CQ s p r front)) none (h5:=?_) (h6:=⟨rfl,rfl,rfl⟩);exact Fd (by rw[heq,if_neg k1,if_pos k2])
 have hc2:=bp hb2;have k2:¬W.2≠0:=by simpa using hc2
 refine AA (w_ (a_ (h:=e_ (q_ (w_ (m_ (h:=e_ (?_))))))));refine A9 rfl (fun hb3=>?_) (fun hb3=>?_)
 ·have hc3:=bp hb3;exfalso;first|contradiction|omega
 have hc3:=bp hb3;refine AA (q_ (w_ (f_ (h:=l_ (h:=n_ (h:=m_ (h:=e_ (Af (?_)))))))));refine JY 13 93 6 rfl (by repeat constructor) ?_;refine BW (fun n S=>∃j:Nat,j≤p.rules.length∧n=p.rules.length - j∧S=⟨look [(3, .v (.bool false)),(4, .bp 0 0),(8, .bp 3 0),(10, .sl 8 (A.1.map AO) none),(12, .bp 4 0),(13, .sl 6 ((p.wats.take j).map Bo) (some 0)),(44, .v (.int .i64 ((p.rules.map AO).length:Int))),(45, .v (.int .i64 (j:Int)))],⟨[BV p,Ag s,AO r,[.v (.slice none 0 0), .v (.slice none 0 0)],Bo W.1],[(93,6,(p.wats.take j).map Bo)]⟩⟩) (p.rules.length) ((wk 5 1)) (⟨0,BO _,rfl,rfl⟩) ?_;rintro n S ⟨j,hj,rfl,rfl⟩;refine w_ (B1 (h:=e_ (q_ (?_))));refine A9 rfl (fun hb4=>?_) (fun hb4=>?_)
 ·have hc4:=bp hb4;obtain⟨hlt,r1,hy,hrow, -⟩:=Br AO hc4;obtain⟨w,hyw⟩:∃w,p.wats[j]?=some w:=⟨_,BQ (by omega)⟩;refine AA (q_ (Af (w_ (m_ (h:=a_ (h:=e_ (AT (m_ (h:=l_ (h:=m_ (h:=?_)))))))))));refine A6 rfl (AE (Ng p j w (by omega) hyw) ?_);rintro r rfl;refine Bc (h:=D3 (h:=a_ (h:=AP (Ai (t_ (AT (B5 (h:=m_ (h:=AP (?_))))))))));refine AK ?_;refine⟨_,_,?_,⟨j+1,by omega,rfl,rfl⟩,?_⟩
  ·omega
  rw[show(p.wats.take (j+1)).map Bo=(p.wats.take j).map Bo++[Bo w] by rw[List.take_add_one,hyw,List.map_append];rfl];exact(wk 5 1)
 have hc4:=bp hb4;have e:=C5 AO hj hc4;subst e;rw[←h2,List.take_length];refine BH (Ah (Ah (BJ (t_ (q_ (w_ (m_ (h:=B7 (h:=e_ (?_))))))))));refine A9 rfl (fun hb5=>?_) (fun hb5=>?_)
 ·have hc5:=bp hb5;refine AT (m_ (h:=l_ (h:=Bc (h:=D3 (h:=a_ (h:=e_ (w_ (m_ (h:=m_ (h:=Ab (h:=s_ (h:=a_ (h:=e_ (A4 (?_)))))))))))))));refine A8 ?_;rw[heq,if_neg k1,if_neg k2];simp[DC,BV,List.map_append];rfl
 have hc5:=bp hb5;exfalso;first|contradiction|omega
theorem eL(front:Bool)(hf:front=true)(A:List Rul×Int)(hA:BX p.rules r front=A)(W:Wch×Int)(hW:CF s r=W):AFn prog 57 [.agg (BV p), .agg (Ag s), .agg (AO r), .v (.bool true)] (fun x=>x=DC (CQ s p r front)):=by
 have hadd:AFn prog 61 [.sl 8 (p.rules.map AO) none, .agg (AO r), .v (.bool true)] (fun x=>x= .tup [.sl 8 (A.1.map AO) none, .v (.int .i64 A.2)]):=by rw[←hA,hf];exact UU p.rules r true h1 hi hr
 have hplc:AFn prog 90 [.agg (AO r), .agg (Ag s)] (fun x=>x= .tup [.agg (Bo W.1), .v (.int .i64 W.2)]):=by rw[←hW];exact UV s r hv hm hr
 have heq:CQ s p r front=if A.2≠0 then(DA,A.2)else if W.2≠0 then(DA,W.2)else(⟨A.1,W.1::p.wats⟩,0):=by rw[CQ,hA,hW,hf];rfl
 refine enter Tryz.func57 rfl rfl rfl rfl rfl 0 rfl ?_;refine w_ (b_ (h:=b_ (h:=b_ (h:=Aa (h:=a_ (h:=e_ (w_ (f_ (h:=l_ (h:=l_ (h:=m_ (h:=?_))))))))))));refine A6 rfl (AE (hadd) ?_);rintro r rfl;refine m_ (h:=x_ (h:=x_ (h:=a_ (h:=a_ (h:=e_ (q_ (w_ (m_ (h:=Aj (h:=e_ (?_)))))))))));refine A9 rfl (fun hb1=>?_) (fun hb1=>?_)
 ·have hc1:=bp hb1;have k1:A.2≠0:=by simpa using hc1
  refine w_ (Ab (h:=m_ (h:=s_ (h:=a_ (h:=e_ (A4 (A7 (?_))))))));refine Am (r:=DC (CQ s p r front)) none (h5:=?_) (h6:=⟨rfl,rfl,rfl⟩);exact Fd (by rw[heq,if_pos k1])
 have hc1:=bp hb1;have k1:¬A.2≠0:=by simpa using hc1
 refine AA (w_ (l_ (h:=l_ (h:=?_))));refine A6 rfl (AE (hplc) ?_);rintro r rfl;refine m_ (h:=x_ (h:=x_ (h:=Aa (h:=s_ (h:=a_ (h:=e_ (q_ (w_ (m_ (h:=Aj (h:=e_ (?_))))))))))));refine A9 rfl (fun hb2=>?_) (fun hb2=>?_)
 ·have hc2:=bp hb2;have k2:W.2≠0:=by simpa using hc2
  refine w_ (Ab (h:=m_ (h:=s_ (h:=a_ (h:=e_ (A4 (A7 (?_))))))));refine Am (r:=DC (CQ s p r front)) none (h5:=?_) (h6:=⟨rfl,rfl,rfl⟩);exact Fd (by rw[heq,if_neg k1,if_pos k2])
 have hc2:=bp hb2;have k2:¬W.2≠0:=by simpa using hc2
 refine AA (q_ (w_ (m_ (h:=e_ (?_)))));refine A9 rfl (fun hb3=>?_) (fun hb3=>?_)
 ·have hc3:=bp hb3;refine w_ (m_ (h:=l_ (h:=?_)));refine A6 rfl (Qx (by repeat (first|exact DenseA.nil _|(apply DenseA.cons;(focus exact rfl);(focus exact rfl);(focus exact rfl);(focus exact rfl))|(apply DenseA.consE;(focus exact rfl);(focus exact rfl);(focus exact rfl)))) rfl rfl rfl rfl (by repeat constructor) ?_);refine f_ (h:=l_ (h:=D3 (h:=Ab (h:=s_ (h:=a_ (h:=e_ (A4 (A7 (?_)))))))));refine A8 ?_;rw[heq,if_neg k1,if_neg k2];rfl
 have hc3:=bp hb3;exfalso;first|contradiction|omega
theorem eM(front:Bool)(hf:front=false)(A:List Rul×Int)(hA:BX p.rules r front=A)(W:Wch×Int)(hW:CF s r=W):AFn prog 57 [.agg (BV p), .agg (Ag s), .agg (AO r), .v (.bool false)] (fun x=>x=DC (CQ s p r front)):=by
 have hadd:AFn prog 61 [.sl 8 (p.rules.map AO) none, .agg (AO r), .v (.bool false)] (fun x=>x= .tup [.sl 8 (A.1.map AO) none, .v (.int .i64 A.2)]):=by rw[←hA,hf];exact UU p.rules r false h1 hi hr
 have hplc:AFn prog 90 [.agg (AO r), .agg (Ag s)] (fun x=>x= .tup [.agg (Bo W.1), .v (.int .i64 W.2)]):=by rw[←hW];exact UV s r hv hm hr
 have heq:CQ s p r front=if A.2≠0 then(DA,A.2)else if W.2≠0 then(DA,W.2)else(⟨A.1,p.wats++[W.1]⟩,0):=by rw[CQ,hA,hW,hf];rfl
 refine enter Tryz.func57 rfl rfl rfl rfl rfl 0 rfl ?_;refine w_ (b_ (h:=b_ (h:=b_ (h:=Aa (h:=a_ (h:=e_ (w_ (f_ (h:=l_ (h:=l_ (h:=m_ (h:=?_))))))))))));refine A6 rfl (AE (hadd) ?_);rintro r rfl;refine m_ (h:=x_ (h:=x_ (h:=a_ (h:=a_ (h:=e_ (q_ (w_ (m_ (h:=Aj (h:=e_ (?_)))))))))));refine A9 rfl (fun hb1=>?_) (fun hb1=>?_)
 ·have hc1:=bp hb1;have k1:A.2≠0:=by simpa using hc1
  refine w_ (Ab (h:=m_ (h:=s_ (h:=a_ (h:=e_ (A4 (A7 (?_))))))));refine Am (r:=DC (CQ s p r front)) none (h5:=?_) (h6:=⟨rfl,rfl,rfl⟩);exact Fd (by rw[heq,if_pos k1])
 have hc1:=bp hb1;have k1:¬A.2≠0:=by simpa using hc1
 refine AA (w_ (l_ (h:=l_ (h:=?_))));refine A6 rfl (AE (hplc) ?_);rintro r rfl;refine m_ (h:=x_ (h:=x_ (h:=Aa (h:=s_ (h:=a_ (h:=e_ (q_ (w_ (m_ (h:=Aj (h:=e_ (?_))))))))))));refine A9 rfl (fun hb2=>?_) (fun hb2=>?_)
 ·have hc2:=bp hb2;have k2:W.2≠0:=by simpa using hc2
  refine w_ (Ab (h:=m_ (h:=s_ (h:=a_ (h:=e_ (A4 (A7 (?_))))))));refine Am (r:=DC (CQ s p r front)) none (h5:=?_) (h6:=⟨rfl,rfl,rfl⟩);exact Fd (by rw[heq,if_neg k1,if_pos k2])
 have hc2:=bp hb2;have k2:¬W.2≠0:=by simpa using hc2
 refine AA (q_ (w_ (m_ (h:=e_ (?_)))));refine A9 rfl (fun hb3=>?_) (fun hb3=>?_)
 ·have hc3:=bp hb3;exfalso;first|contradiction|omega
 have hc3:=bp hb3;refine AA (q_ (CB ([(0,BV p),(1,Ag s),(2,AO r),(4,Bo W.1)]) 10 (h:=Ap 0 (h:=Az 1 (h:=AY 2 (h:=AY 4 (h:=Mf 5 (h:=?_))))))))
 first|refine c_ 3 rfl (E0 rfl rfl rfl (by simp<;>omega) (by repeat constructor) ?_)|refine c_ 3 rfl (E1 rfl rfl (by simp<;>omega) (by repeat constructor) ?_)
 refine o_ (h:=?_)
 first|refine c_ 6 rfl (E0 rfl rfl rfl (by simp<;>omega) (by repeat constructor) ?_)|refine c_ 6 rfl (E1 rfl rfl (by simp<;>omega) (by repeat constructor) ?_)
 refine o_ (h:=G7 7 (h:=?_));refine Bi 8 rfl (Ba rfl rfl rfl rfl rfl rfl (by repeat constructor) (by repeat constructor) ?_);refine o_ (h:=BN 9 (h:=z_ (h:=t_ (A4 (?_)))));refine A8 ?_;rw[heq,if_neg k1,if_neg k2];simp[DC,BV,List.map_append];rfl
theorem eN(front:Bool):AFn prog 55 [.agg (BV p), .agg (Ag s), .agg (AO r), .v (.bool front)] (fun x=>x=DC (CQ s p r front)):=by
 cases front
 ·exact eK s p r hv hm h1 h2 hi hr false rfl _ rfl _ rfl
 exact eJ s p r hv hm h1 h2 hi hr true rfl _ rfl _ rfl
theorem Lg(front:Bool):AFn prog 57 [.agg (BV p), .agg (Ag s), .agg (AO r), .v (.bool front)] (fun x=>x=DC (CQ s p r front)):=by
 cases front
 ·exact eM s p r hv hm h1 h2 hi hr false rfl _ rfl _ rfl
 exact eL s p r hv hm h1 h2 hi hr true rfl _ rfl _ rfl
end
theorem Nh(a:Int):0≤IntKind.u64.wrap a∧IntKind.u64.wrap a<18446744073709551616:=by
 simp only[IntKind.wrap,IntKind.signed,IntKind.bits];simp;omega
theorem Ud(a b:Int):0≤MM .u64 a b∧MM .u64 a b<18446744073709551616:=Nh _
theorem eO(a b:Int):0≤MN .u64 a b∧MN .u64 a b<18446744073709551616:=Nh _
section
theorem Ue(l:List Int)(a:Nat)(ha:a≤100000000000):E2 prog 82 l a [] 40 (fun r=>∃m:Int,r= .v (.int .u64 m)∧0≤m∧m<18446744073709551616):=by
 refine enter Tryz.func82 rfl rfl rfl rfl rfl 1 rfl ?_;refine w_ (a_ (h:=e_ (q_ (w_ (m_ (h:=?_))))));refine A6 rfl (Au 0 (hc:=Gn l _ (6) (by omega) (by omega)) (hR:=?_));rintro r a1 ha1 ⟨k1,rfl,p1,q1,o1⟩;refine⟨rfl,_,(by repeat constructor),?_⟩;refine e_ (Af (w_ (AN (h:=a_ (h:=e_ (?_))))));refine A9 rfl (fun hb1=>?_) (fun hb1=>?_)
 ·have hc1:=bp hb1;refine w_ (a_ (h:=e_ (A4 (AR (A7 (?_))))));refine Am none (h5:=(AZ _)) (h6:=⟨_,rfl,rfl,a1,by omega,rfl,_,rfl,by omega,by omega⟩)
 have hc1:=bp hb1;refine w_ (AN (h:=a_ (h:=e_ (?_))));refine A9 rfl (fun hb2=>?_) (fun hb2=>?_)
 ·have hc2:=bp hb2;refine w_ (m_ (h:=?_));refine A6 rfl (Au 0 (hc:=Gn l _ (32) (by omega) (by omega)) (hR:=?_));rintro r a2 ha2 ⟨k2,rfl,p2,q2,o2⟩;refine⟨rfl,_,(by repeat constructor),?_⟩
  first|refine A6 rfl (Ja rfl Tryz.underlying3 Tryz.underlying113 ?_)|refine A6 rfl (Ja rfl Tryz.underlying3 Tryz.underlying80 ?_)
  refine A6 rfl (R3 rfl rfl (Nh _).1 ?_);refine a_ (h:=e_ (A4 (AR (A7 (?_)))));refine Am none (h5:=(AZ _)) (h6:=⟨_,rfl,rfl,a2,by omega,rfl,_,rfl,eO _ _⟩)
 have hc2:=bp hb2;refine Av (Ai (t_ (w_ (a_ (h:=e_ (q_ (w_ (a_ (h:=e_ (Af (?_)))))))))));refine BW (fun n s=>∃(j a1:Nat) (m:Int),j≤32∧n=32 - j∧a1≤a+1+j∧0≤m∧m<18446744073709551616∧s=⟨look [(0, .bp 0 0),(3, .v (.int .u64 m)),(4, .v (.int .i64 (j:Int)))],⟨[D1 l a1],[]⟩⟩) (32) ((wk 1 0)) (⟨0,a1,0,by omega,rfl,by omega,by omega,by omega,rfl⟩) ?_;rintro n s ⟨j,b1,m,hj,rfl,hb1,hm1,hm2,rfl⟩;refine q_ (w_ (m_ (h:=B1 (h:=e_ (?_)))));refine A9 rfl (fun hb3=>?_) (fun hb3=>?_)
 ·have hc3:=bp hb3;refine AA (q_ (Af (AT (m_ (h:=m_ (h:=?_))))));refine A6 rfl (Au 0 (hc:=Gn l _ (2) (by omega) (by omega)) (hR:=?_));rintro r a3 ha3 ⟨k3,rfl,p3,q3,o3⟩;refine⟨rfl,_,(by repeat constructor),?_⟩
  first|refine A6 rfl (Ja rfl Tryz.underlying3 Tryz.underlying113 ?_)|refine A6 rfl (Ja rfl Tryz.underlying3 Tryz.underlying80 ?_)
  refine m_ (h:=?_)
  first|refine A6 rfl (Ja rfl Tryz.underlying3 Tryz.underlying113 ?_)|refine A6 rfl (Ja rfl Tryz.underlying3 Tryz.underlying80 ?_)
  refine A6 rfl (R3 rfl rfl (Nh _).1 ?_);refine Vu (h:=a_ (h:=AP (Ai (t_ (AT (m_ (h:=B5 (h:=a_ (h:=AP (?_))))))))));refine AK ?_;refine⟨_,_,?_,⟨j+1,_,_,by omega,rfl,?_,(Ud _ _).1,(Ud _ _).2,rfl⟩,(wk 1 0)⟩<;>omega
 have hc3:=bp hb3;refine BH (Ah (Ah (BJ (t_ (w_ (m_ (h:=a_ (h:=e_ (A4 (?_))))))))));refine Am none (h5:=(AZ _)) (h6:=⟨_,rfl,rfl,b1,by omega,rfl,m,rfl,hm1,hm2⟩)
theorem eQ(l:List Int)(a:Nat)(list:Int)(ha:a≤100000000000):E2 prog 83 l a [.v (.int .i64 list)] 20 (fun r=>∃t:Tst,r= .agg (CM t)):=by
 refine enter Tryz.func83 rfl rfl rfl rfl rfl 1 rfl ?_;refine w_ (Aa (h:=e_ (w_ (m_ (h:=?_)))));refine A6 rfl (Au 0 (hc:=Cl l _ (1) (8) (by omega) (by omega) (by omega) (by omega)) (hR:=?_));rintro r a1 ha1 ⟨k1,rfl,p1,q1⟩;refine⟨rfl,_,(by repeat constructor),?_⟩;refine m_ (h:=?_);refine A6 rfl (Au 0 (hc:=Cl l _ (1) (8) (by omega) (by omega) (by omega) (by omega)) (hR:=?_));rintro r a2 ha2 ⟨k2,rfl,p2,q2⟩;refine⟨rfl,_,(by repeat constructor),?_⟩;refine m_ (h:=Bc (h:=?_));refine A6 rfl (Au 0 (hc:=EC l _ _ (fun _=>true) (by omega) (by rfl) (by rfl) (by rfl)) (hR:=?_));rintro r a3 ha3 ⟨k3,rfl,p3⟩;refine⟨rfl,_,(by repeat constructor),?_⟩;refine Ab (h:=Aa (h:=s_ (h:=e_ (w_ (m_ (h:=?_))))));refine A6 rfl (Au 0 (hc:=Gn l _ (8) (by omega) (by omega)) (hR:=?_));rintro r a4 ha4 ⟨k4,rfl,p4,q4,o4⟩;refine⟨rfl,_,(by repeat constructor),?_⟩;refine a_ (h:=e_ (?_));refine CH (fun s=>∃(b:Nat) (f o n ot:Int) (t:ByteArray),b≤a+8∧s=⟨look [(0, .bp 0 0),(4, .bp 1 0),(5, .bp 2 0)],⟨[D1 l b,[.v (.int .i64 0), .v (.int .i64 0), .v (.int .i64 0), .v (.string ⟨#[]⟩), .v (.int .i64 0)],[.v (.int .i64 f), .v (.int .i64 o), .v (.int .i64 n), .v (.string t), .v (.int .i64 ot)]],[]⟩⟩) ?_ ?_
 ·skip
  refine Af (w_ (m_ (h:=AN (h:=a_ (h:=e_ (?_))))));refine A9 rfl (fun hb1=>?_) (fun hb1=>?_)
  ·have hc1:=bp hb1;refine AT (m_ (h:=?_));refine A6 rfl (Au 0 (hc:=Cl l _ (13) (14) (by omega) (by omega) (by omega) (by omega)) (hR:=?_));rintro r a5 ha5 ⟨k5,rfl,p5,q5⟩;refine⟨rfl,_,(by repeat constructor),?_⟩;refine m_ (h:=?_);refine A6 rfl (Au 0 (hc:=Cl l _ (1) (2) (by omega) (by omega) (by omega) (by omega)) (hR:=?_));rintro r a6 ha6 ⟨k6,rfl,p6,q6⟩;refine⟨rfl,_,(by repeat constructor),?_⟩;refine m_ (h:=Bc (h:=?_));refine A6 rfl (Au 0 (hc:=JL l _ _ (fun _=>true) (by omega) (by rfl) (by rfl) (by rfl)) (hR:=?_));rintro r a7 ha7 ⟨k7,rfl,p7⟩;refine⟨rfl,_,(by repeat constructor),?_⟩;refine Ab (h:=s_ (h:=AP (Ai (?_))));refine AK ?_;refine⟨_,⟨_,_,_,_,_,_,?_,rfl⟩,(wk 3 0)⟩<;>omega
  have hc1:=bp hb1;refine w_ (m_ (h:=AN (h:=a_ (h:=e_ (?_)))));refine A9 rfl (fun hb2=>?_) (fun hb2=>?_)
  ·have hc2:=bp hb2;refine AT (m_ (h:=?_));refine A6 rfl (Au 0 (hc:=Cl l _ (3) (7) (by omega) (by omega) (by omega) (by omega)) (hR:=?_));rintro r a8 ha8 ⟨k8,rfl,p8,q8⟩;refine⟨rfl,_,(by repeat constructor),?_⟩;refine m_ (h:=?_);refine A6 rfl (Au 0 (hc:=Cl l _ (1) (2) (by omega) (by omega) (by omega) (by omega)) (hR:=?_));rintro r a9 ha9 ⟨k9,rfl,p9,q9⟩;refine⟨rfl,_,(by repeat constructor),?_⟩;refine m_ (h:=?_);refine A6 rfl (Au 0 (hc:=Cl l _ (3) (7) (by omega) (by omega) (by omega) (by omega)) (hR:=?_));rintro r a10 ha10 ⟨k10,rfl,p10,q10⟩;refine⟨rfl,_,(by repeat constructor),?_⟩;refine Ab (h:=s_ (h:=AP (Ai (?_))));refine AK ?_;refine⟨_,⟨_,_,_,_,_,_,?_,rfl⟩,(wk 3 0)⟩<;>omega
  have hc2:=bp hb2;refine w_ (m_ (h:=AN (h:=m_ (h:=?_))));refine AU true rfl rfl (fun hb3=>?_) (fun hb3=>?_)
  ·have hc3:=bp hb3;refine m_ (h:=AN (h:=AD (h:=a_ (h:=e_ (?_)))));refine A9 rfl (fun hb4=>?_) (fun hb4=>?_)
   ·have hc4:=bp hb4;refine AT (m_ (h:=?_));refine A6 rfl (Au 0 (hc:=Cl l _ (19) (20) (by omega) (by omega) (by omega) (by omega)) (hR:=?_));rintro r a11 ha11 ⟨k11,rfl,p11,q11⟩;refine⟨rfl,_,(by repeat constructor),?_⟩;refine m_ (h:=?_);refine A6 rfl (Au 0 (hc:=Cl l _ (1) (2) (by omega) (by omega) (by omega) (by omega)) (hR:=?_));rintro r a12 ha12 ⟨k12,rfl,p12,q12⟩;refine⟨rfl,_,(by repeat constructor),?_⟩;refine m_ (h:=Bc (h:=?_));refine A6 rfl (Au 0 (hc:=EC l _ _ (fun _=>true) (by omega) (by rfl) (by rfl) (by rfl)) (hR:=?_));rintro r a13 ha13 ⟨k13,rfl,p13⟩;refine⟨rfl,_,(by repeat constructor),?_⟩;refine Ab (h:=s_ (h:=AP (Ai (?_))));refine AK ?_;refine⟨_,⟨_,_,_,_,_,_,?_,rfl⟩,(wk 3 0)⟩<;>omega
   have hc4:=bp hb4;refine w_ (m_ (h:=B1 (h:=m_ (h:=?_))));refine AU true rfl rfl (fun hb5=>?_) (fun hb5=>?_)
   ·have hc5:=bp hb5;refine m_ (h:=AN (h:=AD (h:=a_ (h:=e_ (Bh (h:=w_ (m_ (h:=B1 (h:=m_ (h:=m_ (h:=AN (h:=AD (h:=a_ (h:=e_ (?_)))))))))))))));refine A9 rfl (fun hb6=>?_) (fun hb6=>?_)
    ·have hc6:=bp hb6;refine AT (m_ (h:=?_));refine A6 rfl (Au 0 (hc:=Cl l _ (9) (12) (by omega) (by omega) (by omega) (by omega)) (hR:=?_));rintro r a14 ha14 ⟨k14,rfl,p14,q14⟩;refine⟨rfl,_,(by repeat constructor),?_⟩;refine f_ (h:=s_ (h:=AP (Ai (?_))));refine AK ?_;refine⟨_,⟨_,_,_,_,_,_,?_,rfl⟩,(wk 3 0)⟩<;>omega
    have hc6:=bp hb6;refine w_ (m_ (h:=B1 (h:=m_ (h:=?_))));refine AU true rfl rfl (fun hb7=>?_) (fun hb7=>?_)
    ·have hc7:=bp hb7;refine m_ (h:=AN (h:=AD (h:=a_ (h:=e_ (?_)))));refine A9 rfl (fun hb8=>?_) (fun hb8=>?_)
     ·have hc8:=bp hb8;refine AT (m_ (h:=?_));refine A6 rfl (Au 0 (hc:=Cl l _ (1) (6) (by omega) (by omega) (by omega) (by omega)) (hR:=?_));rintro r a15 ha15 ⟨k15,rfl,p15,q15⟩;refine⟨rfl,_,(by repeat constructor),?_⟩;refine m_ (h:=Bc (h:=?_));refine A6 rfl (Au 0 (hc:=EC l _ _ (fun _=>true) (by omega) (by rfl) (by rfl) (by rfl)) (hR:=?_));rintro r a16 ha16 ⟨k16,rfl,p16⟩;refine⟨rfl,_,(by repeat constructor),?_⟩;refine Ab (h:=s_ (h:=AP (Ai (?_))));refine AK ?_;refine⟨_,⟨_,_,_,_,_,_,?_,rfl⟩,(wk 3 0)⟩<;>omega
     have hc8:=bp hb8;refine Av (Ai (?_));refine AK ?_;refine⟨_,⟨_,_,_,_,_,_,?_,rfl⟩,(wk 3 0)⟩<;>omega
    have hc7:=bp hb7;refine A3 (h:=A3 (h:=AG (h:=a_ (h:=e_ (Bh (h:=Av (Ai (?_))))))));refine AK ?_;refine⟨_,⟨_,_,_,_,_,_,?_,rfl⟩,(wk 3 0)⟩<;>omega
   have hc5:=bp hb5;refine A3 (h:=A3 (h:=AG (h:=a_ (h:=e_ (Bh (h:=w_ (m_ (h:=B1 (h:=m_ (h:=A3 (h:=A3 (h:=AG (h:=a_ (h:=e_ (Bh (h:=w_ (m_ (h:=B1 (h:=m_ (h:=?_))))))))))))))))))));refine AU true rfl rfl (fun hb9=>?_) (fun hb9=>?_)
   ·have hc9:=bp hb9;refine m_ (h:=AN (h:=AD (h:=a_ (h:=e_ (?_)))));refine A9 rfl (fun hb10=>?_) (fun hb10=>?_)
    ·have hc10:=bp hb10;refine AT (m_ (h:=?_));refine A6 rfl (Au 0 (hc:=Cl l _ (1) (6) (by omega) (by omega) (by omega) (by omega)) (hR:=?_));rintro r a17 ha17 ⟨k17,rfl,p17,q17⟩;refine⟨rfl,_,(by repeat constructor),?_⟩;refine m_ (h:=Bc (h:=?_));refine A6 rfl (Au 0 (hc:=EC l _ _ (fun _=>true) (by omega) (by rfl) (by rfl) (by rfl)) (hR:=?_));rintro r a18 ha18 ⟨k18,rfl,FJ⟩;refine⟨rfl,_,(by repeat constructor),?_⟩;refine Ab (h:=s_ (h:=AP (Ai (?_))));refine AK ?_;refine⟨_,⟨_,_,_,_,_,_,?_,rfl⟩,(wk 3 0)⟩<;>omega
    have hc10:=bp hb10;refine Av (Ai (?_));refine AK ?_;refine⟨_,⟨_,_,_,_,_,_,?_,rfl⟩,(wk 3 0)⟩<;>omega
   have hc9:=bp hb9;refine A3 (h:=A3 (h:=AG (h:=a_ (h:=e_ (Bh (h:=Av (Ai (?_))))))));refine AK ?_;refine⟨_,⟨_,_,_,_,_,_,?_,rfl⟩,(wk 3 0)⟩<;>omega
  have hc3:=bp hb3;refine A3 (h:=A3 (h:=AG (h:=a_ (h:=e_ (Bh (h:=w_ (m_ (h:=B1 (h:=m_ (h:=?_))))))))));refine AU true rfl rfl (fun hb11=>?_) (fun hb11=>?_)
  ·have hc11:=bp hb11;refine m_ (h:=AN (h:=AD (h:=a_ (h:=e_ (?_)))));refine A9 rfl (fun hb12=>?_) (fun hb12=>?_)
   ·have hc12:=bp hb12;refine AT (m_ (h:=?_));refine A6 rfl (Au 0 (hc:=Cl l _ (15) (21) (by omega) (by omega) (by omega) (by omega)) (hR:=?_));rintro r a19 ha19 ⟨k19,rfl,p19,q19⟩;refine⟨rfl,_,(by repeat constructor),?_⟩;refine m_ (h:=Bc (h:=?_));refine A6 rfl (Au 0 (hc:=EC l _ _ (fun _=>true) (by omega) (by rfl) (by rfl) (by rfl)) (hR:=?_));rintro r a20 ha20 ⟨k20,rfl,p20⟩;refine⟨rfl,_,(by repeat constructor),?_⟩;refine f_ (h:=s_ (h:=f_ (h:=s_ (h:=AP (Ai (?_))))));refine AK ?_;refine⟨_,⟨_,_,_,_,_,_,?_,rfl⟩,(wk 3 0)⟩<;>omega
   have hc12:=bp hb12;refine w_ (m_ (h:=B1 (h:=m_ (h:=m_ (h:=AN (h:=AD (h:=a_ (h:=e_ (?_)))))))));refine A9 rfl (fun hb13=>?_) (fun hb13=>?_)
   ·have hc13:=bp hb13;refine AT (m_ (h:=?_));refine A6 rfl (Au 0 (hc:=Cl l _ (9) (12) (by omega) (by omega) (by omega) (by omega)) (hR:=?_));rintro r a21 ha21 ⟨k21,rfl,p21,q21⟩;refine⟨rfl,_,(by repeat constructor),?_⟩;refine f_ (h:=s_ (h:=AP (Ai (?_))));refine AK ?_;refine⟨_,⟨_,_,_,_,_,_,?_,rfl⟩,(wk 3 0)⟩<;>omega
   have hc13:=bp hb13;refine w_ (m_ (h:=B1 (h:=m_ (h:=?_))));refine AU true rfl rfl (fun hb14=>?_) (fun hb14=>?_)
   ·have hc14:=bp hb14;refine m_ (h:=AN (h:=AD (h:=a_ (h:=e_ (?_)))));refine A9 rfl (fun hb15=>?_) (fun hb15=>?_)
    ·have hc15:=bp hb15;refine AT (m_ (h:=?_));refine A6 rfl (Au 0 (hc:=Cl l _ (1) (6) (by omega) (by omega) (by omega) (by omega)) (hR:=?_));rintro r a22 ha22 ⟨k22,rfl,p22,q22⟩;refine⟨rfl,_,(by repeat constructor),?_⟩;refine m_ (h:=Bc (h:=?_));refine A6 rfl (Au 0 (hc:=EC l _ _ (fun _=>true) (by omega) (by rfl) (by rfl) (by rfl)) (hR:=?_));rintro r a23 ha23 ⟨k23,rfl,p23⟩;refine⟨rfl,_,(by repeat constructor),?_⟩;refine Ab (h:=s_ (h:=AP (Ai (?_))));refine AK ?_;refine⟨_,⟨_,_,_,_,_,_,?_,rfl⟩,(wk 3 0)⟩<;>omega
    have hc15:=bp hb15;refine Av (Ai (?_));refine AK ?_;refine⟨_,⟨_,_,_,_,_,_,?_,rfl⟩,(wk 3 0)⟩<;>omega
   have hc14:=bp hb14;refine A3 (h:=A3 (h:=AG (h:=a_ (h:=e_ (Bh (h:=Av (Ai (?_))))))));refine AK ?_;refine⟨_,⟨_,_,_,_,_,_,?_,rfl⟩,(wk 3 0)⟩<;>omega
  have hc11:=bp hb11;refine A3 (h:=A3 (h:=AG (h:=a_ (h:=e_ (Bh (h:=w_ (m_ (h:=B1 (h:=m_ (h:=A3 (h:=A3 (h:=AG (h:=a_ (h:=e_ (Bh (h:=w_ (m_ (h:=B1 (h:=m_ (h:=?_))))))))))))))))))));refine AU true rfl rfl (fun hb16=>?_) (fun hb16=>?_)
  ·have hc16:=bp hb16;refine m_ (h:=AN (h:=AD (h:=a_ (h:=e_ (?_)))));refine A9 rfl (fun hb17=>?_) (fun hb17=>?_)
   ·have hc17:=bp hb17;refine AT (m_ (h:=?_));refine A6 rfl (Au 0 (hc:=Cl l _ (1) (6) (by omega) (by omega) (by omega) (by omega)) (hR:=?_));rintro r a24 ha24 ⟨k24,rfl,p24,q24⟩;refine⟨rfl,_,(by repeat constructor),?_⟩;refine m_ (h:=Bc (h:=?_));refine A6 rfl (Au 0 (hc:=EC l _ _ (fun _=>true) (by omega) (by rfl) (by rfl) (by rfl)) (hR:=?_));rintro r a25 ha25 ⟨k25,rfl,p25⟩;refine⟨rfl,_,(by repeat constructor),?_⟩;refine Ab (h:=s_ (h:=AP (Ai (?_))));refine AK ?_;refine⟨_,⟨_,_,_,_,_,_,?_,rfl⟩,(wk 3 0)⟩<;>omega
   have hc17:=bp hb17;refine Av (Ai (?_));refine AK ?_;refine⟨_,⟨_,_,_,_,_,_,?_,rfl⟩,(wk 3 0)⟩<;>omega
  have hc16:=bp hb16;refine A3 (h:=A3 (h:=AG (h:=a_ (h:=e_ (Bh (h:=Av (Ai (?_))))))));refine AK ?_;refine⟨_,⟨_,_,_,_,_,_,?_,rfl⟩,(wk 3 0)⟩<;>omega
 rintro s ⟨b,f,o,n,ot,t,hb,rfl⟩;refine q_ (w_ (m_ (h:=?_)));refine A6 rfl (Au 0 (hc:=Gn l _ (24) (by omega) (by omega)) (hR:=?_));rintro r a26 ha26 ⟨k26,rfl,p26,q26,o26⟩;refine⟨rfl,_,(by repeat constructor),?_⟩;refine AN (h:=e_ (?_));refine A9 rfl (fun hb18=>?_) (fun hb18=>?_)
 ·have hc18:=bp hb18;refine AT (m_ (h:=?_));refine A6 rfl (Au 0 (hc:=Cl l _ (0) (24) (by omega) (by omega) (by omega) (by omega)) (hR:=?_));rintro r a27 ha27 ⟨k27,rfl,p27,q27⟩;refine⟨rfl,_,(by repeat constructor),?_⟩;refine m_ (h:=?_);refine A6 rfl (Au 0 (hc:=Cl l _ (0) (9) (by omega) (by omega) (by omega) (by omega)) (hR:=?_));rintro r a28 ha28 ⟨k28,rfl,p28,q28⟩;refine⟨rfl,_,(by repeat constructor),?_⟩;refine f_ (h:=s_ (h:=f_ (h:=s_ (h:=e_ (w_ (l_ (h:=s_ (h:=e_ (A4 (?_))))))))));refine Am none (h5:=(AZ _)) (h6:=⟨_,rfl,rfl,_,?_,rfl,⟨_,_,_,_,_⟩,rfl⟩)<;>omega
 have hc18:=bp hb18;refine AA (w_ (l_ (h:=s_ (h:=e_ (A4 (?_))))));refine Am none (h5:=(AZ _)) (h6:=⟨_,rfl,rfl,_,?_,rfl,⟨_,_,_,_,_⟩,rfl⟩)<;>omega
end
theorem Uf{α:Type}{p:Nat→α→Bool}:∀{l:List α} {i:Nat},(∀k x,l[k]?=some x→p (i+k) x=false)→Ck p l i= -1
 |[],_,_=>rfl
 |x::xs,i,h=>by
   rw[Ck,if_neg (by simpa using h 0 x rfl)]
   exact Uf fun k y hy=>by
    have:=h (k+1) y (by simpa using hy)
    rwa [show i+1+k=i+(k+1) by omega]
theorem QK{l:List Rul}{r:Rul}:CL l r<0↔r∉l:=by
 constructor
 ·intro h hm;obtain⟨k,hk⟩:=List.getElem?_of_mem hm;rcases Int.lt_or_le (CL l r) 0 with h1|h1
  ·clear h
   have:∀(l:List Rul) (i k:Nat),l[k]?=some r→0≤Ck (fun _ x=>decide (x=r)) l i:=by
    intro l
    induction l with
    |nil=>intro i k hk;simp at hk
    |cons x xs ih=>
      intro i k hk;rw[Ck];split
      ·omega
      rename_i hne
      cases k with
      |zero=>simp at hk;simp[hk]at hne
      |succ k=>exact ih (i+1) k (by simpa using hk)
   have:=this l 0 k hk;unfold CL at h1;omega
  omega
 intro h
 have:CL l r= -1:=Uf fun k x hx=>by
  simp only[decide_eq_false_iff_not];rintro rfl;exact h (Ar hx)
 omega
theorem Ug:∀(l pre:List Rul),Ep pre l=0↔(∀x∈l,BE x=0∧x∉pre)∧l.Nodup
 |[],pre=>by simp[Ep]
 |r::rs,pre=>by
   rw[Ep];by_cases h1:BE r=0
   ·rw[if_neg (by simpa using h1)];by_cases h2:0≤CL pre r
    ·rw[if_pos h2];have h3:r∈pre:=Classical.byContradiction fun h=>by have:=QK.2 h;omega
     exact⟨fun h=>absurd h (by decide),fun h=>absurd h3 (h.1 r (by simp)).2⟩
    rw[if_neg h2,Ug rs (pre++[r])];have h3:r∉pre:=QK.1 (by omega);constructor
    ·rintro⟨k1,k2⟩;refine⟨?_,?_⟩
     ·intro x hx;rcases List.mem_cons.1 hx with rfl|hx
      ·exact⟨h1,h3⟩
      exact⟨(k1 x hx).1,fun hm=>(k1 x hx).2 (by simp[hm])⟩
     exact List.nodup_cons.2 ⟨fun hm=>(k1 r hm).2 (by simp),k2⟩
    rintro⟨k1,k2⟩;obtain⟨k3,k4⟩:=List.nodup_cons.1 k2;refine⟨fun x hx=>⟨(k1 x (by simp[hx])).1,fun hm=>?_⟩,k4⟩;rcases List.mem_append.1 hm with hm|hm
    ·exact(k1 x (by simp[hx])).2 hm
    rw[List.mem_singleton.1 hm]at hx;exact k3 hx
   rw[if_pos (by simpa using h1)];constructor
   ·intro h;exact absurd h h1
   intro h;exact absurd (h.1 r (by simp)).1 h1
theorem Ni(l:List Rul):Cf l=0↔l.length≤24∧(∀x∈l,BE x=0)∧l.Nodup:=by
 unfold Cf;split
 ·simp;omega
 rw[Ug];simp;omega
structure LstOk(l:List Rul)(n:Nat):Prop where
 chk:Cf l=0
 ins:∀r∈l,CN r
 len:l.length≤n
theorem LstOk.nil(n:Nat):LstOk [] n:=⟨(Ni []).2 (by simp),by simp,by simp⟩
theorem LstOk.add{l:List Rul}{n:Nat}{r:Rul}{f:Bool}(h:LstOk l n)(hr:CN r)(he:(BX l r f).2=0):LstOk (BX l r f).1 (n+1):=by
 unfold BX at he ⊢;rw[if_neg (by rw[h.chk];simp)]at he ⊢;split at he
 ·rename_i h1;exact absurd he h1
 rename_i h1;rw[if_neg h1];split at he
 ·cases he
 rename_i h2;rw[if_neg h2];split at he
 ·cases he
 rename_i h3;rw[if_neg h3];have hm:r∉l:=QK.1 (by omega);obtain⟨c1,c2,c3⟩:=(Ni l).1 h.chk;have h1':BE r=0:=by simpa using h1
 cases f
 ·refine⟨(Ni _).2 ⟨by simp;omega,?_,?_⟩,?_,?_⟩
  ·intro x hx;rcases(by simpa using hx:x∈l∨x=r)with hx|hx
   ·exact c2 x hx
   rw[hx];exact h1'
  ·simp only[Bool.false_eq_true,if_false];exact List.nodup_append.2 ⟨c3,by simp,fun a ha b hb=>by rw[List.mem_singleton.1 hb];rintro rfl;exact hm ha⟩
  ·intro x hx;rcases(by simpa using hx:x∈l∨x=r)with hx|hx
   ·exact h.ins x hx
   rw[hx];exact hr
  have:=h.len;simp;omega
 refine⟨(Ni _).2 ⟨by simp;omega,?_,?_⟩,?_,?_⟩
 ·intro x hx;rcases(by simpa using hx:x=r∨x∈l)with hx|hx
  ·rw[hx];exact h1'
  exact c2 x hx
 ·simp only[if_true];exact List.nodup_cons.2 ⟨hm,c3⟩
 ·intro x hx;rcases(by simpa using hx:x=r∨x∈l)with hx|hx
  ·rw[hx];exact hr
  exact h.ins x hx
 have:=h.len;simp;omega
theorem LstOk.mono{l:List Rul}{n m:Nat}(h:LstOk l n)(hm:n≤m):LstOk l m:=⟨h.chk,h.ins,Nat.le_trans h.len hm⟩
def Lh:Rul:=⟨3,1,4294967295,[],0,⟨#[]⟩,0,⟨#[]⟩⟩
theorem eR:CN Lh:=by unfold CN Lh;simp;decide
theorem eS:BE Lh=0:=by decide
section
theorem Uh(l:List Int)(a:Nat)(ha:a≤10000000000):E2 prog 40 l a [] 200 (fun r=>∃x:Rul,CN x∧r= .agg (AO x)):=by
 refine enter Tryz.func40 rfl rfl rfl rfl rfl 1 rfl ?_;refine w_ (Aa (h:=e_ (w_ (m_ (h:=Bc (h:=?_))))));refine A6 rfl (Au 0 (hc:=EC l _ _ (fun _=>true) (by omega) (by rfl) (by rfl) (by rfl)) (hR:=?_));rintro r a1 ha1 ⟨k1,rfl,p1⟩;refine⟨rfl,_,(by repeat constructor),?_⟩;refine m_ (h:=Bc (h:=?_));refine A6 rfl (Au 0 (hc:=EC l _ _ (fun _=>true) (by omega) (by rfl) (by rfl) (by rfl)) (hR:=?_));rintro r a2 ha2 ⟨k2,rfl,p2⟩;refine⟨rfl,_,(by repeat constructor),?_⟩;refine m_ (h:=Bc (h:=?_));refine A6 rfl (Au 0 (hc:=JL l _ _ (fun _=>true) (by omega) (by rfl) (by rfl) (by rfl)) (hR:=?_));rintro r a3 ha3 ⟨k3,rfl,p3⟩;refine⟨rfl,_,(by repeat constructor),?_⟩;refine Ab (h:=Aa (h:=s_ (h:=e_ (?_))));refine CH (fun s=>∃(b:Nat) (li ac ca:Int) (key:ByteArray),b≤a+50∧0≤ca∧ca<18446744073709551616∧s=⟨look [(0, .bp 0 0),(2, .bp 1 0),(3, .bp 2 0)],⟨[D1 l b,[.v (.int .i64 0), .v (.int .i64 0), .v (.int .u64 0), .v (.slice none 0 0), .v (.int .i64 0), .v (.string ⟨#[]⟩), .v (.int .i64 0), .v (.string ⟨#[]⟩)],[.v (.int .i64 li), .v (.int .i64 ac), .v (.int .u64 ca), .v (.slice none 0 0), .v (.int .i64 0), .v (.string ⟨#[]⟩), .v (.int .i64 0), .v (.string key)]],[]⟩⟩) ?_ ?_
 ·skip
  refine w_ (f_ (h:=l_ (h:=AN (h:=m_ (h:=?_)))));refine AU false rfl rfl (fun hb1=>?_) (fun hb1=>?_)
  ·have hc1:=bp hb1;refine A3 (h:=A3 (h:=A3 (h:=AD (h:=e_ (B6 (h:=w_ (m_ (h:=?_))))))));refine A6 rfl (Au 0 (hc:=Ue l _ (by omega)) (hR:=?_));rintro r a4 ha4 ⟨k4,rfl,p4,q4⟩;refine⟨rfl,_,(by repeat constructor),?_⟩;refine f_ (h:=s_ (h:=e_ (q_ (w_ (m_ (h:=?_))))));refine A6 rfl (Au 0 (hc:=Gn l _ (3) (by omega) (by omega)) (hR:=?_));rintro r a5 ha5 ⟨k5,rfl,p5,q5,o5⟩;refine⟨rfl,_,(by repeat constructor),?_⟩;refine Bf (h:=e_ (?_));refine A9 rfl (fun hb2=>?_) (fun hb2=>?_)
   ·have hc2:=bp hb2;refine AT (f_ (h:=s_ (h:=e_ (w_ (f_ (h:=l_ (h:=AN (h:=e_ (?_)))))))));refine A9 rfl (fun hb3=>?_) (fun hb3=>?_)
    ·have hc3:=bp hb3;refine AT (f_ (h:=s_ (h:=AP (?_))));refine AK ?_;refine⟨_,⟨_,_,_,_,_,?_,?_,?_,rfl⟩,(wk 3 0)⟩<;>omega
    have hc3:=bp hb3;refine Av (?_);refine AK ?_;refine⟨_,⟨_,_,_,_,_,?_,?_,?_,rfl⟩,(wk 3 0)⟩<;>omega
   have hc2:=bp hb2;refine AA (w_ (f_ (h:=l_ (h:=AN (h:=e_ (?_))))));refine A9 rfl (fun hb4=>?_) (fun hb4=>?_)
   ·have hc4:=bp hb4;refine AT (f_ (h:=s_ (h:=AP (?_))));refine AK ?_;refine⟨_,⟨_,_,_,_,_,?_,?_,?_,rfl⟩,(wk 3 0)⟩<;>omega
   have hc4:=bp hb4;refine Av (?_);refine AK ?_;refine⟨_,⟨_,_,_,_,_,?_,?_,?_,rfl⟩,(wk 3 0)⟩<;>omega
  have hc1:=bp hb1;refine f_ (h:=l_ (h:=AN (h:=AG (h:=e_ (?_)))));refine A9 rfl (fun hb5=>?_) (fun hb5=>?_)
  ·have hc5:=bp hb5;refine w_ (m_ (h:=?_));refine A6 rfl (Au 0 (hc:=Ue l _ (by omega)) (hR:=?_));rintro r a6 ha6 ⟨k6,rfl,p6,q6⟩;refine⟨rfl,_,(by repeat constructor),?_⟩;refine f_ (h:=s_ (h:=e_ (q_ (w_ (m_ (h:=?_))))));refine A6 rfl (Au 0 (hc:=Gn l _ (3) (by omega) (by omega)) (hR:=?_));rintro r a7 ha7 ⟨k7,rfl,p7,q7,o7⟩;refine⟨rfl,_,(by repeat constructor),?_⟩;refine Bf (h:=e_ (?_));refine A9 rfl (fun hb6=>?_) (fun hb6=>?_)
   ·have hc6:=bp hb6;refine AT (f_ (h:=s_ (h:=e_ (w_ (f_ (h:=l_ (h:=AN (h:=e_ (?_)))))))));refine A9 rfl (fun hb7=>?_) (fun hb7=>?_)
    ·have hc7:=bp hb7;refine AT (f_ (h:=s_ (h:=AP (?_))));refine AK ?_;refine⟨_,⟨_,_,_,_,_,?_,?_,?_,rfl⟩,(wk 3 0)⟩<;>omega
    have hc7:=bp hb7;refine Av (?_);refine AK ?_;refine⟨_,⟨_,_,_,_,_,?_,?_,?_,rfl⟩,(wk 3 0)⟩<;>omega
   have hc6:=bp hb6;refine AA (w_ (f_ (h:=l_ (h:=AN (h:=e_ (?_))))));refine A9 rfl (fun hb8=>?_) (fun hb8=>?_)
   ·have hc8:=bp hb8;refine AT (f_ (h:=s_ (h:=AP (?_))));refine AK ?_;refine⟨_,⟨_,_,_,_,_,?_,?_,?_,rfl⟩,(wk 3 0)⟩<;>omega
   have hc8:=bp hb8;refine Av (?_);refine AK ?_;refine⟨_,⟨_,_,_,_,_,?_,?_,?_,rfl⟩,(wk 3 0)⟩<;>omega
  have hc5:=bp hb5;refine Av (?_);refine AK ?_;refine⟨_,⟨_,_,_,_,_,?_,?_,?_,rfl⟩,(wk 3 0)⟩<;>omega
 rintro s ⟨b,li,ac,ca,key,hb,hca1,hca2,rfl⟩;refine q_ (w_ (m_ (h:=Bc (h:=?_))));refine A6 rfl (Au 0 (hc:=EC l _ _ (fun z=>decide (0≤z∧z≤3)) (by omega) (by rfl) (by rfl) (by rfl)) (hR:=?_));rintro r a8 ha8 ⟨k8,rfl,p8⟩;refine⟨rfl,_,(by repeat constructor),?_⟩;obtain⟨hz1,hz2⟩:=of_decide_eq_true p8;obtain⟨m,rfl⟩:=Int.eq_ofNat_of_zero_le (show 0≤k8 by omega);refine a_ (h:=e_ (Af (?_)));refine MY 2 3 115 5 rfl rfl (by repeat constructor) (by repeat constructor) (by repeat constructor) ?_;refine BW (fun n s=>∃(j b1:Nat) (ts:List Tst),j≤m∧n=j∧b1≤b+1+20 * (m - j)∧ts.length=m - j∧s=⟨look [(0, .bp 0 0),(2, .bp 1 0),(3, .bp 2 0),(4, .v (.int .i64 (j:Int)))],⟨[D1 l b1,[.v (.int .i64 0), .v (.int .i64 0), .v (.int .u64 0), .v (.slice none 0 0), .v (.int .i64 0), .v (.string ⟨#[]⟩), .v (.int .i64 0), .v (.string ⟨#[]⟩)],[.v (.int .i64 li), .v (.int .i64 ac), .v (.int .u64 ca), .sl 5 (ts.map CM) (some 0), .v (.int .i64 0), .v (.string ⟨#[]⟩), .v (.int .i64 0), .v (.string key)]],[(115,5,ts.map CM)]⟩⟩) (m) ((wk 3 1)) (⟨m,_,[],by omega,rfl,by omega,by simp,rfl⟩) ?_;rintro n s ⟨j,b1,ts,hj,hn,hb1,hts,rfl⟩;subst n;refine q_ (w_ (m_ (h:=Bf (h:=e_ (?_)))));refine A9 rfl (fun hb9=>?_) (fun hb9=>?_)
 ·have hc9:=bp hb9;refine AA (q_ (Af (CB ([(1,[.v (.int .i64 0), .v (.int .i64 0), .v (.int .u64 0), .v (.slice none 0 0), .v (.int .i64 0), .v (.string ⟨#[]⟩), .v (.int .i64 0), .v (.string ⟨#[]⟩)]),(2,[.v (.int .i64 li), .v (.int .i64 ac), .v (.int .u64 ca), .sl 5 (ts.map CM) (some 0), .v (.int .i64 0), .v (.string ⟨#[]⟩), .v (.int .i64 0), .v (.string key)])]) 9 (h:=Az 0 (h:=AY 1 (h:=Ap 2 (h:=Az 3 (h:=AY 4 (h:=?_)))))))));refine c_ 5 rfl (Au 0 (hc:=eQ l _ _ (by omega)) (hR:=?_));rintro r a9 ha9 ⟨T9,rfl⟩;refine⟨rfl,_,(by repeat constructor),?_⟩;refine o_ (h:=Mf 6 (h:=?_))
  first|refine c_ 7 rfl (E0 rfl rfl rfl (by simp<;>omega) (by repeat constructor) ?_)|refine c_ 7 rfl (E1 rfl rfl (by simp<;>omega) (by repeat constructor) ?_)
  refine o_ (h:=Az 8 (h:=?_));refine Bi 9 rfl (Ba rfl rfl rfl rfl rfl rfl (by repeat constructor) (by repeat constructor) ?_);refine o_ (h:=z_ (h:=Ai (t_ (AT (m_ (h:=G8 (h:=a_ (h:=AP (?_)))))))));refine AK ?_;obtain⟨j,rfl⟩:∃i,j=i+1:=⟨j - 1,by omega⟩;refine⟨_,_,?_,⟨j,_,ts++[T9],by omega,rfl,?_,?_,rfl⟩,(by rw[List.map_append];exact Ay 3 1 rfl rfl rfl rfl (by repeat (first|exact Sub.nil|refine B0 rfl rfl ?_|(apply Sub.of;(focus exact rfl);(focus exact LeA.of_eq (vi (by omega)));(focus exact rfl)))))⟩
  ·omega
  ·omega
  simp;omega
 have hc9:=bp hb9;refine BH (Ah (Ah (BJ (t_ (?_)))));refine CH (fun s=>∃(b2:Nat) (wa pe:Int) (pa:ByteArray),b2≤a+140∧pa.size≤60∧s=⟨look [(0, .bp 0 0),(2, .bp 1 0),(3, .bp 2 0)],⟨[D1 l b2,[.v (.int .i64 0), .v (.int .i64 0), .v (.int .u64 0), .v (.slice none 0 0), .v (.int .i64 0), .v (.string ⟨#[]⟩), .v (.int .i64 0), .v (.string ⟨#[]⟩)],[.v (.int .i64 li), .v (.int .i64 ac), .v (.int .u64 ca), .sl 5 (ts.map CM) (some 0), .v (.int .i64 wa), .v (.string pa), .v (.int .i64 pe), .v (.string key)]],[(115,5,ts.map CM)]⟩⟩) ?_ ?_
 ·skip
  refine w_ (f_ (h:=l_ (h:=AN (h:=m_ (h:=?_)))));refine AU true rfl rfl (fun hb10=>?_) (fun hb10=>?_)
  ·have hc10:=bp hb10;refine m_ (h:=?_);refine Ax (Au 0 (hc:=Gn l _ (3) (by omega) (by omega)) (hR:=?_));rintro r a10 ha10 ⟨k10,rfl,p10,q10,o10⟩;refine⟨rfl,_,(by repeat constructor),?_⟩;refine AN (h:=AD (h:=e_ (?_)));refine A9 rfl (fun hb11=>?_) (fun hb11=>?_)
   ·have hc11:=bp hb11;refine w_ (m_ (h:=?_));refine A6 rfl (Au 0 (hc:=Cl l _ (1) (2) (by omega) (by omega) (by omega) (by omega)) (hR:=?_));rintro r a11 ha11 ⟨k11,rfl,p11,q11⟩;refine⟨rfl,_,(by repeat constructor),?_⟩;refine m_ (h:=?_);refine A6 rfl (Au 0 (hc:=dZ l _ (by omega)) (hR:=?_));rintro r a12 ha12 ⟨k12,rfl,p12⟩;refine⟨rfl,_,(by repeat constructor),?_⟩;refine m_ (h:=?_);refine A6 rfl (Au 0 (hc:=Cl l _ (1) (15) (by omega) (by omega) (by omega) (by omega)) (hR:=?_));rintro r a13 ha13 ⟨k13,rfl,p13,q13⟩;refine⟨rfl,_,(by repeat constructor),?_⟩;refine f_ (h:=s_ (h:=f_ (h:=s_ (h:=f_ (h:=s_ (h:=e_ (w_ (m_ (h:=?_)))))))));refine A6 rfl (Au 0 (hc:=Gn l _ (8) (by omega) (by omega)) (hR:=?_));rintro r a14 ha14 ⟨k14,rfl,p14,q14,o14⟩;refine⟨rfl,_,(by repeat constructor),?_⟩;refine AN (h:=e_ (?_));refine A9 rfl (fun hb12=>?_) (fun hb12=>?_)
    ·have hc12:=bp hb12;refine AT (f_ (h:=s_ (h:=AP (?_))));refine AK ?_;refine⟨_,⟨_,_,_,_,?_,?_,rfl⟩,(wk 3 1)⟩<;>first|omega|exact B8 rfl
    have hc12:=bp hb12;refine Av (?_);refine AK ?_;refine⟨_,⟨_,_,_,_,?_,?_,rfl⟩,(wk 3 1)⟩<;>first|omega|exact B8 rfl
   have hc11:=bp hb11;refine Av (?_);refine AK ?_;refine⟨_,⟨_,_,_,_,?_,?_,rfl⟩,(wk 3 1)⟩<;>first|omega|exact B8 rfl
  have hc10:=bp hb10;refine A3 (h:=A3 (h:=A3 (h:=AG (h:=e_ (Bh (h:=Av (?_)))))));refine AK ?_;refine⟨_,⟨_,_,_,_,?_,?_,rfl⟩,(wk 3 1)⟩<;>first|omega|exact B8 rfl
 rintro s ⟨b2,wa,pe,pa,hb2,hpa,rfl⟩;refine q_ (w_ (m_ (h:=?_)));refine A6 rfl (Au 0 (hc:=Gn l _ (24) (by omega) (by omega)) (hR:=?_));rintro r a15 ha15 ⟨k15,rfl,p15,q15,o15⟩;refine⟨rfl,_,(by repeat constructor),?_⟩;refine AN (h:=e_ (?_));refine A9 rfl (fun hb13=>?_) (fun hb13=>?_)
 ·have hc13:=bp hb13;refine AT (m_ (h:=?_));refine A6 rfl (Au 0 (hc:=Cl l _ (-1) (16) (by omega) (by omega) (by omega) (by omega)) (hR:=?_));rintro r a16 ha16 ⟨k16,rfl,p16,q16⟩;refine⟨rfl,_,(by repeat constructor),?_⟩;refine m_ (h:=?_);refine A6 rfl (Au 0 (hc:=Cl l _ (0) (6) (by omega) (by omega) (by omega) (by omega)) (hR:=?_));rintro r a17 ha17 ⟨k17,rfl,p17,q17⟩;refine⟨rfl,_,(by repeat constructor),?_⟩;refine m_ (h:=?_);refine A6 rfl (Au 0 (hc:=Cl l _ (0) (3) (by omega) (by omega) (by omega) (by omega)) (hR:=?_));rintro r a18 ha18 ⟨k18,rfl,FJ,q18⟩;refine⟨rfl,_,(by repeat constructor),?_⟩;refine f_ (h:=s_ (h:=f_ (h:=s_ (h:=f_ (h:=s_ (h:=e_ (w_ (l_ (h:=s_ (h:=e_ (A4 (?_))))))))))));refine Am none (h5:=(AZ _)) (h6:=⟨_,rfl,rfl,_,?_,rfl,⟨_,_,_,ts,_,pa,_,_⟩,⟨hca1,hca2,Nat.le_trans hpa (by decide),by show ts.length≤1000;omega⟩,rfl⟩)<;>omega
 have hc13:=bp hb13;refine AA (w_ (l_ (h:=s_ (h:=e_ (A4 (?_))))));refine Am none (h5:=(AZ _)) (h6:=⟨_,rfl,rfl,_,?_,rfl,⟨_,_,_,ts,_,pa,_,_⟩,⟨hca1,hca2,Nat.le_trans hpa (by decide),by show ts.length≤1000;omega⟩,rfl⟩)<;>omega
end
theorem eT{α:Type}{l:List α}{j k:Nat}{x:α}(hx:l[j]?=some x):(l.take (j+1)).eraseIdx k=if j=k then(l.take j).eraseIdx k else(l.take j).eraseIdx k++[x]:=by
 obtain⟨hk,e⟩:=Al.1 hx;rw[List.take_succ_eq_append_getElem hk,e];have hl:(l.take j).length=j:=by simp;omega
 split
 ·rename_i h;subst h;have h2:(l.take j).eraseIdx j=l.take j:=List.eraseIdx_of_length_le (by omega);rw[List.eraseIdx_append_of_length_le (by omega),hl,h2];simp
 rename_i h;rcases Nat.lt_or_ge k j with h2|h2
 ·rw[List.eraseIdx_append_of_lt_length (by omega)]
 rw[List.eraseIdx_of_length_le (by simp;omega),List.eraseIdx_of_length_le (by omega)]
theorem Ui{l:List Rul}{r:Rul}(h:(D0 l r).2=0):¬CL l r<0:=by
 intro c;unfold D0 at h;rw[if_pos c]at h;split at h
 ·rename_i c2;exact c2 h
 cases h
section
variable (p:Pol)(r:Rul)(h1:p.rules.length≤1000)(h2:p.wats.length=p.rules.length)(hi:∀r∈p.rules,CN r)(A:List Rul×Int)(hA:D0 p.rules r=A)
include h1 h2 hi hA
theorem eU:AFn prog 58 [.agg (BV p), .agg (AO r)] (fun x=>x=DC (Eb p r)):=by
 have hrem:AFn prog 106 [.sl 8 (p.rules.map AO) none, .agg (AO r)] (fun x=>x= .tup [.sl 8 (A.1.map AO) none, .v (.int .i64 A.2)]):=by rw[←hA];exact dJ p.rules r h1 hi
 have heq:Eb p r=if A.2≠0 then(DA,A.2)else(⟨A.1,p.wats.eraseIdx (CL p.rules r).toNat⟩,0):=by rw[Eb,hA]
 refine enter Tryz.func58 rfl rfl rfl rfl rfl 0 rfl ?_;refine w_ (b_ (h:=b_ (h:=Aa (h:=a_ (h:=e_ (w_ (f_ (h:=l_ (h:=l_ (h:=?_))))))))));refine A6 rfl (AE (hrem) ?_);rintro r rfl;refine m_ (h:=x_ (h:=x_ (h:=a_ (h:=a_ (h:=e_ (q_ (w_ (m_ (h:=Aj (h:=e_ (?_)))))))))));refine A9 rfl (fun hb1=>?_) (fun hb1=>?_)
 ·have hc1:=bp hb1;have k1:A.2≠0:=by simpa using hc1
  refine w_ (Ab (h:=m_ (h:=s_ (h:=a_ (h:=e_ (A4 (A7 (?_))))))));refine Am (r:=DC (Eb p r)) none (h5:=?_) (h6:=⟨rfl,rfl,rfl⟩);exact Fd (by rw[heq,if_pos k1])
 have hc1:=bp hb1;have k1:¬A.2≠0:=by simpa using hc1
 have hnn:=Ui (l:=p.rules) (r:=r) (by rw[hA];simpa using k1);refine AA (w_ (f_ (h:=l_ (h:=l_ (h:=?_)))));refine A6 rfl (AE (Lc p.rules r h1 fun x hx=>(hi x hx).2.2.2) ?_);rintro r rfl;refine a_ (h:=e_ (w_ (a_ (h:=e_ (q_ (w_ (f_ (h:=l_ (h:=n_ (h:=m_ (h:=e_ (Af (?_)))))))))))));refine JY 9 93 6 rfl (by repeat constructor) ?_;refine BW (fun n S=>∃j:Nat,j≤p.rules.length∧n=p.rules.length - j∧S=⟨look [(2, .bp 0 0),(4, .bp 2 0),(6, .sl 8 (A.1.map AO) none),(8, .v (.int .i64 (CL p.rules r))),(9, .sl 6 (((p.wats.take j).eraseIdx (CL p.rules r).toNat).map Bo) (some 0)),(28, .v (.int .i64 ((p.rules.map AO).length:Int))),(29, .v (.int .i64 (j:Int)))],⟨[BV p,AO r,[.v (.slice none 0 0), .v (.slice none 0 0)]],[(93,6,((p.wats.take j).eraseIdx (CL p.rules r).toNat).map Bo)]⟩⟩) (p.rules.length) ((wk 3 1)) (⟨0,BO _,rfl,rfl⟩) ?_;rintro n S ⟨j,hj,rfl,rfl⟩;refine w_ (B1 (h:=e_ (q_ (?_))));refine A9 rfl (fun hb2=>?_) (fun hb2=>?_)
 ·have hc2:=bp hb2;obtain⟨hlt,r1,hy,hrow, -⟩:=Br AO hc2;obtain⟨w,hyw⟩:∃w,p.wats[j]?=some w:=⟨_,BQ (by omega)⟩;have e:=eT (k:=(CL p.rules r).toNat) hyw;refine AA (q_ (Af (w_ (m_ (h:=a_ (h:=e_ (w_ (m_ (h:=m_ (h:=Aj (h:=e_ (?_))))))))))));refine A9 rfl (fun hb3=>?_) (fun hb3=>?_)
  ·have hc3:=bp hb3;rw[if_neg (by omega)]at e;refine AT (m_ (h:=l_ (h:=m_ (h:=?_))));refine A6 rfl (AE (Ng p j w (by omega) hyw) ?_);rintro r rfl;refine Bc (h:=?_)
   first|refine A6 rfl (E0 rfl rfl rfl ((by have:=List.length_eraseIdx_le (p.wats.take j) (CL p.rules r).toNat;simp at this ⊢<;>omega)) (by repeat constructor) ?_)|refine A6 rfl (E1 rfl rfl ((by have:=List.length_eraseIdx_le (p.wats.take j) (CL p.rules r).toNat;simp at this ⊢<;>omega)) (by repeat constructor) ?_)
   refine a_ (h:=AP (Ai (t_ (AT (B5 (h:=m_ (h:=AP (?_))))))));refine AK ?_;refine⟨_,_,?_,⟨j+1,by omega,rfl,rfl⟩,?_⟩
   ·omega
   first|(rw[e,List.map_append];exact(wk 3 1))|(rw[e];exact(wk 3 1))
  have hc3:=bp hb3;rw[if_pos (by omega)]at e;refine Av (Ai (t_ (AT (B5 (h:=m_ (h:=AP (?_)))))));refine AK ?_;refine⟨_,_,?_,⟨j+1,by omega,rfl,rfl⟩,?_⟩
  ·omega
  first|(rw[e,List.map_append];exact(wk 3 1))|(rw[e];exact(wk 3 1))
 have hc2:=bp hb2;have e:=C5 AO hj hc2;subst e;rw[←h2,List.take_length];refine BH (Ah (Ah (BJ (t_ (w_ (m_ (h:=m_ (h:=Ab (h:=s_ (h:=a_ (h:=e_ (A4 (?_)))))))))))));refine A8 ?_;rw[heq,if_neg k1];rfl
theorem eV:AFn prog 59 [.agg (BV p), .agg (AO r)] (fun x=>x=DC (Eb p r)):=by
 have hrem:AFn prog 108 [.sl 8 (p.rules.map AO) none, .agg (AO r)] (fun x=>x= .tup [.sl 8 (A.1.map AO) none, .v (.int .i64 A.2)]):=by rw[←hA];exact dO p.rules r h1 hi
 have heq:Eb p r=if A.2≠0 then(DA,A.2)else(⟨A.1,p.wats.eraseIdx (CL p.rules r).toNat⟩,0):=by rw[Eb,hA]
 refine enter Tryz.func59 rfl rfl rfl rfl rfl 0 rfl ?_;refine w_ (b_ (h:=b_ (h:=Aa (h:=a_ (h:=e_ (w_ (f_ (h:=l_ (h:=l_ (h:=?_))))))))));refine A6 rfl (AE (hrem) ?_);rintro r rfl;refine m_ (h:=x_ (h:=x_ (h:=a_ (h:=a_ (h:=e_ (q_ (w_ (m_ (h:=Aj (h:=e_ (?_)))))))))));refine A9 rfl (fun hb1=>?_) (fun hb1=>?_)
 ·have hc1:=bp hb1;have k1:A.2≠0:=by simpa using hc1
  refine w_ (Ab (h:=m_ (h:=s_ (h:=a_ (h:=e_ (A4 (A7 (?_))))))));refine Am (r:=DC (Eb p r)) none (h5:=?_) (h6:=⟨rfl,rfl,rfl⟩);exact Fd (by rw[heq,if_pos k1])
 have hc1:=bp hb1;have k1:¬A.2≠0:=by simpa using hc1
 obtain⟨k,hk,hkl⟩:=UT (Ui (l:=p.rules) (r:=r) (by rw[hA];simpa using k1));refine AA (w_ (f_ (h:=l_ (h:=l_ (h:=?_)))));refine A6 rfl (AE (Ld p.rules r h1 fun x hx=>(hi x hx).2.2.2) ?_);rintro x rfl;rw[hk];refine a_ (h:=e_ (w_ (f_ (h:=l_ (h:=m_ (h:=?_))))));refine A6 rfl (MC (k:=k) rfl rfl rfl (by simp;omega) ?_);refine D3 (h:=a_ (h:=e_ (w_ (m_ (h:=m_ (h:=f_ (h:=l_ (h:=m_ (h:=B5 (h:=?_))))))))));refine A6 rfl (MD (l:=k+1) rfl rfl (by omega) (by simp;omega) ?_);refine D3 (h:=Ab (h:=s_ (h:=a_ (h:=e_ (A4 (?_))))));refine A8 ?_;rw[heq,if_neg k1,hk,Int.toNat_natCast,List.eraseIdx_eq_take_drop_succ];simp[DC,BV,List.map_append,List.map_take,List.map_drop];rfl
end
structure PolOk(s:Spc)(p:Pol)(n:Nat):Prop where
 lst:LstOk p.rules n
 wat:p.wats=E6 s p.rules
 ok:∀r∈p.rules,(CF s r).2=0
theorem eW{s:Spc}{k:Int}{p:AJ}(h:(EP s k p).2=0):(EP s k p).1.kind=k:=by
 unfold EP at h ⊢;by_cases c1:(k≠1∧k≠2)∨D7 p.data.toList=false
 ·rw[if_pos c1]at h;cases h
 rw[if_neg c1]at h ⊢;by_cases c2:(By s (0,0) p (decide (k=2))).2≠0
 ·rw[if_pos c2]at h;exact absurd h c2
 rw[if_neg c2]at h ⊢;by_cases c3:k=2
 ·rw[if_pos c3]at h ⊢;by_cases c4:(By s (0,0) p true).1.ex=false
  ·rw[if_pos c4]at h;cases h
  rw[if_neg c4]at h ⊢;by_cases c5:Aq s.files (By s (0,0) p true).1.file=false
  ·rw[if_pos c5]at h;cases h
  rw[if_neg c5]
 rw[if_neg c3]at h ⊢;by_cases c4:(By s (0,0) p false).1.name=⟨#[]⟩
 ·rw[if_pos c4]at h;cases h
 rw[if_neg c4]
theorem eX{s:Spc}{r:Rul}(hv:SpcV s)(h:(CF s r).2=0):EQ s r (CF s r).1=true:=by
 unfold EQ;unfold CF at h ⊢;by_cases c:r.watch=0
 ·simp[c]
 rw[if_neg c]at h ⊢;rw[if_neg c];by_cases c2:(EP s r.watch r.path).2≠0
 ·rw[if_pos c2]at h;cases h
 rw[if_neg c2];have c3:(EP s r.watch r.path).2=0:=by simpa using c2
 rw[cL hv c3,Bool.and_true,decide_eq_true_iff];exact eW c3
theorem PolOk.sound{s:Spc}{p:Pol}{n:Nat}(hv:SpcV s)(h:PolOk s p n):GM s p=true:=by
 refine Ub h.lst.chk (by rw[h.wat];simp[E6]) ?_;intro i r w hi hr hw;rw[h.wat]at hw;simp only[E6,List.getElem?_map,hr,Option.map_some,Option.some.injEq]at hw;rw[←hw];exact eX hv (h.ok r (Ar hr))
theorem PolOk.nil(s:Spc)(n:Nat):PolOk s DA n:=⟨LstOk.nil n,rfl,by simp[DA]⟩
theorem PolOk.mono{s:Spc}{p:Pol}{n m:Nat}(h:PolOk s p n)(hm:n≤m):PolOk s p m:=⟨h.lst.mono hm,h.wat,h.ok⟩
theorem PolOk.len{s:Spc}{p:Pol}{n:Nat}(h:PolOk s p n):p.wats.length=p.rules.length:=by rw[h.wat];simp[E6]
theorem Uj{l:List Rul}{r:Rul}{f:Bool}(h:(BX l r f).2=0):(BX l r f).1=if f=true then r::l else l++[r]:=by
 unfold BX at h ⊢;by_cases c1:Cf l≠0
 ·rw[if_pos c1]at h;exact absurd h c1
 rw[if_neg c1]at h ⊢;by_cases c2:BE r≠0
 ·rw[if_pos c2]at h;exact absurd h c2
 rw[if_neg c2]at h ⊢;by_cases c3:0≤CL l r
 ·rw[if_pos c3]at h;cases h
 rw[if_neg c3]at h ⊢;by_cases c4:24≤(l.length:Int)
 ·rw[if_pos c4]at h;cases h
 rw[if_neg c4]
theorem PolOk.add{s:Spc}{p:Pol}{n:Nat}{r:Rul}{f:Bool}(h:PolOk s p n)(hr:CN r)(he:(CQ s p r f).2=0):PolOk s (CQ s p r f).1 (n+1):=by
 unfold CQ at he ⊢;by_cases c1:(BX p.rules r f).2≠0
 ·rw[if_pos c1]at he;exact absurd he c1
 rw[if_neg c1]at he ⊢;by_cases c2:(CF s r).2≠0
 ·rw[if_pos c2]at he;exact absurd he c2
 rw[if_neg c2];have d1:(BX p.rules r f).2=0:=by simpa using c1
 have d2:(CF s r).2=0:=by simpa using c2
 refine⟨h.lst.add hr d1,?_,?_⟩
 ·simp only[Uj d1,h.wat];cases f<;>simp[E6]
 intro x hx;simp only[Uj d1]at hx
 have:x=r∨x∈p.rules:=by
  cases f
  ·exact(by simpa using hx:x∈p.rules∨x=r).symm
  simpa using hx
 rcases this with rfl|hx
 ·exact d2
 exact h.ok x hx
section
theorem Uk(l:List Int)(a:Nat)(ha:a≤1000000000):E2 prog 56 l a [] 1600 (fun r=>∃x:Rul,CN x∧BE x=0∧r= .agg (AO x)):=by
 refine enter Tryz.func56 rfl rfl rfl rfl rfl 1 rfl ?_;refine w_ (Aa (h:=e_ (q_ (w_ (a_ (h:=e_ (Af (?_))))))));refine BW (fun n s=>∃(j b:Nat),j≤8∧n=8 - j∧b≤a+200 * j∧s=⟨look [(0, .bp 0 0),(2, .bp 1 0),(3, .v (.int .i64 (j:Int)))],⟨[D1 l b,[.v (.int .i64 0), .v (.int .i64 0), .v (.int .u64 0), .v (.slice none 0 0), .v (.int .i64 0), .v (.string ⟨#[]⟩), .v (.int .i64 0), .v (.string ⟨#[]⟩)]],[]⟩⟩) (8) ((wk 2 0)) (⟨0,a,by omega,rfl,by omega,rfl⟩) ?_;rintro n s ⟨j,b,hj,rfl,hb,rfl⟩;refine q_ (w_ (m_ (h:=B1 (h:=e_ (?_)))));refine A9 rfl (fun hb1=>?_) (fun hb1=>?_)
 ·have hc1:=bp hb1;refine AA (q_ (Af (w_ (m_ (h:=?_)))));refine A6 rfl (Au 0 (hc:=Uh l _ (by omega)) (hR:=?_));rintro r a1 ha1 ⟨x,hx,rfl⟩;refine⟨rfl,_,(by repeat constructor),?_⟩;refine Aa (h:=s_ (h:=e_ (w_ (l_ (h:=?_)))));refine A6 rfl (AE (Nd x hx) ?_);rintro r rfl;refine AN (h:=e_ (?_));refine A9 rfl (fun hb2=>?_) (fun hb2=>?_)
  ·have hc2:=bp hb2;refine w_ (l_ (h:=s_ (h:=e_ (A4 (AR (A7 (A7 (AR (A7 (?_))))))))));refine Am none (h5:=(AZ _)) (h6:=⟨_,rfl,rfl,_,?_,rfl,x,hx,hc2,rfl⟩)<;>omega
  have hc2:=bp hb2;refine Av (Ai (t_ (AT (m_ (h:=B5 (h:=a_ (h:=AP (?_))))))));refine AK ?_;refine⟨_,_,?_,⟨j+1,_,by omega,rfl,?_,rfl⟩,(wk 2 0)⟩<;>omega
 have hc1:=bp hb1;refine BH (Ah (Ah (BJ (t_ (w_ (Ab (h:=s_ (h:=e_ (A4 (?_))))))))));refine Am (r:= .agg (AO Lh)) none (h5:=(by repeat (first|exact AZ _|exact LeA.nil _|exact LeL.refl _|refine LeA.agg ?_|refine LeA.tup ?_|exact LeL.nil|refine LeL.cons ?_ ?_|exact LeA.any _))) (h6:=⟨_,rfl,rfl,b,by omega,rfl,Lh,eR,eS,rfl⟩)
end
theorem eY:LeL [.v (.slice none 0 0), .v (.slice none 0 0)] (BV DA):=by
 show LeL _ [.sl 8 [] none, .sl 6 [] none];exact LeL.cons (LeA.nil _) (LeL.cons (LeA.nil _) LeL.nil)
section
theorem eZ(l:List Int)(a m:Nat)(s:Spc)(ha:a≤100000000)(hm:m≤20)(hv:SpcV s)(hmm:s.mounts.length≤1000):E2 prog 20 l a [.agg (Ag s), .v (.int .i64 (m:Int))] 50000 (fun r=>∃p:Pol,PolOk s p 20∧r= .agg (BV p)):=by
 refine enter Tryz.func20 rfl rfl rfl rfl rfl 1 rfl ?_;refine w_ (b_ (h:=Aa (h:=e_ (w_ (Aa (h:=e_ (q_ (w_ (m_ (h:=m_ (h:=B5 (h:=?_))))))))))));refine A6 rfl (Au 0 (hc:=Gn l _ ((m:Int)+1) (by omega) (by omega)) (hR:=?_));rintro r a1 ha1 ⟨k1,rfl,p1,q1,o1⟩;refine⟨rfl,_,(by repeat constructor),?_⟩;obtain⟨m0,rfl⟩:=Int.eq_ofNat_of_zero_le p1;have hm0:m0≤20:=by omega
 refine a_ (h:=e_ (Af (?_)));refine BW (fun n S=>∃(j b:Nat) (p:Pol),j≤m0∧n=j∧b≤a+1+1700 * (m0 - j)∧PolOk s p (m0 - j)∧S=⟨look [(0, .bp 0 0),(4, .bp 1 0),(6, .bp 2 0),(7, .bp 3 0),(8, .v (.int .i64 (j:Int)))],⟨[D1 l b,Ag s,[.v (.slice none 0 0), .v (.slice none 0 0)],BV p],[]⟩⟩) (m0) (Weak.trans (cH 3 rfl eY) ((wk 4 0))) (⟨m0,_,DA,by omega,rfl,by omega,PolOk.nil _ _,rfl⟩) ?_;rintro n S ⟨j,b,p,hj,hn,hb,hp,rfl⟩;subst n;refine q_ (w_ (m_ (h:=Bf (h:=e_ (?_)))));refine A9 rfl (fun hb1=>?_) (fun hb1=>?_)
 ·have hc1:=bp hb1;refine AA (q_ (Af (?_)));refine CH (fun S=>∃(b1:Nat) (x:Rul) (f:Bool),b1≤a+1+1700 * (m0 - j)+1610∧CN x∧S=⟨look [(0, .bp 0 0),(4, .bp 1 0),(6, .bp 2 0),(7, .bp 3 0),(8, .v (.int .i64 (j:Int))),(9, .bp 4 0),(10, .v (.int .i64 (CQ s p x f).2))],⟨[D1 l b1,Ag s,[.v (.slice none 0 0), .v (.slice none 0 0)],BV p,BV (CQ s p x f).1],[]⟩⟩) ?_ ?_
  ·skip
   refine CB ([(1,Ag s),(2,[.v (.slice none 0 0), .v (.slice none 0 0)]),(3,BV p)]) 14 (h:=?_)
   first|refine AY 0 (h:=?_)|refine BG 0 rfl (fun _ hS=>DW (row:=BV p) rfl (kb hS rfl) (B8 rfl) rfl ⟨rfl,rfl⟩) ?_|refine BG 0 rfl (fun _ hS=>DW (row:=Ag s) rfl (kb hS rfl) (B8 rfl) rfl ⟨rfl,rfl⟩) ?_
   first|refine AY 1 (h:=?_)|refine BG 1 rfl (fun _ hS=>DW (row:=BV p) rfl (kb hS rfl) (B8 rfl) rfl ⟨rfl,rfl⟩) ?_|refine BG 1 rfl (fun _ hS=>DW (row:=Ag s) rfl (kb hS rfl) (B8 rfl) rfl ⟨rfl,rfl⟩) ?_
   refine Ap 2 (h:=Ap 4 (h:=?_));refine G6 3 11 rfl rfl ?_ ?_
   ·refine Au 0 (hc:=Uk l _ (by omega)) (hR:=?_);rintro r a2 ha2 ⟨x,hx,hg,rfl⟩;refine⟨rfl,_,(by repeat constructor),?_⟩;refine o_ (h:=?_);refine G6 5 11 rfl rfl ?_ ?_
    ·refine Au 0 (hc:=Gn l _ (4) (by omega) (by omega)) (hR:=?_);rintro r a3 ha3 ⟨k3,rfl,p3,q3,o3⟩;refine⟨rfl,_,(by repeat constructor),?_⟩;refine o_ (h:=?_);refine Fh 6 (h:=?_);refine G6 7 11 rfl rfl ?_ ?_
     ·refine AE (Lg s p x hv hmm (by have:=hp.lst.len;omega) hp.len hp.lst.ins hx _) ?_;rintro r rfl;refine o_ (h:=?_);refine Ap 8 (h:=Bw 9 (h:=Bw 10 (h:=?_)));refine c_ 11 rfl (Dt (by repeat constructor) ?_);refine o_ (h:=?_);refine Bi 12 rfl (Ba rfl rfl rfl rfl rfl rfl (by repeat constructor) (by repeat constructor) ?_);refine o_ (h:=BN 13 (h:=z_ (h:=?_)));refine AK ?_;exact⟨_,⟨_,x,_,(by omega),hx,rfl⟩,Ay 5 0 rfl rfl rfl rfl ((by repeat (first|exact Sub.nil|refine B0 rfl rfl ?_|refine B2 ?_|refine B3 rfl ?_|refine B4 rfl ?_)))⟩
     refine Dt (by repeat constructor) ?_;refine o_ (h:=?_);refine c_ 7 rfl (AE (Lg s p x hv hmm (by have:=hp.lst.len;omega) hp.len hp.lst.ins hx _) ?_);rintro r rfl;refine o_ (h:=Ap 8 (h:=Bw 9 (h:=Bw 10 (h:=?_))));refine Bi 12 rfl (Ba rfl rfl rfl rfl rfl rfl (by repeat constructor) (by repeat constructor) ?_);refine o_ (h:=BN 13 (h:=z_ (h:=?_)));refine AK ?_;exact⟨_,⟨_,x,_,(by omega),hx,rfl⟩,Ay 5 0 rfl rfl rfl rfl ((by repeat (first|exact Sub.nil|refine B0 rfl rfl ?_|refine B2 ?_|refine B3 rfl ?_|refine B4 rfl ?_)))⟩
    refine Dt (by repeat constructor) ?_;refine o_ (h:=?_);refine c_ 5 rfl (Au 0 (hc:=Gn l _ (4) (by omega) (by omega)) (hR:=?_));rintro r a4 ha4 ⟨k4,rfl,p4,q4,o4⟩;refine⟨rfl,_,(by repeat constructor),?_⟩;refine o_ (h:=Fh 6 (h:=?_));refine c_ 7 rfl (AE (Lg s p x hv hmm (by have:=hp.lst.len;omega) hp.len hp.lst.ins hx _) ?_);rintro r rfl;refine o_ (h:=Ap 8 (h:=Bw 9 (h:=Bw 10 (h:=?_))));refine Bi 12 rfl (Ba rfl rfl rfl rfl rfl rfl (by repeat constructor) (by repeat constructor) ?_);refine o_ (h:=BN 13 (h:=z_ (h:=?_)));refine AK ?_;exact⟨_,⟨_,x,_,(by omega),hx,rfl⟩,Ay 5 0 rfl rfl rfl rfl ((by repeat (first|exact Sub.nil|refine B0 rfl rfl ?_|refine B2 ?_|refine B3 rfl ?_|refine B4 rfl ?_)))⟩
   refine Dt (by repeat constructor) ?_;refine o_ (h:=?_);refine c_ 3 rfl (Au 0 (hc:=Uk l _ (by omega)) (hR:=?_));rintro r a5 ha5 ⟨x,hx,hg,rfl⟩;refine⟨rfl,_,(by repeat constructor),?_⟩;refine o_ (h:=?_);refine c_ 5 rfl (Au 0 (hc:=Gn l _ (4) (by omega) (by omega)) (hR:=?_));rintro r a6 ha6 ⟨k6,rfl,p6,q6,o6⟩;refine⟨rfl,_,(by repeat constructor),?_⟩;refine o_ (h:=Fh 6 (h:=?_));refine c_ 7 rfl (AE (Lg s p x hv hmm (by have:=hp.lst.len;omega) hp.len hp.lst.ins hx _) ?_);rintro r rfl;refine o_ (h:=Ap 8 (h:=Bw 9 (h:=Bw 10 (h:=?_))));refine Bi 12 rfl (Ba rfl rfl rfl rfl rfl rfl (by repeat constructor) (by repeat constructor) ?_);refine o_ (h:=BN 13 (h:=z_ (h:=?_)));refine AK ?_;exact⟨_,⟨_,x,_,(by omega),hx,rfl⟩,Ay 5 0 rfl rfl rfl rfl ((by repeat (first|exact Sub.nil|refine B0 rfl rfl ?_|refine B2 ?_|refine B3 rfl ?_|refine B4 rfl ?_)))⟩
  rintro S ⟨b1,x,f,hb1,hx,rfl⟩;refine w_ (m_ (h:=AN (h:=e_ (?_))));refine A9 rfl (fun hb2=>?_) (fun hb2=>?_)
  ·have hc2:=bp hb2;have hp2:=hp.add (f:=f) hx (by simpa using hc2);refine AT (l_ (h:=s_ (h:=AP (Ai (t_ (AT (m_ (h:=G8 (h:=a_ (h:=AP (?_)))))))))));refine AK ?_;obtain⟨j,rfl⟩:∃i,j=i+1:=⟨j - 1,by omega⟩;refine⟨_,_,?_,⟨j,_,_,by omega,rfl,?_,hp2.mono (by omega),rfl⟩,Ay 4 0 rfl rfl rfl rfl (by repeat (first|exact Sub.nil|refine B0 rfl rfl ?_|(apply Sub.of;(focus exact rfl);(focus exact LeA.of_eq (vi (by omega)));(focus exact rfl))))⟩<;>omega
  have hc2:=bp hb2;have hp2:=hp.mono (Nat.le_succ _);refine Av (Ai (t_ (AT (m_ (h:=G8 (h:=a_ (h:=AP (?_))))))));refine AK ?_;obtain⟨j,rfl⟩:∃i,j=i+1:=⟨j - 1,by omega⟩;refine⟨_,_,?_,⟨j,_,_,by omega,rfl,?_,hp2.mono (by omega),rfl⟩,Ay 4 0 rfl rfl rfl rfl (by repeat (first|exact Sub.nil|refine B0 rfl rfl ?_|(apply Sub.of;(focus exact rfl);(focus exact LeA.of_eq (vi (by omega)));(focus exact rfl))))⟩<;>omega
 have hc1:=bp hb1;refine BH (Ah (Ah (BJ (t_ (w_ (l_ (h:=s_ (h:=e_ (A4 (?_))))))))));refine Am none (h5:=(AZ _)) (h6:=⟨_,rfl,rfl,b,by omega,rfl,p,hp.mono (by omega),rfl⟩)
end
structure Vdt where
 sel:Bool
 rule:Int
 key:AJ
deriving DecidableEq
def KH(v:Vdt):List AV:=[.v (.bool v.sel), .v (.int .i64 v.rule), .v (.string v.key)]
def Li:Vdt:=⟨false, -1,⟨#[]⟩⟩
def Gj(l:List Rul)(i:Int):Vdt:=if i<0 then Li else match l[i.toNat]? with|some r=>⟨decide (r.action=1),i,r.key⟩|none=>Li
theorem f6{l:List Rul}{i:Nat}{r:Rul}(h:l[i]?=some r):Gj l (i:Int)=⟨decide (r.action=1),(i:Int),r.key⟩:=by
 rw[Gj,if_neg (by omega),Int.toNat_natCast,h]
theorem Ul{l:List Rul}{i:Int}(h:i<0):Gj l i=Li:=by rw[Gj,if_pos h]
def Um(l:List Rul)(i:Int):Prop:=i<0∨∃(k:Nat) (r:Rul),i=(k:Int)∧l[k]?=some r
theorem Un{α:Type}{p:Nat→α→Bool}:∀{l:List α} {i:Nat},Ck p l i<0∨∃(k:Nat) (r:α),Ck p l i=((i+k:Nat):Int)∧l[k]?=some r
 |[],_=> .inl (by simp[Ck])
 |x::xs,i=>by
   rw[Ck];split
   ·exact .inr ⟨0,x,rfl,rfl⟩
   rcases Un (p:=p) (l:=xs) (i:=i+1)with h|⟨k,r,h1,h2⟩
   ·exact .inl h
   exact .inr ⟨k+1,r,by rw[h1];congr 1;omega,by simpa using h2⟩
theorem Uo(p:Nat→Rul→Bool)(l:List Rul):Um l (Ck p l 0):=by
 rcases Un (p:=p) (l:=l) (i:=0)with h|⟨k,r,h1,h2⟩
 ·exact .inl h
 exact .inr ⟨k,r,by rw[h1,Nat.zero_add],h2⟩
def Up(c:Ctx):Ctx:={c with phase:=1,ext:=0,items:=[]}
def Nj(p:Pol)(c:Ctx):Int:=Ck (Hd 2 [] (Up c)) p.rules 0
section
theorem f8(p:Pol)(i:Int)(hi:i<0):AFn prog 67 [.agg (BV p), .v (.int .i64 i)] (fun r=>r= .agg (KH Li)):=by
 refine enter Tryz.func67 rfl rfl rfl rfl rfl 0 rfl ?_;refine w_ (b_ (h:=Aa (h:=e_ (q_ (w_ (m_ (h:=B1 (h:=e_ (?_)))))))));refine A9 rfl (fun hb1=>?_) (fun hb1=>?_)
 ·have hc1:=bp hb1;refine w_ (Ab (h:=s_ (h:=e_ (A4 (A7 (?_))))));refine A8 ?_;rfl
 have hc1:=bp hb1;exfalso;first|contradiction|omega
theorem f9(p:Pol)(k:Nat)(r:Rul)(hr:p.rules[k]?=some r)(h1:p.rules.length≤1000):AFn prog 67 [.agg (BV p), .v (.int .i64 (k:Int))] (fun x=>x= .agg (KH ⟨decide (r.action=1),(k:Int),r.key⟩)):=by
 have hrow:(p.rules.map AO)[k]?=some (AO r):=by rw[List.getElem?_map,hr];rfl
 have hlt:k<p.rules.length:=(Al.1 hr).1;refine enter Tryz.func67 rfl rfl rfl rfl rfl 0 rfl ?_;refine w_ (b_ (h:=Aa (h:=e_ (q_ (w_ (m_ (h:=B1 (h:=e_ (?_)))))))));refine A9 rfl (fun hb1=>?_) (fun hb1=>?_)
 ·have hc1:=bp hb1;exfalso;first|contradiction|omega
 have hc1:=bp hb1;refine AA (w_ (f_ (h:=l_ (h:=m_ (h:=i_ (h:=l_ (h:=Aa (h:=s_ (h:=e_ (w_ (f_ (h:=l_ (h:=AN (h:=m_ (h:=f_ (h:=l_ (h:=Ab (h:=s_ (h:=e_ (A4 (?_)))))))))))))))))))));refine A8 ?_;rfl
theorem QL(p:Pol)(i:Int)(hi:Um p.rules i)(h1:p.rules.length≤1000):AFn prog 67 [.agg (BV p), .v (.int .i64 i)] (fun r=>r= .agg (KH (Gj p.rules i))):=by
 rcases hi with hi|⟨k,r,rfl,hr⟩
 ·rw[Ul hi];exact f8 p i hi
 rw[f6 hr];exact f9 p k r hr h1
variable (p:Pol)(c:Ctx)(k:Cxs)(h1:p.rules.length≤1000)(ht:∀r∈p.rules,r.tests.length≤1000)
include h1 ht
theorem fA:AFn prog 22 [.agg (BV p), .agg (De c k)] (fun r=>r= .tup [.agg (KH (Gj p.rules (Nj p c))), .v (.bool (decide (0≤Nj p c)))]):=by
 refine enter Tryz.func22 rfl rfl rfl rfl rfl 0 rfl ?_;refine w_ (b_ (h:=b_ (h:=Aa (h:=a_ (h:=e_ (w_ (f_ (h:=s_ (h:=f_ (h:=s_ (h:=f_ (h:=s_ (h:=e_ (w_ (f_ (h:=l_ (h:=l_ (h:=?_))))))))))))))))));refine A6 rfl (AE (Rt p.rules 2 [] (Up c) k h1 (BO _) ht) ?_);rintro r rfl;refine a_ (h:=e_ (w_ (l_ (h:=m_ (h:=?_)))));refine A6 rfl (AE (QL p _ (Uo _ _) h1) ?_);rintro r rfl;refine m_ (h:=D4 (h:=s_ (h:=a_ (h:=e_ (A4 (?_))))));refine A8 ?_;rfl
end
end Go.Proofs.YtbgnigjfkbmceaaGreatDoor
