/-
  Part 16 of the proof of FilterSilentP: what the statement's proof uses of the texts in wip/tpl.
-/
import Derived.Test.YtbgnigjfkbmceaaGreatDoorQe15
open Go.Proofs.Tryz (prog)
set_option maxRecDepth 10000
set_option maxHeartbeats 4000000
set_option linter.unusedVariables false
set_option linter.unusedSimpArgs false
namespace Go.Proofs.YtbgnigjfkbmceaaGreatDoor
open Go.RowKit
theorem Z3:RowF 1 JP:=⟨fun _=>rfl,fun b y hy=> .inl ⟨.bool b,by simpa[JP]using hy⟩,by decide⟩
theorem Z4:∀L:List Bool,(L.map JP).flatten=L.map Rb
 |[]=>rfl
 |x::xs=>by simp only[List.map_cons,List.flatten_cons,Z4 xs];rfl
theorem Z5{L:List Bool}{j:Nat}(h:j≤L.length):HB L j=LB 1 JP (L.take j++List.replicate (L.length - j) false) L.length:=by
 unfold LB CU HB;rw[Z4];simp;omega
theorem oE(L:List Bool):HB L L.length=LB 1 JP L L.length:=by
 rw[Z5 (B3 _)];simp
theorem Pa{L:List Bool}{j n m:Nat}(h:j≤L.length):AQ n m (HB L j)=true:=by rw[Z5 h];exact Bm Z3
theorem oF{L:List Bool}{j:Nat}{b:Bool}(h:L[j]?=some b):SetAt (HB L j) (0+j * 1) (CM (.v (.bool b))) (HB L (j+1)):=by
 have hj:j<L.length:=(Ab.1 h).1;rw[←o8 h,show 0+j * 1=j by omega];exact SetAt.put1 (by rw[nZ L (by omega)];exact hj)
section
theorem oG(s:Spc)(p:Pol)(items:List Itm)(h0:p.rules=[]):AFn prog 32 [.agg (CL p), .agg (AY s), .sl 13 (items.map FT) none] (fun r=>r= .sl 1 ((K5 s p items).map JP) none):=by
 rw[show K5 s p items=[] by simp[K5,h0],show CL p=[.sl 8 [] none, .sl 6 (p.wats.map Eb) none] by simp[CL,h0]];refine enter Tryz.func32 rfl rfl rfl rfl rfl 0 rfl ?_;refine Gl (h:=B0 (h:=n_ (h:=?_)));refine A3 rfl (S9 rfl rfl (by decide) (by repeat constructor) ?_);refine J1 (h:=JK (h:=e_ (BK (?_))));refine BU (fun n S=>n=0∧S=⟨look [(7, .sl 1 [] (some 0)),(17, .v (.int .i64 0)),(18, .v (.int .i64 0))],⟨[[.sl 8 [] none, .sl 6 (p.wats.map Eb) none],AY s],[(4,1,[])]⟩⟩) (0) ((wk 2 1)) (⟨rfl,rfl⟩) ?_;rintro n S ⟨rfl,rfl⟩;refine w_ (D2 (h:=q_ (?_)));refine A4 rfl (fun hb1 hc1=>?_) (fun hb1 hc1=>?_)
 ·simp at hc1
 refine CJ (h:=EA (h:=?_));refine A6 ?_;rfl
theorem oH(s:Spc)(p:Pol)(items:List Itm)(hs:SpcB s)(h0:0<p.rules.length)(h1:p.rules.length≤1000)(h2:p.wats.length=p.rules.length)(hit:items.length≤1000)(L:List Bool)(hL:K5 s p items=L):AFn prog 32 [.agg (CL p), .agg (AY s), .sl 13 (items.map FT) none] (fun r=>r= .sl 1 (L.map JP) none):=by
 have hlen:L.length=p.rules.length:=by rw[←hL];exact nY h2
 refine enter Tryz.func32 rfl rfl rfl rfl rfl 0 rfl ?_;refine Gl (h:=B0 (h:=n_ (h:=?_)));refine A3 rfl (oA (m:=L.length) rfl rfl (by simp[hlen]) (by simp[hlen]) (by omega) (by omega) (by repeat constructor) ?_);refine J1 (h:=JK (h:=e_ (BK (?_))));refine BU (fun n S=>∃j:Nat,j≤p.rules.length∧n=p.rules.length - j∧S=⟨look [(2, .sl 13 (items.map FT) none),(3, .bp 0 0),(4, .bp 1 0),(7, .bs 2 0 1 L.length L.length),(16, .sl 8 (p.rules.map Ag) none),(17, .v (.int .i64 ((p.rules.map Ag).length:Int))),(18, .v (.int .i64 (j:Int)))],⟨[CL p,AY s,HB L j],[]⟩⟩) (p.rules.length) (by rw[←o0];exact Bd 3 0 (by simp[AW,Pa,CL,AY,AQ,AP])) (⟨0,BH _,rfl,rfl⟩) ?_;rintro n S ⟨j,hj,rfl,rfl⟩;refine w_ (D2 (h:=q_ (?_)));refine A4 rfl (fun hb1 hc1=>?_) (fun hb1 hc1=>?_)
 ·obtain⟨hlt,r,hy,hrow, -⟩:=C1 Ag hc1;obtain⟨w,hyw⟩:∃w,p.wats[j]?=some w:=⟨_,B2 (by omega)⟩;have hLj:=nX (s:=s) (items:=items) hy hyw;rw[hL]at hLj;refine C0 (h:=AX (h:=i_ (h:=l_ (h:=CY (h:=a_ (h:=s_ (h:=e_ (Fe (h:=BN (h:=?_))))))))));refine A4 rfl (fun hb2 hc2=>?_) (fun hb2 hc2=>?_)
  ·have hb0:L[j]?=some false:=by rw[hLj];simp_all [PZ]
   refine SU (h:=LW (t_ (Aw (J3 (h:=?_)))));refine⟨_,_,?_,⟨j+1,by omega,rfl,rfl⟩,?_⟩
   ·omega
   first|(rw[←Z1 hb0];exact Bd 3 0 (by simp[AW,Pa (L:=L) (j:=j) (by omega),CL,AY,AQ,AP]))|exact Bd 3 0 (by simp[AW,Pa (L:=L) (j:=j+1) (by omega),CL,AY,AQ,AP])
  have hb2:L[j]?=some (items.any (qF s r w)):=by rw[hLj];simp_all [PZ]
  refine AF (FR (h:=?_));refine A3 rfl (A8 (mX p j w (by omega) hyw) ?_);rintro r rfl;refine Dz (h:=EQ (h:=m_ (h:=SO (h:=?_))));refine A3 rfl (SE rfl (by repeat (first|exact ArgsL.nil|refine ArgsL.cons _ _ _ _ _ rfl rfl ?_)) (oD items hit (qF s r w) 72 [.fp (Ag r), .fp (AY s), .fp (Eb w)] rfl rfl fun x=>oB s r w x hs) ?_);rintro x rfl;refine⟨rfl,?_⟩;refine A3 rfl (Dx (m:=j) rfl rfl rfl (by omega) ?_);refine ME (Ed (row':=HB L (j+1)) rfl rfl rfl rfl rfl rfl (oF hb2) (by repeat constructor) ?_);refine C4 (BE (t_ (Aw (J3 (h:=?_)))));refine⟨_,_,?_,⟨j+1,by omega,rfl,rfl⟩,?_⟩
  ·omega
  first|(rw[←Z1 hb0];exact Bd 3 0 (by simp[AW,Pa (L:=L) (j:=j) (by omega),CL,AY,AQ,AP]))|exact Bd 3 0 (by simp[AW,Pa (L:=L) (j:=j+1) (by omega),CL,AY,AQ,AP])
 have e:=CF Ag hj hc1;subst e;refine CJ (h:=?_);refine B9 (fun S=>S=⟨look [(6, .sl 1 (L.map JP) none)],⟨[CL p,AY s],[]⟩⟩) ?_ ?_
 ·skip
  refine Bt (h:=Ch (h:=?_));rw[←hlen,oE];exact⟨_,rfl,H8 2 1 rfl rfl (.cons _ _ _ _ rfl (LeA.of_eq (OA Z3 rfl rfl (B3 _))) .nil)⟩
 rintro S rfl;refine B5 (?_);refine A6 ?_;rfl
end
def UE(c:Ctx):Ctx:={c with phase:=2}
def Rc(s:Spc)(p:Pol)(c:Ctx):Int:=Dj (Kl 3 (K5 s p c.items) (UE c)) p.rules 0
def Lv(s:Spc)(p:Pol)(c:Ctx):Vdt:=if c.audited=false then J8 else if 0≤Ra p c then LS p.rules (Ra p c)else LS p.rules (Rc s p c)
section
theorem oJ(s:Spc)(p:Pol)(items:List Itm)(hs:SpcB s)(h1:p.rules.length≤1000)(h2:p.wats.length=p.rules.length)(hit:items.length≤1000):AFn prog 32 [.agg (CL p), .agg (AY s), .sl 13 (items.map FT) none] (fun r=>r= .sl 1 ((K5 s p items).map JP) none):=by
 rcases Nat.eq_zero_or_pos p.rules.length with h0|h0
 ·exact oG s p items (FN h0)
 exact oH s p items hs h0 h1 h2 hit _ rfl
variable (s:Spc)(p:Pol)(c:Ctx)(k:Cxs)(hs:SpcB s)(h1:p.rules.length≤1000)(h2:p.wats.length=p.rules.length)(ht:∀r∈p.rules,r.tests.length≤1000)(hit:c.items.length≤1000)
include hs h1 h2 ht hit
theorem Z6:AFn prog 24 [.agg (CL p), .agg (AY s), .agg (D5 c k)] (fun r=>r= .agg (H6 (LS p.rules (Rc s p c)))):=by
 refine enter Tryz.func24 rfl rfl rfl rfl rfl 0 rfl ?_;refine w_ (b_ (h:=b_ (h:=b_ (h:=CY (h:=e_ (w_ (f_ (h:=s_ (h:=e_ (q_ (BO ([(0,CL p),(1,AY s),(2,D5 (UE c) k)]) 12 (h:=A9 0 (h:=AD 1 (h:=A9 2 (h:=A9 3 (h:=A9 4 (h:=AD 5 (h:=A9 6 (h:=A9 8 (h:=?_))))))))))))))))))));refine c_ 7 rfl (A8 (oJ s p c.items hs h1 h2 hit) ?_);rintro r rfl;refine o_ (h:=?_);refine c_ 9 rfl (A8 (Oj p.rules 3 (K5 s p c.items) (UE c) k h1 hit ht) ?_);rintro r rfl;refine o_ (h:=?_);refine c_ 10 rfl (A8 (PY p (Rc s p c) (PX _ _) h1) ?_);rintro r rfl;refine o_ (h:=?_);refine B6 11 (h:=z_ (h:=t_ (B5 (?_))));refine A6 ?_;rfl
theorem UF:AFn prog 26 [.agg (CL p), .agg (AY s), .agg (D5 c k)] (fun r=>r= .agg (H6 (Lv s p c))):=by
 refine enter Tryz.func26 rfl rfl rfl rfl rfl 0 rfl ?_;refine Fd (h:=b_ (h:=CY (h:=e_ (q_ (w_ (Dp (h:=DA (h:=?_))))))));refine A4 rfl (fun hb1 hc1=>?_) (fun hb1 hc1=>?_)
 ·have k1:c.audited=false:=by simpa using hc1
  refine C5 (h:=?_);refine A3 rfl (A8 (PY p (-1) (.inl (by decide)) h1) ?_);rintro r rfl;refine s_ (h:=e_ (B5 (Ba (?_))));refine A6 ?_;rw[Lv,if_pos k1,←UD (l:=p.rules) (i:= -1) (by decide)];rfl
 have k1:¬c.audited=false:=by simpa using hc1
 refine FD (h:=CN (h:=?_));refine A3 rfl (A8 (Yy p c k h1 ht) ?_);rintro r rfl;refine FC (h:=Bu (h:=e_ (?_)));refine A4 rfl (fun hb2 hc2=>?_) (fun hb2 hc2=>?_)
 ·refine Dr (h:=e_ (B5 (Ba (?_))));refine A6 ?_;rw[Lv,if_neg k1,if_pos (by simpa using hc2)];rfl
 refine AF (CN (h:=l_ (h:=?_)));refine A3 rfl (A8 (Z6 s p c k hs h1 h2 ht hit) ?_);rintro r rfl;refine s_ (h:=e_ (B5 (?_)));refine A6 ?_;rw[Lv,if_neg k1,if_neg (by simpa using hc2)];rfl
variable (hv:SpcV s)
include hv
end
def Rd:Rul:=⟨2,2,1,[⟨3,1,0,⟨#[]⟩,0⟩],0,⟨#[]⟩,0,⟨#[]⟩⟩
def Re:Rul:=⟨3,1,1,[],0,⟨#[]⟩,0,⟨#[107]⟩⟩
def J9:List Rul:=[Rd,Re]
def K6:Pol:=⟨J9,[Fs,Fs]⟩
def Lw(u:Int):Ctx:={mV u with audited:=true}
theorem Z7:∀r∈J9,F9 r:=by
 intro r hr;simp[J9]at hr;rcases hr with rfl|rfl<;>exact⟨by decide,by decide,by decide,by decide⟩
theorem oK:∀r∈J9,r.watch=0:=by
 intro r hr;simp[J9]at hr;rcases hr with rfl|rfl<;>rfl
theorem oL(s:Spc):LR s J9=(K6,0):=by
 have hp:∀r∈J9,DM s r=(Fs,0):=by
  intro r hr;simp[J9]at hr;rcases hr with rfl|rfl<;>exact if_pos rfl
 rw[Ym (by decide) fun r hr=>by rw[hp r hr]]
 have:Hq s J9=[Fs,Fs]:=by
  simp[Hq,J9,hp Rd (by simp[J9]),hp Re (by simp[J9])]
 rw[this];rfl
theorem oM(s:Spc):Lv s K6 (Lw 0)=⟨false,0,⟨#[]⟩⟩:=by
 rw[Lv,if_neg (by decide),if_pos (by decide)];decide
theorem oN(s:Spc):Lv s K6 (Lw 5)=⟨true,1,⟨#[107]⟩⟩:=by
 rw[Lv,if_neg (by decide),if_neg (by decide),Rc];rw[show K5 s K6 (Lw 5).items=[false,false] by simp[K5,K6,J9,Rd,Re,PZ]];decide
theorem oO:(K0 1).2=0:=by decide+kernel
section
theorem oP:AFn prog 34 [] (fun x=>x= .v (.bool true)):=by
 have hnew:AFn prog 60 [.v (.int .i64 1)] (fun r=>r= .tup [.agg (CP (K0 1).1), .v (.int .i64 0)]):=(YK 1).mono fun r hr=>by rw[hr,RP,oO]
 have hv:=Yo.1.v;have hm:=Yo.1.m;obtain⟨S0,hS0⟩:∃S,S=(K0 1).1:=⟨_,rfl⟩;rw[←hS0]at hnew hv hm;clear hS0;have hmm:S0.spc.mounts.length≤1000:=by omega
 have ht:∀r∈K6.rules,r.tests.length≤1000:=fun r hr=>(Z7 r hr).2.2.2;have hload:AFn prog 41 [.sl 8 (J9.map Ag) none, .agg (AY S0.spc)] (fun r=>r= .tup [.agg (CL K6), .v (.int .i64 0)]):=(nC S0.spc J9 (by decide) Z7 fun r h=>nB _ r (oK r h)).mono fun r hr=>by rw[hr,oL];rfl
 have hd0:AFn prog 26 [.agg (CL K6), .agg (AY S0.spc), .agg (D5 (Lw 0) OG)] (fun r=>r= .agg [.v (.bool false), .v (.int .i64 0), .v (.string ⟨#[]⟩)]):=(UF S0.spc K6 (Lw 0) OG (hv.b hmm) (by decide) rfl ht (by decide)).mono fun r hr=>by rw[hr,oM];rfl
 have hd5:AFn prog 26 [.agg (CL K6), .agg (AY S0.spc), .agg (D5 (Lw 5) OG)] (fun r=>r= .agg [.v (.bool true), .v (.int .i64 1), .v (.string ⟨#[107]⟩)]):=(UF S0.spc K6 (Lw 5) OG (hv.b hmm) (by decide) rfl ht (by decide)).mono fun r hr=>by rw[hr,oN];rfl
 refine enter Tryz.func34 rfl rfl rfl rfl rfl 0 rfl ?_;refine DG (h:=w_ (?_));refine A3 rfl (A8 (hnew) ?_);rintro r rfl;refine FC (h:=B4 (h:=w_ (Bi (h:=BY (h:=?_)))));refine A3 rfl (Gi (y:= .agg (Ag Rd)) (Dn ⟨rfl,rfl⟩) ?_);refine A3 rfl (Gi (y:= .agg (Ag Re)) (Dn ⟨rfl,rfl⟩) ?_);refine BY (h:=Bu (h:=Aa (h:=?_)));refine A3 rfl (A8 (hload) ?_);rintro r rfl;refine FC (h:=B4 (h:=C5 (h:=Aa (h:=Bi (h:=?_)))));refine A3 rfl (Gi (y:= .agg (D5 (Lw 0) OG)) (Dn ⟨rfl,rfl⟩) ?_);refine A3 rfl (A8 (hd0) ?_);rintro r rfl;refine Dz (h:=C5 (h:=Aa (h:=Bi (h:=?_))));refine A3 rfl (Gi (y:= .agg (D5 (Lw 5) OG)) (Dn ⟨rfl,rfl⟩) ?_);refine A3 rfl (A8 (hd5) ?_);rintro r rfl;refine Dz (h:=AX (h:=Dy (h:=?_)));refine AJ true rfl rfl (fun hb1 hc1=>?_) (fun hb1 hc1=>?_)
 ·refine Aa (h:=DP (h:=Bz (h:=?_)));refine AJ true rfl rfl (fun hb2 hc2=>?_) (fun hb2 hc2=>?_)
  ·refine Cs (h:=Bz (h:=?_));refine AJ true rfl rfl (fun hb3 hc3=>?_) (fun hb3 hc3=>?_)
   ·refine Aa (h:=Bz (h:=?_));refine AJ true rfl rfl (fun hb4 hc4=>?_) (fun hb4 hc4=>?_)
    ·refine Cs (h:=Bz (h:=?_));refine AJ true rfl rfl (fun hb5 hc5=>?_) (fun hb5 hc5=>?_)
     ·refine Cs (h:=Gp (h:=?_));refine A6 ?_
      first|rfl|(exfalso;first|contradiction|omega)|exact vb (by simp)
     refine Gq (h:=?_);refine A6 ?_
     first|rfl|(exfalso;first|contradiction|omega)|exact vb (by simp)
    refine Fv (h:=Gq (h:=?_));refine A6 ?_
    first|rfl|(exfalso;first|contradiction|omega)|exact vb (by simp)
   refine B7 (h:=Be (h:=Fv (h:=Gq (h:=?_))));refine A6 ?_
   first|rfl|(exfalso;first|contradiction|omega)|exact vb (by simp)
  refine Fv (h:=B7 (h:=Be (h:=Fv (h:=Gq (h:=?_)))));refine A6 ?_
  first|rfl|(exfalso;first|contradiction|omega)|exact vb (by simp)
 refine Fv (h:=Fv (h:=B7 (h:=Be (h:=Fv (h:=D8 (h:=a_ (h:=?_)))))));refine e_ (B5 (?_));refine A6 ?_
 first|rfl|(exfalso;first|contradiction|omega)|exact vb (by simp)
end
structure SmP(p:Pol):Prop where
 rl:p.rules.length≤1000
 wl:p.wats.length≤1000
 ts:∀r∈p.rules,r.tests.length≤1000
theorem PolOk.sm{s:Spc}{p:Pol}{n:Nat}(h:PolOk s p n)(hn:n≤1000):SmP p:=⟨Nat.le_trans h.lst.len hn,by rw[h.len];exact Nat.le_trans h.lst.len hn,fun r hr=>(h.lst.ins r hr).2.2.2⟩
def KZ(l:List Rul)(i:Int):Int:=match l[i.toNat]? with|some r=>r.action|none=>0
def Pb(l:List Rul)(i:Int):Bool:=decide (i<0)|| !decide (KZ l i=2)
def Pc(l:List Rul)(b:Bool)(i:Int):Vdt:=if b=false then J8 else if i<0 then⟨true, -1,⟨#[]⟩⟩else LS l i
def Lx(t:Int):Bool:=decide (t=1005)||decide (t=1300)||decide (t=1306)||decide (t=1307)||decide (t=1302)||decide (t=1309)
def UG(c:Ctx)(t:Int):Ctx:={c with typ:=t}
def Z8(p:Pol)(c:Ctx)(t:Int):Int:=Dj (Kl 5 [] (UG c t)) p.rules 0
def Ly(l:List Rul)(t i:Int):Bool:=Lx t&&(decide (0≤i)&&decide (KZ l i=1))
section
variable (p:Pol)(c:Ctx)(k:Cxs)(h1:p.rules.length≤1000)(ht:∀r∈p.rules,r.tests.length≤1000)(hit:c.items.length≤1000)
include h1 ht hit
theorem oQ(i:Int)(hI:nR p c=i):AFn prog 28 [.agg (CL p), .agg (D5 c k)] (fun x=>x= .v (.bool (Pb p.rules i))):=by
 have hin:PW p.rules i:=hI ▸ PX _ _;have hf:AFn prog 16 [.sl 8 (p.rules.map Ag) none, .v (.int .i64 1), .sl 1 [] none, .agg (D5 c k)] (fun x=>x= .v (.int .i64 i)):=by rw[←hI];exact Oj p.rules 1 [] c k h1 hit ht
 refine enter Tryz.func28 rfl rfl rfl rfl rfl 0 rfl ?_;refine Gl (h:=B0 (h:=l_ (h:=?_)));refine A3 rfl (A8 (hf) ?_);rintro r rfl;refine Bu (h:=DZ (h:=?_));refine AJ false rfl rfl (fun hb1 hc1=>?_) (fun hb1 hc1=>?_)
 ·refine BT (h:=Gj (h:=B8 (h:=?_)));refine A6 ?_
  first|(exfalso;first|contradiction|omega)|(exact vb (by first|(simp_all [Pb,KZ];done)|(simp_all [Pb,KZ];intro h;omega)))
 rcases hin with hneg|⟨q,r,rfl,hr⟩
 ·exact absurd hneg (by omega)
 have hrow:(p.rules.map Ag)[q]?=some (Ag r):=by rw[List.getElem?_map,hr];rfl
 have hlt:q<p.rules.length:=(Ab.1 hr).1;refine Aa (h:=Fw (h:=C6 (h:=Bx (h:=B8 (h:=?_)))));refine A6 ?_
 first|(exfalso;first|contradiction|omega)|(exact vb (by first|(simp_all [Pb,KZ];done)|(simp_all [Pb,KZ];intro h;omega)))
theorem Z9(i:Int)(hI:Yx p c=i):AFn prog 30 [.agg (CL p), .agg (D5 c k)] (fun x=>x= .agg (H6 (Pc p.rules c.audited i))):=by
 have hin:PW p.rules i:=hI ▸ PX _ _;have hf:AFn prog 16 [.sl 8 (p.rules.map Ag) none, .v (.int .i64 4), .sl 1 [] none, .agg (D5 c k)] (fun x=>x= .v (.int .i64 i)):=by rw[←hI];exact Oj p.rules 4 [] c k h1 hit ht
 refine enter Tryz.func30 rfl rfl rfl rfl rfl 0 rfl ?_;refine Ff (h:=e_ (q_ (w_ (Dp (h:=DA (h:=?_))))));refine A4 rfl (fun hb1 hc1=>?_) (fun hb1 hc1=>?_)
 ·have k1:c.audited=false:=by simpa using hc1
  refine C5 (h:=?_);refine A3 rfl (A8 (PY p (-1) (.inl (by decide)) h1) ?_);rintro r rfl;refine s_ (h:=e_ (B5 (Ba (?_))));refine A6 ?_;rw[Pc,if_pos k1,←UD (l:=p.rules) (i:= -1) (by decide)];rfl
 have k1:¬c.audited=false:=by simpa using hc1
 refine AF (B0 (h:=l_ (h:=?_)));refine A3 rfl (A8 (hf) ?_);rintro r rfl;refine Bn (h:=D2 (h:=?_));refine A4 rfl (fun hb2 hc2=>?_) (fun hb2 hc2=>?_)
 ·have k2:i<0:=hc2;refine Jp (h:=e_ (B5 (Ba (?_))));refine A6 ?_;rw[Pc,if_neg k1,if_pos k2];rfl
 have k2:¬i<0:=hc2;refine AF (FR (h:=?_));refine A3 rfl (A8 (PY p i hin h1) ?_);rintro r rfl;refine s_ (h:=e_ (B5 (?_)));refine A6 ?_;rw[Pc,if_neg k1,if_neg k2];rfl
theorem oR(t i:Int)(hI:Z8 p c t=i):AFn prog 38 [.agg (CL p), .agg (D5 c k), .v (.int .i64 t)] (fun x=>x= .v (.bool (Ly p.rules t i))):=by
 have hin:PW p.rules i:=hI ▸ PX _ _;have hf:AFn prog 16 [.sl 8 (p.rules.map Ag) none, .v (.int .i64 5), .sl 1 [] none, .agg (D5 (UG c t) k)] (fun x=>x= .v (.int .i64 i)):=by rw[←hI];exact Oj p.rules 5 [] (UG c t) k h1 hit ht
 refine enter Tryz.func38 rfl rfl rfl rfl rfl 0 rfl ?_;refine Fd (h:=Bn (h:=e_ (BK (?_))));refine B9 (fun S=>S=⟨look [(2, .v (.int .i64 t)),(3, .bp 0 0),(4, .bp 1 0),(9, .v (.bool (Lx t)))],⟨[CL p,D5 c k],[]⟩⟩) ?_ ?_
 ·skip
  refine Ar (h:=?_);refine A4 rfl (fun hb1 hc1=>?_) (fun hb1 hc1=>?_)
  ·refine BD (AT (?_));exact⟨_,rfl,Ao 2 0 rfl rfl rfl rfl (by repeat (first|exact Sub.nil|refine Ap rfl rfl ?_|refine At ?_|refine Au rfl ?_|refine Av rfl ?_|(apply Sub.of;(focus exact rfl);(focus exact LeA.of_eq (vb (by simp_all [Lx])));(focus exact rfl))))⟩
  refine Ar (h:=?_);refine A4 rfl (fun hb2 hc2=>?_) (fun hb2 hc2=>?_)
  ·refine BD (AT (?_));exact⟨_,rfl,Ao 2 0 rfl rfl rfl rfl (by repeat (first|exact Sub.nil|refine Ap rfl rfl ?_|refine At ?_|refine Au rfl ?_|refine Av rfl ?_|(apply Sub.of;(focus exact rfl);(focus exact LeA.of_eq (vb (by simp_all [Lx])));(focus exact rfl))))⟩
  refine Ar (h:=?_);refine A4 rfl (fun hb3 hc3=>?_) (fun hb3 hc3=>?_)
  ·refine BD (AT (?_));exact⟨_,rfl,Ao 2 0 rfl rfl rfl rfl (by repeat (first|exact Sub.nil|refine Ap rfl rfl ?_|refine At ?_|refine Au rfl ?_|refine Av rfl ?_|(apply Sub.of;(focus exact rfl);(focus exact LeA.of_eq (vb (by simp_all [Lx])));(focus exact rfl))))⟩
  refine Ar (h:=?_);refine A4 rfl (fun hb4 hc4=>?_) (fun hb4 hc4=>?_)
  ·refine BD (AT (?_));exact⟨_,rfl,Ao 2 0 rfl rfl rfl rfl (by repeat (first|exact Sub.nil|refine Ap rfl rfl ?_|refine At ?_|refine Au rfl ?_|refine Av rfl ?_|(apply Sub.of;(focus exact rfl);(focus exact LeA.of_eq (vb (by simp_all [Lx])));(focus exact rfl))))⟩
  refine Ar (h:=?_);refine A4 rfl (fun hb5 hc5=>?_) (fun hb5 hc5=>?_)
  ·refine BD (AT (?_));exact⟨_,rfl,Ao 2 0 rfl rfl rfl rfl (by repeat (first|exact Sub.nil|refine Ap rfl rfl ?_|refine At ?_|refine Au rfl ?_|refine Av rfl ?_|(apply Sub.of;(focus exact rfl);(focus exact LeA.of_eq (vb (by simp_all [Lx])));(focus exact rfl))))⟩
  refine Aw (EG (h:=Ch (h:=?_)));exact⟨_,rfl,Ao 2 0 rfl rfl rfl rfl (by repeat (first|exact Sub.nil|refine Ap rfl rfl ?_|refine At ?_|refine Au rfl ?_|refine Av rfl ?_|(apply Sub.of;(focus exact rfl);(focus exact LeA.of_eq (vb (by simp_all [Lx])));(focus exact rfl))))⟩
 rintro S rfl;refine A4 rfl (fun hb6 hc6=>?_) (fun hb6 hc6=>?_)
 ·refine BD (BE (t_ (AX (h:=Ct (h:=B0 (h:=l_ (h:=?_)))))));refine A3 rfl (A8 (hf) ?_);rintro r rfl;refine Bu (h:=E7 (h:=m_ (h:=?_)));refine AJ true rfl rfl (fun hb7 hc7=>?_) (fun hb7 hc7=>?_)
  ·rcases hin with hneg|⟨q,r,rfl,hr⟩
   ·exact absurd hneg (by omega)
   have hrow:(p.rules.map Ag)[q]?=some (Ag r):=by rw[List.getElem?_map,hr];rfl
   have hlt:q<p.rules.length:=(Ab.1 hr).1;refine Aa (h:=Fw (h:=Cs (h:=Gp (h:=?_))));refine A6 ?_
   first|(exfalso;first|contradiction|omega)|(exact vb (by first|(simp_all [Ly,KZ];done)|(simp_all [Ly,KZ];intro h;omega)))
  refine BT (h:=Gq (h:=?_));refine A6 ?_
  first|(exfalso;first|contradiction|omega)|(exact vb (by first|(simp_all [Ly,KZ];done)|(simp_all [Ly,KZ];intro h;omega)))
 refine Bh (h:=?_);refine A6 ?_
 first|(exfalso;first|contradiction|omega)|(exact vb (by first|(simp_all [Ly,KZ];done)|(simp_all [Ly,KZ];intro h;omega)))
end
theorem ZA(w:Wrk)(R:Ex):(BZ w R).1.r.items=w.r.items:=by
 unfold BZ;split<;>rfl
section
theorem oS(w:Wrk)(cap:Nat)(f g:Fnd)(x1:Itm)(hv:SpcV w.s.spc)(hm:w.s.spc.mounts.length≤1000)(hf:w.found[0]?=some f)(hg:w.found[1]?=some g)(hx1:w.r.items[1]?=some x1)(hn2:g.name.size≤100000):ACall prog 146 [.bp 0 0] [WA w cap,IB w cap] (fun r b t=>t=[]∧r= .v (.int .i64 (Fp w).2)∧b=[WA (Fp w).1 cap,IB (Fp w).1 cap]):=by
 have hsb:=hv.b hm;have hrow0:(w.found.map Ah)[0]?=some (Ah f):=by rw[List.getElem?_map,hf];rfl
 have hrow1:(w.found.map Ah)[1]?=some (Ah g):=by rw[List.getElem?_map,hg];rfl
 have hfn:As w 0=f:=by unfold As;rw[hf];rfl
 have hgn:As w 1=g:=by unfold As;rw[hg];rfl
 obtain⟨R,hR⟩:∃R,R=El w.s.spc.files g.dir g.name f.file:=⟨_,rfl⟩;have hok:=X9 hv.files g.dir g.name f.file;rw[←hR]at hok;have hcall:AFn prog 172 [.agg (Al w.s.spc.files), .agg (AA g.dir), .v (.string g.name), .agg (AA f.file)] (fun r=>r=Cd R):=by rw[hR];exact fX _ _ _ _ hv.files hn2
 have hlk:Fp w=if f.ex=false then(w,2)else if Af w.s.spc.files f.file=true then(w,1)else if g.ex=true then(w,17)else if g.slash=true then(w,2)else if f.file.1≠g.dir.1 then(w,18)else if CA w g.dir 2=false then(w,13)else if R.2.2≠0 then(w,R.2.2)else(KU (BZ w R).1 1 f.file,0):=by
  unfold Fp KT;rw[hfn,hgn,←hR]
 clear hR;refine enter Tryz.func146 rfl rfl rfl rfl rfl 2 rfl ?_;refine DG (h:=?_);refine B9 (fun S=>S=⟨look [(0, .bp 0 0),(3, .bp 2 0),(4, .bp 3 0)],⟨[WA w cap,IB w cap,Ah f,Ah g],[]⟩⟩) ?_ ?_
 ·skip
  refine BO ([(0,WA w cap)]) 16 (h:=AG 0 (h:=BJ 1 (h:=AD 2 (h:=A9 3 (h:=?_)))));refine By 4 rfl (fun _ hS=>D7 (n:=0) rfl rfl rfl hrow0 ⟨rfl,rfl⟩) ?_;refine A9 5 (h:=AG 6 (h:=BJ 7 (h:=AD 8 (h:=A9 9 (h:=?_)))));refine By 10 rfl (fun _ hS=>D7 (n:=1) rfl rfl rfl hrow1 ⟨rfl,rfl⟩) ?_;refine A9 11 (h:=?_);refine Fb 12 13 rfl rfl ?_ ?_
  ·refine CR (by repeat constructor) ?_;refine o_ (h:=?_);refine c_ 13 rfl (CR (by repeat constructor) ?_);refine o_ (h:=?_);refine B6 14 (h:=?_);refine B6 15 (h:=z_ (h:=?_));refine AT ?_;exact⟨_,rfl,Cm 4 0⟩
  refine CR (by repeat constructor) ?_;refine o_ (h:=?_);refine c_ 12 rfl (CR (by repeat constructor) ?_);refine o_ (h:=?_);refine B6 14 (h:=?_);refine B6 15 (h:=z_ (h:=?_));refine AT ?_
  first|exact⟨_,rfl,Cm 4 0⟩|exact⟨_,rfl,GE [0,1,3,2] R4 (by decide) (.cons _ _ _ _ _ rfl rfl (.cons _ _ _ _ _ rfl (Lq B1 _ _ _) (.cons _ _ _ _ _ rfl rfl (.cons _ _ _ _ _ rfl rfl .nil)))) (by repeat (first|exact SubK.nil|refine SubK.cons _ _ _ _ rfl (A7 _) ?_))⟩
 rintro S rfl;refine q_ (BK (B0 (h:=DP (h:=B4 (h:=?_)))));refine A4 rfl (fun hb1 hc1=>?_) (fun hb1 hc1=>?_)
 ·have k1:f.ex=false:=by simpa using hc1
  refine Bh (h:=?_);refine BS (r:= .v (.int .i64 (Fp w).2)) none (h5:=(by rw[hlk,if_pos k1];exact A7 _)) (h6:=⟨rfl,rfl,?_⟩);rw[hlk,if_pos k1];rfl
 have k1:¬f.ex=false:=by simpa using hc1
 refine AX (h:=?_);refine A3 rfl (Dm 1 rfl (.cons _ _ _ _ _ rfl (LeA.of_eq rfl) (.cons _ _ _ _ _ rfl (A7 _) .nil)) (Md w .any 0 f hsb hf) ?_);rintro r rfl;refine⟨rfl,?_⟩;refine B4 (h:=?_);refine A4 rfl (fun hb2 hc2=>?_) (fun hb2 hc2=>?_)
 ·have k2:Af w.s.spc.files f.file=true:=hc2;refine Bh (h:=?_);refine BS (r:= .v (.int .i64 (Fp w).2)) none (h5:=(by rw[hlk,if_neg k1,if_pos k2];exact A7 _)) (h6:=⟨rfl,rfl,?_⟩);rw[hlk,if_neg k1,if_pos k2];rfl
 have k2:¬Af w.s.spc.files f.file=true:=by simpa using hc2
 refine B0 (h:=B4 (h:=?_));refine A4 rfl (fun hb3 hc3=>?_) (fun hb3 hc3=>?_)
 ·have k3:g.ex=true:=hc3;refine Bh (h:=?_);refine BS (r:= .v (.int .i64 (Fp w).2)) none (h5:=(by rw[hlk,if_neg k1,if_neg k2,if_pos k3];exact A7 _)) (h6:=⟨rfl,rfl,?_⟩);rw[hlk,if_neg k1,if_neg k2,if_pos k3];rfl
 have k3:¬g.ex=true:=by simpa using hc3
 refine B0 (h:=B4 (h:=?_));refine A4 rfl (fun hb4 hc4=>?_) (fun hb4 hc4=>?_)
 ·have k4:g.slash=true:=hc4;refine Bh (h:=?_);refine BS (r:= .v (.int .i64 (Fp w).2)) none (h5:=(by rw[hlk,if_neg k1,if_neg k2,if_neg k3,if_pos k4];exact A7 _)) (h6:=⟨rfl,rfl,?_⟩);rw[hlk,if_neg k1,if_neg k2,if_neg k3,if_pos k4];rfl
 have k4:¬g.slash=true:=by simpa using hc4
 refine w_ (Dp (h:=Dp (h:=HA (h:=B4 (h:=?_)))));refine A4 rfl (fun hb5 hc5=>?_) (fun hb5 hc5=>?_)
 ·have k5:f.file.1≠g.dir.1:=by simpa using hc5
  refine Bh (h:=?_);refine BS (r:= .v (.int .i64 (Fp w).2)) none (h5:=(by rw[hlk,if_neg k1,if_neg k2,if_neg k3,if_neg k4,if_pos k5];exact A7 _)) (h6:=⟨rfl,rfl,?_⟩);rw[hlk,if_neg k1,if_neg k2,if_neg k3,if_neg k4,if_pos k5];rfl
 have k5:¬f.file.1≠g.dir.1:=by simpa using hc5
 refine AX (h:=Aa (h:=?_));refine A3 rfl (Dm 1 rfl (.cons _ _ _ _ _ rfl (LeA.of_eq rfl) (.cons _ _ _ _ _ rfl (A7 _) (.cons _ _ _ _ _ rfl (A7 _) .nil))) (Kx w .any g.dir 2 hsb) ?_);rintro r rfl;refine⟨rfl,?_⟩;refine DP (h:=B4 (h:=?_));refine A4 rfl (fun hb6 hc6=>?_) (fun hb6 hc6=>?_)
 ·have k6:CA w g.dir 2=false:=by simpa using hc6
  refine Bh (h:=?_);refine BS (r:= .v (.int .i64 (Fp w).2)) none (h5:=(by rw[hlk,if_neg k1,if_neg k2,if_neg k3,if_neg k4,if_neg k5,if_pos k6];exact A7 _)) (h6:=⟨rfl,rfl,?_⟩);rw[hlk,if_neg k1,if_neg k2,if_neg k3,if_neg k4,if_neg k5,if_pos k6];rfl
 have k6:¬CA w g.dir 2=false:=by simpa using hc6
 refine BD (BE (t_ (?_)));refine B9 (fun S=>S=⟨look [(0, .bp 0 0),(3, .bp 2 0),(5, .v (.int .i64 R.2.2))],⟨[WA (BZ w R).1 cap,IB (BZ w R).1 cap,Ah f],[]⟩⟩) ?_ ?_
 ·skip
  refine BO ([(0,WA w cap),(1,IB w cap),(2,Ah f),(3,Ah g)]) 17 (h:=AG 0 (h:=AG 1 (h:=BJ 2 (h:=AD 3 (h:=AD 4 (h:=AD 5 (h:=A9 6 (h:=AD 7 (h:=A9 8 (h:=AD 9 (h:=A9 10 (h:=AD 11 (h:=A9 12 (h:=?_))))))))))))));refine c_ 13 rfl (A8 (hcall) ?_);rintro r rfl;refine o_ (h:=BF 14 (h:=BF 15 (h:=BF 16 (h:=?_))));refine c_ 17 rfl (Bg [0,1] rfl (.cons _ _ _ _ _ rfl (A7 _) (.cons _ _ _ _ _ rfl (A7 _) (.cons _ _ _ _ _ rfl (A7 _) (.cons _ _ _ _ _ rfl (A7 _) .nil)))) (by decide) (.cons _ _ _ _ _ rfl rfl (.cons _ _ _ _ _ rfl (Db B1 _ _ _) .nil)) (OC w cap R.1 R.2.1 R.2.2) ?_);rintro r bc tc ⟨rfl,rfl,rfl⟩;refine⟨rfl,_,E3 rfl ((BZ w R).1) cap,?_⟩;refine o_ (h:=?_);refine c_ 18 rfl (Hr rfl ?_);refine GJ (h:=?_);refine AT ?_;exact⟨_,rfl,Cm 3 0⟩
 rintro S rfl;refine Bk (h:=BN (h:=?_));refine A4 rfl (fun hb7 hc7=>?_) (fun hb7 hc7=>?_)
 ·have h0:R.2.2=0:=hc7;have hfb:FlsB (BZ w R).1.s.spc.files:=by rw[Lu h0];exact(hok h0).1.b
  have hxr:(BZ w R).1.r.items[1]?=some x1:=by rw[ZA];exact hx1
  refine Bt (h:=Aa (h:=?_));refine A3 rfl (Bg [0,1] rfl (.cons _ _ _ _ _ rfl (A7 _) (.cons _ _ _ _ _ rfl (A7 _) (.cons _ _ _ _ _ rfl (A7 _) .nil))) (by decide) (.cons _ _ _ _ _ rfl rfl (.cons _ _ _ _ _ rfl (Db B1 _ _ _) .nil)) (U6 (BZ w R).1 cap 1 f.file x1 hfb hxr) ?_);rintro r bc tc ⟨rfl,rfl,rfl⟩;refine⟨rfl,_,E3 rfl (KU (BZ w R).1 1 f.file) cap,?_⟩;refine e_ (EA (h:=?_));refine BS (r:= .v (.int .i64 (Fp w).2)) none (h5:=(by rw[hlk,if_neg k1,if_neg k2,if_neg k3,if_neg k4,if_neg k5,if_neg k6,if_neg (by simp[h0])];exact LeA.of_eq (vi h0))) (h6:=⟨rfl,rfl,?_⟩);rw[hlk,if_neg k1,if_neg k2,if_neg k3,if_neg k4,if_neg k5,if_neg k6,if_neg (by simp[h0])];rfl
 have h0:¬R.2.2=0:=hc7;refine AF (EA (h:=?_));refine BS (r:= .v (.int .i64 (Fp w).2)) none (h5:=(by rw[hlk,if_neg k1,if_neg k2,if_neg k3,if_neg k4,if_neg k5,if_neg k6,if_pos h0];exact A7 _)) (h6:=⟨rfl,rfl,?_⟩);rw[hlk,if_neg k1,if_neg k2,if_neg k3,if_neg k4,if_neg k5,if_neg k6,if_pos h0];rw[RQ h0];rfl
theorem ZB(w:Wrk)(cap:Nat)(f:Fnd)(x0:Itm)(hv:SpcV w.s.spc)(hm:w.s.spc.mounts.length≤1000)(hps:w.s.tab.ps.length≤1000)(hf:w.found[0]?=some f)(hx0:w.r.items[0]?=some x0)(hn:f.name.size≤100000):ACall prog 147 [.bp 0 0] [WA w cap,IB w cap] (fun r b t=>t=[]∧r= .v (.int .i64 (Em w).2)∧b=[WA (Em w).1 cap,IB (Em w).1 cap]):=by
 have hsb:=hv.b hm;have hrow0:(w.found.map Ah)[0]?=some (Ah f):=by rw[List.getElem?_map,hf];rfl
 have hfn:As w 0=f:=by unfold As;rw[hf];rfl
 have hil:0<w.r.items.length:=(Ab.1 hx0).1;obtain⟨R1,hR1⟩:∃R,R=Hh w.s.spc.files f.dir f.name:=⟨_,rfl⟩;obtain⟨R2,hR2⟩:∃R,R=GP w.s.spc.files f.dir f.name:=⟨_,rfl⟩;have hcall1:AFn prog 173 [.agg (Al w.s.spc.files), .agg (AA f.dir), .v (.string f.name)] (fun r=>r=Cd R1):=by rw[hR1];exact fZ _ _ _ hv.files hn
 have hcall2:AFn prog 174 [.agg (Al w.s.spc.files), .agg (AA f.dir), .v (.string f.name)] (fun r=>r=Cd R2):=by rw[hR2];exact g7 _ _ _ hv.files hn
 obtain⟨y,hyd⟩:∃y,y=(AK w.s.spc.files f.dir f.name).1:=⟨_,rfl⟩;have hl1:AFn prog 134 [.agg (Al w.s.spc.files), .agg (AA f.dir), .v (.string f.name)] (fun r=>r= .tup [.agg (AA y), .v (.int .i64 (AK w.s.spc.files f.dir f.name).2)]):=by rw[hyd];exact Kk _ _ _ hsb.files
 have hrm:Em w=if f.ex=false then(w,2)else if w.c.num=10 then(if f.name=⟨#[]⟩∨Af w.s.spc.files f.file=true then(w,21)else if CA w f.dir 2=false then(w,13)else Jy w R1)else(if f.name=⟨#[]⟩then(w,16)else if Af w.s.spc.files f.file=false then(w,20)else if JY w y=true then(w,16)else if CA w f.dir 2=false then(w,13)else Jy w R2):=by
  unfold Em KT;rw[hfn,←hR1,←hR2,←hyd]
 clear hR1 hR2 hyd;refine enter Tryz.func147 rfl rfl rfl rfl rfl 2 rfl ?_;refine EX (h:=k_ (h:=Aa (h:=?_)));refine A3 rfl (D7 (n:=0) rfl rfl rfl hrow0 ?_);refine JH (h:=Fe (h:=DA (h:=?_)));refine A4 rfl (fun hb1 hc1=>?_) (fun hb1 hc1=>?_)
 ·have k1:f.ex=false:=by simpa using hc1
  refine BL (h:=?_);refine BS (r:= .v (.int .i64 (Em w).2)) none (h5:=(by rw[hrm,if_pos k1];exact A7 _)) (h6:=⟨rfl,rfl,?_⟩);rw[hrm,if_pos k1];rfl
 have k1:¬f.ex=false:=by simpa using hc1
 refine AF (DG (h:=?_));refine B9 (fun S=>∃R,Em w=Jy w R∧S=⟨look [(0, .bp 0 0),(4, .v (.int .i64 R.2.2))],⟨[WA (BZ w R).1 cap,IB (BZ w R).1 cap],[]⟩⟩) ?_ ?_
 ·skip
  refine AX (h:=Dg (h:=BN (h:=?_)));refine A4 rfl (fun hb2 hc2=>?_) (fun hb2 hc2=>?_)
  ·have k2:w.c.num=10:=hc2;refine q_ (?_);refine B9 (fun S=>S=⟨look [(0, .bp 0 0),(3, .bp 2 0),(28, .v (.bool (decide (f.name=⟨#[]⟩)||Af w.s.spc.files f.file)))],⟨[WA w cap,IB w cap,Ah f],[]⟩⟩) ?_ ?_
   ·skip
    refine Aw (Cs (h:=m_ (h:=?_)));refine AJ false rfl rfl (fun hb3 hc3=>?_) (fun hb3 hc3=>?_)
    ·refine B7 (h:=JL (h:=?_));exact⟨_,rfl,CD 3 0 (by simp[AW,AQ,AP,Bm B1,BC,WA,IB,Cl,Ah,AZ,AA,Ai,AY,Al])⟩
    refine m_ (h:=?_);refine Aq (Dm 1 rfl (.cons _ _ _ _ _ rfl (LeA.of_eq rfl) (.cons _ _ _ _ _ rfl (A7 _) .nil)) (Md w .any 0 f hsb hf) ?_);rintro r rfl;refine⟨rfl,?_⟩;refine Fi (h:=?_);exact⟨_,rfl,CD 3 0 (by simp[AW,AQ,AP,Bm B1,BC,WA,IB,Cl,Ah,AZ,AA,Ai,AY,Al])⟩
   rintro S rfl;refine A4 rfl (fun hb4 hc4=>?_) (fun hb4 hc4=>?_)
   ·have k3:f.name=⟨#[]⟩∨Af w.s.spc.files f.file=true:=by simpa using hc4
    refine BL (h:=Ba (?_));refine BS (r:= .v (.int .i64 (Em w).2)) none (h5:=(by rw[hrm,if_neg k1,if_pos k2,if_pos k3];exact A7 _)) (h6:=⟨rfl,rfl,?_⟩);rw[hrm,if_neg k1,if_pos k2,if_pos k3];rfl
   have k3:¬(f.name=⟨#[]⟩∨Af w.s.spc.files f.file=true):=by simpa using hc4
   refine Ds (h:=Aa (h:=?_));refine A3 rfl (Dm 1 rfl (.cons _ _ _ _ _ rfl (LeA.of_eq rfl) (.cons _ _ _ _ _ rfl (A7 _) (.cons _ _ _ _ _ rfl (A7 _) .nil))) (Kx w .any f.dir 2 hsb) ?_);rintro r rfl;refine⟨rfl,?_⟩;refine DA (h:=?_);refine A4 rfl (fun hb5 hc5=>?_) (fun hb5 hc5=>?_)
   ·have k4:CA w f.dir 2=false:=by simpa using hc5
    refine BL (h:=Ba (?_));refine BS (r:= .v (.int .i64 (Em w).2)) none (h5:=(by rw[hrm,if_neg k1,if_pos k2,if_neg k3,if_pos k4];exact A7 _)) (h6:=⟨rfl,rfl,?_⟩);rw[hrm,if_neg k1,if_pos k2,if_neg k3,if_pos k4];rfl
   have k4:¬CA w f.dir 2=false:=by simpa using hc5
   refine AF (BO ([(0,WA w cap),(1,IB w cap),(2,Ah f)]) 15 (h:=AG 0 (h:=AG 1 (h:=BJ 2 (h:=AD 3 (h:=AD 4 (h:=AD 5 (h:=A9 6 (h:=AD 7 (h:=A9 8 (h:=AD 9 (h:=A9 10 (h:=?_)))))))))))));refine c_ 11 rfl (A8 (hcall1) ?_);rintro r rfl;refine o_ (h:=BF 12 (h:=BF 13 (h:=BF 14 (h:=?_))));refine c_ 15 rfl (Bg [0,1] rfl (.cons _ _ _ _ _ rfl (A7 _) (.cons _ _ _ _ _ rfl (A7 _) (.cons _ _ _ _ _ rfl (A7 _) (.cons _ _ _ _ _ rfl (A7 _) .nil)))) (by decide) (.cons _ _ _ _ _ rfl rfl (.cons _ _ _ _ _ rfl (Db B1 _ _ _) .nil)) (OC w cap R1.1 R1.2.1 R1.2.2) ?_);rintro r bc tc ⟨rfl,rfl,rfl⟩;refine⟨rfl,_,E3 rfl ((BZ w R1).1) cap,?_⟩;refine o_ (h:=?_);refine c_ 16 rfl (Hr rfl ?_);refine GJ (h:=?_);refine AT ?_;exact⟨_,⟨R1,(by rw[hrm,if_neg k1,if_pos k2,if_neg k3,if_neg k4]),rfl⟩,Cm 2 0⟩
  have k2:¬w.c.num=10:=hc2;refine Fe (h:=BN (h:=?_));refine A4 rfl (fun hb6 hc6=>?_) (fun hb6 hc6=>?_)
  ·have k3:f.name=⟨#[]⟩:=hc6;refine BL (h:=Ba (?_));refine BS (r:= .v (.int .i64 (Em w).2)) none (h5:=(by rw[hrm,if_neg k1,if_neg k2,if_pos k3];exact A7 _)) (h6:=⟨rfl,rfl,?_⟩);rw[hrm,if_neg k1,if_neg k2,if_pos k3];rfl
  have k3:¬f.name=⟨#[]⟩:=hc6;refine Ds (h:=?_);refine A3 rfl (Dm 1 rfl (.cons _ _ _ _ _ rfl (LeA.of_eq rfl) (.cons _ _ _ _ _ rfl (A7 _) .nil)) (Md w .any 0 f hsb hf) ?_);rintro r rfl;refine⟨rfl,?_⟩;refine DA (h:=?_);refine A4 rfl (fun hb7 hc7=>?_) (fun hb7 hc7=>?_)
  ·have k4:Af w.s.spc.files f.file=false:=by simpa using hc7
   refine BL (h:=Ba (?_));refine BS (r:= .v (.int .i64 (Em w).2)) none (h5:=(by rw[hrm,if_neg k1,if_neg k2,if_neg k3,if_pos k4];exact A7 _)) (h6:=⟨rfl,rfl,?_⟩);rw[hrm,if_neg k1,if_neg k2,if_neg k3,if_pos k4];rfl
  have k4:¬Af w.s.spc.files f.file=false:=by simpa using hc7
  refine AF (?_);refine B9 (fun S=>S=⟨look [(0, .bp 0 0),(3, .bp 2 0),(5, .bp 3 0)],⟨[WA w cap,IB w cap,Ah f,AA y],[]⟩⟩) ?_ ?_
  ·skip
   refine BO ([(0,WA w cap),(1,IB w cap),(2,Ah f)]) 17 (h:=AG 0 (h:=BJ 1 (h:=AD 2 (h:=AD 3 (h:=AD 4 (h:=A9 5 (h:=AD 6 (h:=A9 7 (h:=AD 8 (h:=A9 9 (h:=?_)))))))))));refine Fb 10 14 rfl rfl ?_ ?_
   ·refine A8 (hl1) ?_;rintro r rfl;refine o_ (h:=?_);refine AG 11 (h:=BF 12 (h:=BF 13 (h:=?_)));refine c_ 14 rfl (CR (by repeat constructor) ?_);refine o_ (h:=?_);refine B6 15 (h:=BB 16 (h:=z_ (h:=?_)));refine AT ?_;exact⟨_,rfl,Cm 4 0⟩
   refine CR (by repeat constructor) ?_;refine o_ (h:=?_);refine c_ 10 rfl (A8 (hl1) ?_);rintro r rfl;refine o_ (h:=AG 11 (h:=BF 12 (h:=BF 13 (h:=?_))));refine B6 15 (h:=BB 16 (h:=z_ (h:=?_)));refine AT ?_;exact⟨_,rfl,Cm 4 0⟩
  rintro S rfl;refine Bk (h:=l_ (h:=?_));refine A3 rfl (Dm 1 rfl (.cons _ _ _ _ _ rfl (LeA.of_eq rfl) (.cons _ _ _ _ _ rfl (A7 _) .nil)) (YL w .any y hsb hps) ?_);rintro r rfl;refine⟨rfl,?_⟩;refine e_ (?_);refine A4 rfl (fun hb8 hc8=>?_) (fun hb8 hc8=>?_)
  ·have k5:JY w y=true:=hc8;refine BL (h:=Ba (?_));refine BS (r:= .v (.int .i64 (Em w).2)) none (h5:=(by rw[hrm,if_neg k1,if_neg k2,if_neg k3,if_neg k4,if_pos k5];exact A7 _)) (h6:=⟨rfl,rfl,?_⟩);rw[hrm,if_neg k1,if_neg k2,if_neg k3,if_neg k4,if_pos k5];rfl
  have k5:¬JY w y=true:=by simpa using hc8
  refine Ds (h:=Aa (h:=?_));refine A3 rfl (Dm 1 rfl (.cons _ _ _ _ _ rfl (LeA.of_eq rfl) (.cons _ _ _ _ _ rfl (A7 _) (.cons _ _ _ _ _ rfl (A7 _) .nil))) (Kx w .any f.dir 2 hsb) ?_);rintro r rfl;refine⟨rfl,?_⟩;refine DA (h:=?_);refine A4 rfl (fun hb9 hc9=>?_) (fun hb9 hc9=>?_)
  ·have k6:CA w f.dir 2=false:=by simpa using hc9
   refine BL (h:=Ba (?_));refine BS (r:= .v (.int .i64 (Em w).2)) none (h5:=(by rw[hrm,if_neg k1,if_neg k2,if_neg k3,if_neg k4,if_neg k5,if_pos k6];exact A7 _)) (h6:=⟨rfl,rfl,?_⟩);rw[hrm,if_neg k1,if_neg k2,if_neg k3,if_neg k4,if_neg k5,if_pos k6];rfl
  have k6:¬CA w f.dir 2=false:=by simpa using hc9
  refine AF (BO ([(0,WA w cap),(1,IB w cap),(2,Ah f)]) 15 (h:=AG 0 (h:=AG 1 (h:=BJ 2 (h:=AD 3 (h:=AD 4 (h:=AD 5 (h:=A9 6 (h:=AD 7 (h:=A9 8 (h:=AD 9 (h:=A9 10 (h:=?_)))))))))))));refine c_ 11 rfl (A8 (hcall2) ?_);rintro r rfl;refine o_ (h:=BF 12 (h:=BF 13 (h:=BF 14 (h:=?_))));refine c_ 15 rfl (Bg [0,1] rfl (.cons _ _ _ _ _ rfl (A7 _) (.cons _ _ _ _ _ rfl (A7 _) (.cons _ _ _ _ _ rfl (A7 _) (.cons _ _ _ _ _ rfl (A7 _) .nil)))) (by decide) (.cons _ _ _ _ _ rfl rfl (.cons _ _ _ _ _ rfl (Db B1 _ _ _) .nil)) (OC w cap R2.1 R2.2.1 R2.2.2) ?_);rintro r bc tc ⟨rfl,rfl,rfl⟩;refine⟨rfl,_,E3 rfl ((BZ w R2).1) cap,?_⟩;refine o_ (h:=?_);refine c_ 16 rfl (Hr rfl ?_);refine GJ (h:=?_);refine AT ?_
  first|exact⟨_,⟨R1,(by rw[hrm,if_neg k1,if_pos k2,if_neg k3,if_neg k4]),rfl⟩,Cm 2 0⟩|exact⟨_,⟨R2,(by rw[hrm,if_neg k1,if_neg k2,if_neg k3,if_neg k4,if_neg k5,if_neg k6]),rfl⟩,Cm 2 0⟩
 rintro S ⟨R,hrm2,rfl⟩;have hit:(BZ w R).1.r.items=w.r.items:=ZA w R;have hxa:(BZ w R).1.r.items[0]?=some x0:=by rw[hit];exact hx0
 have hil1:0<(BZ w R).1.r.items.length:=by rw[hit];exact hil
 refine Bk (h:=BN (h:=?_));refine A4 rfl (fun hb10 hc10=>?_) (fun hb10 hc10=>?_)
 ·have h0:R.2.2=0:=hc10;refine Bt (h:=Dg (h:=?_));refine A3 rfl (Dx (m:=0) rfl rfl rfl hil1 ?_);refine f_ (h:=?_);refine ME (Ed rfl rfl rfl rfl rfl rfl (Lr B1 (x':={x0 with role:=3}) hxa (by repeat constructor) (List.cons_ne_nil _ _)) (by repeat constructor) ?_);refine e_ (EA (h:=?_));refine BS (r:= .v (.int .i64 (Em w).2)) none (h5:=(by rw[hrm2,Jy,if_neg (by simp[h0])];exact LeA.of_eq (vi h0))) (h6:=⟨rfl,rfl,?_⟩);rw[hrm2,Jy,if_neg (by simp[h0])];rw[YT,YU hxa];rfl
 have h0:¬R.2.2=0:=hc10;refine AF (EA (h:=?_));refine BS (r:= .v (.int .i64 (Em w).2)) none (h5:=(by rw[hrm2,Jy,if_pos h0];exact A7 _)) (h6:=⟨rfl,rfl,?_⟩);rw[hrm2,Jy,if_pos h0];rw[RQ h0];rfl
theorem ZC(w:Wrk)(cap:Nat)(f:Fnd)(hv:SpcV w.s.spc)(hm:w.s.spc.mounts.length≤1000)(hf:w.found[0]?=some f):ACall prog 149 [.bp 0 0] [WA w cap,IB w cap] (fun r b t=>t=[]∧r= .v (.int .i64 (GB w).2)∧b=[WA (GB w).1 cap,IB (GB w).1 cap]):=by
 have hsb:=hv.b hm;have hrow0:(w.found.map Ah)[0]?=some (Ah f):=by rw[List.getElem?_map,hf];rfl
 have hfn:As w 0=f:=by unfold As;rw[hf];rfl
 obtain⟨n,hnd⟩:∃n,n=Ac w.s.spc.files f.file:=⟨_,rfl⟩;have hnode:AFn prog 123 [.agg (Al w.s.spc.files), .agg (AA f.file)] (fun r=>r= .tup [.agg (AZ n), .v (.bool (Du w.s.spc.files f.file))]):=by rw[hnd];exact FF _ _ hsb.files
 have hat:GB w=if f.ex=false then(w,2)else if w.c.num=14 then(if w.p.euid≠0∧w.p.euid≠n.uid then(w,1)else LM w (Fm w.s.spc.files f.file w.c.a0 n.uid n.gid))else if w.p.euid≠0 then(w,1)else LM w (Fm w.s.spc.files f.file n.mode w.c.a0 w.c.a1):=by
  unfold GB;rw[hfn,←hnd]
 clear hnd;refine enter Tryz.func149 rfl rfl rfl rfl rfl 2 rfl ?_;refine EX (h:=k_ (h:=Aa (h:=?_)));refine A3 rfl (D7 (n:=0) rfl rfl rfl hrow0 ?_);refine JH (h:=Fe (h:=DA (h:=?_)));refine A4 rfl (fun hb1 hc1=>?_) (fun hb1 hc1=>?_)
 ·have k1:f.ex=false:=by simpa using hc1
  refine BL (h:=?_);refine BS (r:= .v (.int .i64 (GB w).2)) none (h5:=(by rw[hat,if_pos k1];exact A7 _)) (h6:=⟨rfl,rfl,?_⟩);rw[hat,if_pos k1];rfl
 have k1:¬f.ex=false:=by simpa using hc1
 refine AF (?_);refine B9 (fun S=>S=⟨look [(0, .bp 0 0),(3, .bp 2 0),(4, .bp 3 0)],⟨[WA w cap,IB w cap,Ah f,AZ n],[]⟩⟩) ?_ ?_
 ·skip
  refine BO ([(0,WA w cap),(1,IB w cap),(2,Ah f)]) 15 (h:=AG 0 (h:=BJ 1 (h:=AD 2 (h:=AD 3 (h:=AD 4 (h:=A9 5 (h:=AD 6 (h:=A9 7 (h:=?_)))))))));refine Fb 8 12 rfl rfl ?_ ?_
  ·refine A8 (hnode) ?_;rintro r rfl;refine o_ (h:=?_);refine AG 9 (h:=BF 10 (h:=BF 11 (h:=?_)));refine c_ 12 rfl (CR (by repeat constructor) ?_);refine o_ (h:=?_);refine B6 13 (h:=BB 14 (h:=z_ (h:=?_)));refine AT ?_;exact⟨_,rfl,Cm 4 0⟩
  refine CR (by repeat constructor) ?_;refine o_ (h:=?_);refine c_ 8 rfl (A8 (hnode) ?_);rintro r rfl;refine o_ (h:=AG 9 (h:=BF 10 (h:=BF 11 (h:=?_))));refine B6 13 (h:=BB 14 (h:=z_ (h:=?_)));refine AT ?_;exact⟨_,rfl,Cm 4 0⟩
 rintro S rfl;refine B9 (fun S=>∃m u g,GB w=LM w (Fm w.s.spc.files f.file m u g)∧S=⟨look [(0, .bp 0 0),(3, .bp 2 0),(4, .bp 3 0)],⟨[WA w cap,IB w cap,Ah f,AZ {n with mode:=m,uid:=u,gid:=g}],[]⟩⟩) ?_ ?_
 ·skip
  refine AX (h:=Dg (h:=BN (h:=?_)));refine A4 rfl (fun hb2 hc2=>?_) (fun hb2 hc2=>?_)
  ·have k2:w.c.num=14:=hc2;refine q_ (?_);refine B9 (fun S=>S=⟨look [(0, .bp 0 0),(3, .bp 2 0),(4, .bp 3 0),(50, .v (.bool (!decide (w.p.euid=0)&& !decide (w.p.euid=n.uid))))],⟨[WA w cap,IB w cap,Ah f,AZ n],[]⟩⟩) ?_ ?_
   ·skip
    refine Dd 16 (h:=AG 0 (h:=BJ 1 (h:=AD 2 (h:=AD 3 (h:=A9 4 (h:=Oe 5 (h:=AG 6 (h:=?_))))))));refine JA (j:=6) rfl (fun hb3=>?_) (fun hb3=>?_)
    ·have hc3:=bp hb3;refine AG 7 (h:=BJ 8 (h:=AD 9 (h:=AD 10 (h:=A9 11 (h:=AD 12 (h:=A9 13 (h:=Oe 14 (h:=JF 15 (h:=z_ (h:=?_))))))))));refine AT ?_;exact⟨_,rfl,CD 4 0 (by simp[AW,AQ,AP,Bm B1,BC,WA,IB,Cl,Ah,AZ,AA,Ai,AY,Al])⟩
    have hc3:=bp hb3;refine BV 7 (h:=BV 8 (h:=BV 9 (h:=BV 10 (h:=BV 11 (h:=BV 12 (h:=BV 13 (h:=BV 14 (h:=Jl 15 (h:=z_ (h:=?_))))))))));refine AT ?_;exact⟨_,rfl,CD 4 0 (by simp[AW,AQ,AP,Bm B1,BC,WA,IB,Cl,Ah,AZ,AA,Ai,AY,Al])⟩
   rintro S rfl;refine A4 rfl (fun hb4 hc4=>?_) (fun hb4 hc4=>?_)
   ·have k3:w.p.euid≠0∧w.p.euid≠n.uid:=by simpa using hc4
    refine BL (h:=Ba (?_));refine BS (r:= .v (.int .i64 (GB w).2)) none (h5:=(by rw[hat,if_neg k1,if_pos k2,if_pos k3];exact A7 _)) (h6:=⟨rfl,rfl,?_⟩);rw[hat,if_neg k1,if_pos k2,if_pos k3];rfl
   have k3:¬(w.p.euid≠0∧w.p.euid≠n.uid):=by simpa using hc4
   refine AF (Bt (h:=Gx (h:=f_ (h:=?_))));refine A3 rfl (Bw (len:=4) (sz:=1) (n:=0) (by kernel_rfl) rfl rfl rfl rfl ?_);refine l_ (h:=CS (h:=DC (h:=?_)));exact⟨_,⟨w.c.a0,n.uid,n.gid,(by rw[hat,if_neg k1,if_pos k2,if_neg k3]),rfl⟩,Cm 4 0⟩
  have k2:¬w.c.num=14:=hc2;refine Bk (h:=Dg (h:=Bo (h:=?_)));refine A4 rfl (fun hb5 hc5=>?_) (fun hb5 hc5=>?_)
  ·have k3:w.p.euid≠0:=by simpa using hc5
   refine BL (h:=Ba (?_));refine BS (r:= .v (.int .i64 (GB w).2)) none (h5:=(by rw[hat,if_neg k1,if_neg k2,if_pos k3];exact A7 _)) (h6:=⟨rfl,rfl,?_⟩);rw[hat,if_neg k1,if_neg k2,if_pos k3];rfl
  have k3:¬w.p.euid≠0:=by simpa using hc5
  refine AF (BO ([(0,WA w cap),(1,IB w cap),(2,Ah f)]) 16 (h:=AG 0 (h:=BJ 1 (h:=AD 2 (h:=AD 3 (h:=?_))))));refine By 4 rfl (fun _ hS=>Bw (len:=4) (sz:=1) (n:=0) (by kernel_rfl) rfl rfl rfl rfl ⟨rfl,rfl⟩) ?_;refine A9 5 (h:=AG 6 (h:=BJ 7 (h:=AD 8 (h:=AD 9 (h:=?_)))));refine By 10 rfl (fun _ hS=>Bw (len:=4) (sz:=1) (n:=1) (by kernel_rfl) rfl rfl rfl rfl ⟨rfl,rfl⟩) ?_;refine A9 11 (h:=AD 12 (h:=?_));refine B6 13 (h:=AD 14 (h:=?_));refine B6 15 (h:=z_ (h:=?_));refine AT ?_
  first|exact⟨_,⟨w.c.a0,n.uid,n.gid,(by rw[hat,if_neg k1,if_pos k2,if_neg k3]),rfl⟩,Cm 4 0⟩|exact⟨_,⟨n.mode,w.c.a0,w.c.a1,(by rw[hat,if_neg k1,if_neg k2,if_neg k3]),rfl⟩,Cm 4 0⟩
 rintro S ⟨m,u,g,hat2,rfl⟩;obtain⟨R,hR⟩:∃R,R=Fm w.s.spc.files f.file m u g:=⟨_,rfl⟩;have hset:AFn prog 176 [.agg (Al w.s.spc.files), .agg (AA f.file), .v (.int .i64 m), .v (.int .i64 u), .v (.int .i64 g)] (fun r=>r=PD R):=by rw[hR];exact gA _ _ _ _ _ hv.files
 rw[←hR]at hat2;clear hR;refine B9 (fun S=>S=⟨look [(0, .bp 0 0),(6, .bp 4 0),(7, .v (.int .i64 R.2))],⟨[WA w cap,IB w cap,Ah f,AZ {n with mode:=m,uid:=u,gid:=g},Al R.1],[]⟩⟩) ?_ ?_
 ·skip
  refine BO ([(0,WA w cap),(1,IB w cap),(2,Ah f),(3,AZ {n with mode:=m,uid:=u,gid:=g})]) 21 (h:=AG 0 (h:=BJ 1 (h:=AD 2 (h:=AD 3 (h:=AD 4 (h:=A9 5 (h:=AD 6 (h:=A9 7 (h:=AD 8 (h:=A9 9 (h:=AD 10 (h:=A9 11 (h:=AD 12 (h:=A9 13 (h:=?_)))))))))))))));refine Fb 14 18 rfl rfl ?_ ?_
  ·refine A8 (hset) ?_;rintro r rfl;refine o_ (h:=?_);refine AG 15 (h:=BF 16 (h:=BF 17 (h:=?_)));refine c_ 18 rfl (CR (by repeat constructor) ?_);refine o_ (h:=?_);refine B6 19 (h:=BB 20 (h:=z_ (h:=?_)));refine AT ?_;exact⟨_,rfl,Cm 5 0⟩
  refine CR (by repeat constructor) ?_;refine o_ (h:=?_);refine c_ 14 rfl (A8 (hset) ?_);rintro r rfl;refine o_ (h:=AG 15 (h:=BF 16 (h:=BF 17 (h:=?_))));refine B6 19 (h:=BB 20 (h:=z_ (h:=?_)));refine AT ?_;exact⟨_,rfl,Cm 5 0⟩
 rintro S rfl;refine AX (h:=Gv (h:=?_));refine A3 rfl (Bg [0,1] rfl (.cons _ _ _ _ _ rfl (A7 _) (.cons _ _ _ _ _ rfl (A7 _) (.cons _ _ _ _ _ rfl (LeA.nil _) (.cons _ _ _ _ _ rfl (A7 _) .nil)))) (by decide) (.cons _ _ _ _ _ rfl rfl (.cons _ _ _ _ _ rfl (Db B1 _ _ _) .nil)) (OC w cap R.1 [] R.2) ?_);rintro r bc tc ⟨rfl,rfl,rfl⟩;refine⟨rfl,_,E3 rfl (BZ w (R.1,[],R.2)).1 cap,?_⟩;refine B8 (h:=?_);refine BS (r:= .v (.int .i64 (GB w).2)) none (h5:=(by rw[hat2,LM,lJ];exact A7 _)) (h6:=⟨rfl,rfl,?_⟩);rw[hat2,LM];rfl
end
def DW(t:Tab):Prop:=0≤t.next∧0≤t.nextS
theorem oT{t:Tab}{pid:Int}{j:Nat}{x:Prc}{acc:List Prc}(hy:t.ps[j]?=some x)(ha:((t.ps.take j).filter fun p=>decide (p.pid≠pid)).map (JT pid)=acc):((t.ps.take (j+1)).filter fun p=>decide (p.pid≠pid)).map (JT pid)=if x.pid≠pid then acc++[JT pid x]else acc:=by
 rw[List.take_add_one,hy,List.filter_append,List.map_append,ha];by_cases h:x.pid=pid<;>simp[h]
section
theorem UH(n:Int):AFn prog 251 [.v (.int .i64 n)] (fun r=>r= .v (.bool (KQ n))):=by
 refine enter Tryz.func251 rfl rfl rfl rfl rfl 0 rfl ?_;refine EX (h:=E7 (h:=m_ (h:=?_)));refine AJ true rfl rfl (fun hb1 hc1=>?_) (fun hb1 hc1=>?_)
 ·refine m_ (h:=Jn (h:=Gp (h:=?_)));refine A6 ?_
  first|(exfalso;first|contradiction|omega)|(exact vb (by simp[KQ, *]))
 refine HU (h:=B8 (h:=?_));refine A6 ?_
 first|(exfalso;first|contradiction|omega)|(exact vb (by simp[KQ, *]))
theorem ZD(b:Bool)(x y n:Int):AFn prog 252 [.v (.bool b), .v (.int .i64 x), .v (.int .i64 y), .v (.int .i64 n)] (fun r=>r= .tup [.v (.int .i64 (F6 b x y n).1), .v (.int .i64 (F6 b x y n).2.1), .v (.int .i64 (F6 b x y n).2.2)]):=by
 refine enter Tryz.func252 rfl rfl rfl rfl rfl 0 rfl ?_;refine w_ (a_ (h:=a_ (h:=Bn (h:=e_ (?_)))));refine A4 rfl (fun hb1 hc1=>?_) (fun hb1 hc1=>?_)
 ·refine E9 (h:=a_ (h:=EO (h:=?_)));refine A6 ?_
  first|(exfalso;first|contradiction|omega)|(unfold F6;simp[*];rfl)
 refine Ds (h:=D9 (h:=m_ (h:=?_)));refine AJ false rfl rfl (fun hb2 hc2=>?_) (fun hb2 hc2=>?_)
 ·refine ER (h:=CX (h:=E9 (h:=a_ (h:=EO (h:=?_)))));refine A6 ?_
  first|(exfalso;first|contradiction|omega)|(unfold F6;simp[*];rfl)
 refine m_ (h:=D9 (h:=CH (h:=?_)));refine A4 rfl (fun hb3 hc3=>?_) (fun hb3 hc3=>?_)
 ·refine E9 (h:=a_ (h:=EO (h:=?_)));refine A6 ?_
  first|(exfalso;first|contradiction|omega)|(unfold F6;simp[*];rfl)
 refine AF (w_ (a_ (h:=a_ (h:=B8 (h:=?_)))));refine A6 ?_
 first|(exfalso;first|contradiction|omega)|(unfold F6;simp[*];rfl)
theorem oU(t:Tab)(pid:Int)(a:AB)(ht:TabB t):AFn prog 206 [.agg (Ai t), .v (.int .i64 pid), .agg (AA a)] (fun r=>r=Cr (Kt t pid a)):=by
 have h8:=Jb ht pid;refine enter Tryz.func206 rfl rfl rfl rfl rfl 0 rfl ?_;refine Ff (h:=B4 (h:=FR (h:=?_)));refine A3 rfl (A8 (K2 t pid ht) ?_);rintro r rfl;refine Gr (h:=?_);refine A4 rfl (fun hb1 hc1=>?_) (fun hb1 hc1=>?_)
 ·have hno:CG t pid=false:=by simpa using hc1
  refine Bq (h:=?_);refine AU (r:=Cr (Kt t pid a)) none (h5:=?_) (h6:=⟨rfl,rfl,rfl⟩);rw[Kt,if_pos hno];exact Fr _
 have hhas:CG t pid=true:=by simpa using hc1
 refine AF (C5 (h:=Ct (h:=CN (h:=?_))));refine A3 rfl (A8 (NF t {AN t pid with cwd:=a} ht (Mb hhas) (by show(AN t pid).opens.length≤1000;omega)) ?_);rintro r rfl;refine s_ (h:=B8 (h:=?_));refine A6 ?_;rw[Kt,if_neg (by simp[hhas])];rfl
theorem oV(t:Tab)(pid:Int)(x y:AE)(ht:TabB t):AFn prog 205 [.agg (Ai t), .v (.int .i64 pid), .v (.string x), .v (.string y)] (fun r=>r=Cr (Ku t pid x y)):=by
 have h8:=Jb ht pid;refine enter Tryz.func205 rfl rfl rfl rfl rfl 0 rfl ?_;refine EH (h:=B4 (h:=FR (h:=?_)));refine A3 rfl (A8 (K2 t pid ht) ?_);rintro r rfl;refine Gr (h:=?_);refine A4 rfl (fun hb1 hc1=>?_) (fun hb1 hc1=>?_)
 ·have hno:CG t pid=false:=by simpa using hc1
  refine Bq (h:=?_);refine AU (r:=Cr (Ku t pid x y)) none (h5:=?_) (h6:=⟨rfl,rfl,rfl⟩);rw[Ku,if_pos hno];exact Fr _
 have hhas:CG t pid=true:=by simpa using hc1
 refine AF (E9 (h:=CS (h:=Ct (h:=CN (h:=?_)))));refine A3 rfl (A8 (NF t {AN t pid with exe:=x,comm:=y} ht (Mb hhas) (by show(AN t pid).opens.length≤1000;omega)) ?_);rintro r rfl;refine s_ (h:=B8 (h:=?_));refine A6 ?_;rw[Ku,if_neg (by simp[hhas])];rfl
theorem oW(t:Tab)(pid u:Int)(ht:TabB t):AFn prog 209 [.agg (Ai t), .v (.int .i64 pid), .v (.int .i64 u)] (fun r=>r=Cr (JV t pid u)):=by
 have h8:=Jb ht pid;refine enter Tryz.func209 rfl rfl rfl rfl rfl 0 rfl ?_;refine EH (h:=B4 (h:=FR (h:=?_)));refine A3 rfl (A8 (K2 t pid ht) ?_);rintro r rfl;refine Gr (h:=?_);refine A4 rfl (fun hb1 hc1=>?_) (fun hb1 hc1=>?_)
 ·have hno:CG t pid=false:=by simpa using hc1
  refine Bq (h:=?_);refine AU (r:=Cr (JV t pid u)) none (h5:=?_) (h6:=⟨rfl,rfl,rfl⟩);rw[JV,if_pos hno];exact Fr _
 have hhas:CG t pid=true:=by simpa using hc1
 refine Ds (h:=?_);refine A3 rfl (A8 (UH u) ?_);rintro r rfl;refine DA (h:=?_);refine A4 rfl (fun hb2 hc2=>?_) (fun hb2 hc2=>?_)
 ·have hid:KQ u=false:=by simpa using hc2
  refine Bq (h:=?_);refine AU (r:=Cr (JV t pid u)) none (h5:=?_) (h6:=⟨rfl,rfl,rfl⟩);rw[JV,if_neg (by simp[hhas]),if_pos hid];exact Fr _
 have hid:¬KQ u=false:=by simpa using hc2
 refine AF (DG (h:=B0 (h:=EG (h:=Aa (h:=Fx (h:=?_))))));refine A3 rfl (A8 (ZD (decide ((AN t pid).euid=0)) (AN t pid).uid (AN t pid).euid u) ?_);rintro r rfl;refine GF (h:=x_ (h:=CS (h:=CS (h:=Bn (h:=Bo (h:=?_))))));refine A4 rfl (fun hb3 hc3=>?_) (fun hb3 hc3=>?_)
 ·have hce:(F6 (decide ((AN t pid).euid=0)) (AN t pid).uid (AN t pid).euid u).2.2≠0:=by simpa using hc3
  refine w_ (Gw (h:=E8 (h:=?_)));refine AU (r:=Cr (JV t pid u)) none (h5:=?_) (h6:=⟨rfl,rfl,rfl⟩);rw[JV,if_neg (by simp[hhas]),if_neg hid,if_pos hce];exact Fr _
 have hce:¬(F6 (decide ((AN t pid).euid=0)) (AN t pid).uid (AN t pid).euid u).2.2≠0:=by simpa using hc3
 refine AF (CN (h:=?_));refine A3 rfl (A8 (NF t {AN t pid with uid:=(F6 (decide ((AN t pid).euid=0)) (AN t pid).uid (AN t pid).euid u).1,euid:=(F6 (decide ((AN t pid).euid=0)) (AN t pid).uid (AN t pid).euid u).2.1} ht (Mb hhas) (by show(AN t pid).opens.length≤1000;omega)) ?_);rintro r rfl;refine s_ (h:=B8 (h:=?_));refine A6 ?_;rw[JV,if_neg (by simp[hhas]),if_neg hid,if_neg hce];rfl
theorem oX(t:Tab)(pid u:Int)(ht:TabB t):AFn prog 210 [.agg (Ai t), .v (.int .i64 pid), .v (.int .i64 u)] (fun r=>r=Cr (JW t pid u)):=by
 have h8:=Jb ht pid;refine enter Tryz.func210 rfl rfl rfl rfl rfl 0 rfl ?_;refine EH (h:=B4 (h:=FR (h:=?_)));refine A3 rfl (A8 (K2 t pid ht) ?_);rintro r rfl;refine Gr (h:=?_);refine A4 rfl (fun hb1 hc1=>?_) (fun hb1 hc1=>?_)
 ·have hno:CG t pid=false:=by simpa using hc1
  refine Bq (h:=?_);refine AU (r:=Cr (JW t pid u)) none (h5:=?_) (h6:=⟨rfl,rfl,rfl⟩);rw[JW,if_pos hno];exact Fr _
 have hhas:CG t pid=true:=by simpa using hc1
 refine Ds (h:=?_);refine A3 rfl (A8 (UH u) ?_);rintro r rfl;refine DA (h:=?_);refine A4 rfl (fun hb2 hc2=>?_) (fun hb2 hc2=>?_)
 ·have hid:KQ u=false:=by simpa using hc2
  refine Bq (h:=?_);refine AU (r:=Cr (JW t pid u)) none (h5:=?_) (h6:=⟨rfl,rfl,rfl⟩);rw[JW,if_neg (by simp[hhas]),if_pos hid];exact Fr _
 have hid:¬KQ u=false:=by simpa using hc2
 refine AF (DG (h:=B0 (h:=EG (h:=Aa (h:=Fx (h:=?_))))));refine A3 rfl (A8 (ZD (decide ((AN t pid).euid=0)) (AN t pid).gid (AN t pid).egid u) ?_);rintro r rfl;refine GF (h:=x_ (h:=CS (h:=CS (h:=Bn (h:=Bo (h:=?_))))));refine A4 rfl (fun hb3 hc3=>?_) (fun hb3 hc3=>?_)
 ·have hce:(F6 (decide ((AN t pid).euid=0)) (AN t pid).gid (AN t pid).egid u).2.2≠0:=by simpa using hc3
  refine w_ (Gw (h:=E8 (h:=?_)));refine AU (r:=Cr (JW t pid u)) none (h5:=?_) (h6:=⟨rfl,rfl,rfl⟩);rw[JW,if_neg (by simp[hhas]),if_neg hid,if_pos hce];exact Fr _
 have hce:¬(F6 (decide ((AN t pid).euid=0)) (AN t pid).gid (AN t pid).egid u).2.2≠0:=by simpa using hc3
 refine AF (CN (h:=?_));refine A3 rfl (A8 (NF t {AN t pid with gid:=(F6 (decide ((AN t pid).euid=0)) (AN t pid).gid (AN t pid).egid u).1,egid:=(F6 (decide ((AN t pid).euid=0)) (AN t pid).gid (AN t pid).egid u).2.1} ht (Mb hhas) (by show(AN t pid).opens.length≤1000;omega)) ?_);rintro r rfl;refine s_ (h:=B8 (h:=?_));refine A6 ?_;rw[JW,if_neg (by simp[hhas]),if_neg hid,if_neg hce];rfl
theorem oY(t:Tab)(pid u:Int)(ht:TabB t)(hn:DW t):AFn prog 211 [.agg (Ai t), .v (.int .i64 pid), .v (.int .i64 u)] (fun r=>r=Cr (G9 t pid u)):=by
 have h8:=Jb ht pid;have hn1:=hn.2;have hn2:=ht.nextS;obtain⟨tp,htp⟩:∃x,x=J5 t {AN t pid with auid:=u,ses:=t.nextS}:=⟨_,rfl⟩;have e1:tp.nextS=t.nextS:=by rw[htp];rfl
 have hput:CG t pid=true→AFn prog 250 [.agg (Ai t), .agg (Am {AN t pid with auid:=u,ses:=t.nextS})] (fun r=>r= .agg (Ai tp)):=fun h=>by rw[htp];exact NF t _ ht (Mb h) (by show(AN t pid).opens.length≤1000;omega)
 refine enter Tryz.func211 rfl rfl rfl rfl rfl 0 rfl ?_;refine EH (h:=B4 (h:=FR (h:=?_)));refine A3 rfl (A8 (K2 t pid ht) ?_);rintro r rfl;refine Gr (h:=?_);refine A4 rfl (fun hb1 hc1=>?_) (fun hb1 hc1=>?_)
 ·have hno:CG t pid=false:=by simpa using hc1
  refine Bq (h:=?_);refine AU (r:=Cr (G9 t pid u)) none (h5:=?_) (h6:=⟨rfl,rfl,rfl⟩);rw[G9,if_pos hno];exact Fr _
 have hhas:CG t pid=true:=by simpa using hc1
 refine Ds (h:=?_);refine A3 rfl (A8 (UH u) ?_);rintro r rfl;refine DA (h:=?_);refine A4 rfl (fun hb2 hc2=>?_) (fun hb2 hc2=>?_)
 ·have hid:KQ u=false:=by simpa using hc2
  refine Bq (h:=?_);refine AU (r:=Cr (G9 t pid u)) none (h5:=?_) (h6:=⟨rfl,rfl,rfl⟩);rw[G9,if_neg (by simp[hhas]),if_pos hid];exact Fr _
 have hid:¬KQ u=false:=by simpa using hc2
 refine DQ (h:=FP (h:=?_));refine AJ true rfl rfl (fun hb3 hc3=>?_) (fun hb3 hc3=>?_)
 ·refine C6 (h:=DY (h:=?_));refine A4 rfl (fun hb4 hc4=>?_) (fun hb4 hc4=>?_)
  ·refine Bq (h:=?_);refine AU (r:=Cr (G9 t pid u)) none (h5:=?_) (h6:=⟨rfl,rfl,rfl⟩);rw[G9,if_neg (by simp[hhas]),if_neg hid,if_pos (by first|assumption|omega)];exact Fr _
  refine DQ (h:=BN (h:=?_));refine A4 rfl (fun hb5 hc5=>?_) (fun hb5 hc5=>?_)
  ·have hse:t.nextS=1073741824:=hc5;refine Bq (h:=?_);refine AU (r:=Cr (G9 t pid u)) none (h5:=?_) (h6:=⟨rfl,rfl,rfl⟩);rw[G9,if_neg (by simp[hhas]),if_neg hid,if_neg (by first|assumption|omega),if_pos hse];exact Fr _
  have hse:¬t.nextS=1073741824:=hc5;refine AF (q_ (BO ([(0,Ai t),(1,DU)]) 7 (h:=AG 0 (h:=AD 1 (h:=A9 2 (h:=AD 3 (h:=?_)))))));refine B6 4 (h:=AD 5 (h:=?_));refine B6 6 (h:=z_ (h:=t_ (w_ (l_ (h:=l_ (h:=?_))))));refine A3 rfl (A8 (hput hhas) ?_);rintro r rfl;refine Dz (h:=B0 (h:=Fc (h:=Ct (h:=Dr (h:=B8 (h:=?_))))));refine A6 ?_;rw[G9,if_neg (by simp[hhas]),if_neg hid,if_neg (by first|assumption|omega),if_neg hse,←htp,←e1];exact congrArg (fun n=>AV.tup [.agg [.v (.int .i64 n), .v (.int .i64 (tp.nextS+1)), .sl 14 (tp.ps.map Am) none], .v (.int .i64 0)]) (by rw[htp];rfl)
 refine D8 (h:=e_ (Hv (h:=DQ (h:=BN (h:=?_)))));refine A4 rfl (fun hb6 hc6=>?_) (fun hb6 hc6=>?_)
 ·have hse:t.nextS=1073741824:=hc6;refine Bq (h:=?_);refine AU (r:=Cr (G9 t pid u)) none (h5:=?_) (h6:=⟨rfl,rfl,rfl⟩);rw[G9,if_neg (by simp[hhas]),if_neg hid,if_neg (by first|assumption|omega),if_pos hse];exact Fr _
 have hse:¬t.nextS=1073741824:=hc6;refine AF (q_ (BO ([(0,Ai t),(1,DU)]) 7 (h:=AG 0 (h:=AD 1 (h:=A9 2 (h:=AD 3 (h:=?_)))))));refine B6 4 (h:=AD 5 (h:=?_));refine B6 6 (h:=z_ (h:=t_ (w_ (l_ (h:=l_ (h:=?_))))));refine A3 rfl (A8 (hput hhas) ?_);rintro r rfl;refine Dz (h:=B0 (h:=Fc (h:=Ct (h:=Dr (h:=B8 (h:=?_))))));refine A6 ?_;rw[G9,if_neg (by simp[hhas]),if_neg hid,if_neg (by first|assumption|omega),if_neg hse,←htp,←e1];exact congrArg (fun n=>AV.tup [.agg [.v (.int .i64 n), .v (.int .i64 (tp.nextS+1)), .sl 14 (tp.ps.map Am) none], .v (.int .i64 0)]) (by rw[htp];rfl)
theorem oZ(t:Tab)(pid fd:Int)(ht:TabB t):AFn prog 212 [.agg (Ai t), .v (.int .i64 pid), .v (.int .i64 fd)] (fun r=>r=Cr (KR t pid fd)):=by
 have h8:=Jb ht pid;have hol:((AN t pid).opens.map GX).length=(AN t pid).opens.length:=List.length_map _;refine enter Tryz.func212 rfl rfl rfl rfl rfl 0 rfl ?_;refine EH (h:=B4 (h:=FR (h:=?_)));refine A3 rfl (A8 (K2 t pid ht) ?_);rintro r rfl;refine Gr (h:=?_);refine A4 rfl (fun hb1 hc1=>?_) (fun hb1 hc1=>?_)
 ·have hno:CG t pid=false:=by simpa using hc1
  refine Bq (h:=?_);refine AU (r:=Cr (KR t pid fd)) none (h5:=?_) (h6:=⟨rfl,rfl,rfl⟩);rw[KR,if_pos hno];exact Fr _
 have hhas:CG t pid=true:=by simpa using hc1
 refine AF (DG (h:=Ca (h:=?_)));refine NW 10 291 4 rfl (by repeat constructor) ?_;refine BU (fun m s=>∃(j:Nat) (acc:List Dsc),j≤(AN t pid).opens.length∧m=(AN t pid).opens.length - j∧((AN t pid).opens.take j).filter (fun d=>decide (d.fd≠fd))=acc∧acc.length≤j∧s=⟨look [(2, .v (.int .i64 fd)),(3, .bp 0 0),(6, .bp 1 0),(8, .bp 2 0),(10, .sl 4 (acc.map GX) (some 0)),(11, .v (.int .i64 (j:Int)))],⟨[Ai t,DU,Am (AN t pid)],[(291,4,acc.map GX)]⟩⟩) ((AN t pid).opens.length) ((wk 3 1)) (⟨0,[],BH _,rfl,rfl,B3 _,rfl⟩) ?_;rintro m s ⟨j,acc,hj,rfl,hacc,hal,rfl⟩;refine Gs (h:=?_);refine A4 rfl (fun hb2 hc2=>?_) (fun hb2 hc2=>?_)
 ·obtain⟨hlt,x,hy,hrow, -⟩:=C1 GX hc2;refine C0 (h:=Gt (h:=Fx (h:=Bo (h:=?_))));refine A4 rfl (fun hb3 hc3=>?_) (fun hb3 hc3=>?_)
  ·have hne:x.fd≠fd:=by simpa using hc3
   have hk:((AN t pid).opens.take (j+1)).filter (fun d=>decide (d.fd≠fd))=acc++[x]:=by rw[List.take_add_one,hy,List.filter_append,hacc];simp[hne]
   refine Bt (h:=Aa (h:=Fw (h:=l_ (h:=BY (h:=?_)))));refine A3 rfl (EF rfl rfl rfl (by simp;omega) (by repeat constructor) ?_);refine Gk (h:=Eg (h:=?_));exact⟨(AN t pid).opens.length - (j+1),_,by omega,⟨j+1,acc++[x],by omega,rfl,hk,by simp;omega,rfl⟩,(by rw[List.map_append];exact Ao 3 1 rfl rfl rfl rfl ((by repeat (first|exact Sub.nil|refine Ap rfl rfl ?_|refine At ?_|refine Au rfl ?_|refine Av rfl ?_))))⟩
  have hne:x.fd=fd:=by simpa using hc3
  have hk:((AN t pid).opens.take (j+1)).filter (fun d=>decide (d.fd≠fd))=acc:=by rw[List.take_add_one,hy,List.filter_append,hacc];simp[hne]
  refine DH (h:=?_)
  first|exact⟨(AN t pid).opens.length - (j+1),_,by omega,⟨j+1,acc++[x],by omega,rfl,hk,by simp;omega,rfl⟩,(by rw[List.map_append];exact Ao 3 1 rfl rfl rfl rfl ((by repeat (first|exact Sub.nil|refine Ap rfl rfl ?_|refine At ?_|refine Au rfl ?_|refine Av rfl ?_))))⟩|exact⟨(AN t pid).opens.length - (j+1),_,by omega,⟨j+1,acc,by omega,rfl,hk,by omega,rfl⟩,Ao 3 1 rfl rfl rfl rfl ((by repeat (first|exact Sub.nil|refine Ap rfl rfl ?_|refine At ?_|refine Au rfl ?_|refine Av rfl ?_)))⟩
 have e:=CF GX hj hc2;subst e;rw[List.take_length]at hacc;refine CJ (h:=Bk (h:=n_ (h:=GG (h:=BN (h:=?_)))));refine A4 rfl (fun hb4 hc4=>?_) (fun hb4 hc4=>?_)
 ·have hln:(((AN t pid).opens.filter fun d=>decide (d.fd≠fd)).length:Int)=((AN t pid).opens.length:Int):=by rw[hacc];simpa using hc4
  refine Bq (h:=?_);refine AU (r:=Cr (KR t pid fd)) none (h5:=?_) (h6:=⟨rfl,rfl,rfl⟩);rw[KR,if_neg (by simp[hhas]),if_pos hln];exact Fr _
 have hln:¬(((AN t pid).opens.filter fun d=>decide (d.fd≠fd)).length:Int)=((AN t pid).opens.length:Int):=by rw[hacc];simpa using hc4
 refine AF (AX (h:=Ct (h:=C5 (h:=?_))));refine A3 rfl (H7 (y:= .agg (Am {AN t pid with opens:=(AN t pid).opens.filter fun d=>decide (d.fd≠fd)})) (KE rfl rfl rfl ⟨rfl,rfl⟩) (YH _ _ _ _ (by rw[hacc])) ?_);refine A3 rfl (A8 (NF t {AN t pid with opens:=(AN t pid).opens.filter fun d=>decide (d.fd≠fd)} ht (Mb hhas) (by have:=List.length_filter_le (fun d:Dsc=>decide (d.fd≠fd)) (AN t pid).opens;show((AN t pid).opens.filter _).length≤1000;omega)) ?_);rintro r rfl;refine s_ (h:=B8 (h:=?_));refine A6 ?_;rw[KR,if_neg (by simp[hhas]),if_neg hln];rfl
theorem ZE(t:Tab)(pid:Int)(ht:TabB t):AFn prog 208 [.agg (Ai t), .v (.int .i64 pid)] (fun r=>r=Cr (JU t pid)):=by
 have hfew:=ht.few;refine enter Tryz.func208 rfl rfl rfl rfl rfl 0 rfl ?_;refine EH (h:=B4 (h:=q_ (FR (h:=?_))));refine A3 rfl (A8 (K2 t pid ht) ?_);rintro r rfl;refine FC (h:=Bu (h:=DA (h:=?_)));refine A4 rfl (fun hb1 hc1=>?_) (fun hb1 hc1=>?_)
 ·have hno:CG t pid=false:=by simpa using hc1
  refine Bq (h:=?_);refine AU (r:=Cr (JU t pid)) none (h5:=?_) (h6:=⟨rfl,rfl,rfl⟩);rw[JU,if_pos hno];exact Fr _
 have hhas:CG t pid=true:=by simpa using hc1
 refine Ds (h:=BN (h:=?_));refine A4 rfl (fun hb2 hc2=>?_) (fun hb2 hc2=>?_)
 ·have h1:pid=1:=hc2;refine Bq (h:=?_);refine AU (r:=Cr (JU t pid)) none (h5:=?_) (h6:=⟨rfl,rfl,rfl⟩);rw[JU,if_neg (by simp[hhas]),if_pos h1];exact Fr _
 have h1:¬pid=1:=hc2;refine AF (Hy (h:=Bi (h:=Dz (h:=Ca (h:=?_)))));refine LY 3 2 29 14 rfl rfl (by repeat constructor) (by repeat constructor) (by repeat constructor) ?_;refine BU (fun m s=>∃(j:Nat) (acc:List Prc),j≤t.ps.length∧m=t.ps.length - j∧((t.ps.take j).filter fun p=>decide (p.pid≠pid)).map (JT pid)=acc∧acc.length≤j∧s=⟨look [(1, .v (.int .i64 pid)),(2, .bp 0 0),(4, .bp 1 0),(8, .bp 3 0),(9, .v (.int .i64 (j:Int)))],⟨[Ai t,DU,Am (AN t pid),DV t (.sl 14 (acc.map Am) (some 0))],[(29,14,acc.map Am)]⟩⟩) (t.ps.length) ((wk 4 1)) (⟨0,[],BH _,rfl,rfl,B3 _,rfl⟩) ?_;rintro m s ⟨j,acc,hj,rfl,hacc,hal,rfl⟩;refine Gs (h:=?_);refine A4 rfl (fun hb3 hc3=>?_) (fun hb3 hc3=>?_)
 ·obtain⟨hlt,x,hy,hrow, -⟩:=C1 Am hc3;have hop:x.opens.length≤1000:=by have:=ht.opens x (Aj hy);omega
  have hk:=oT hy hacc;refine C0 (h:=Gt (h:=l_ (h:=?_)));refine A3 rfl (A8 (PQ x hop) ?_);rintro r rfl;refine Dz (h:=?_);refine B9 (fun s=>s=⟨look [(1, .v (.int .i64 pid)),(2, .bp 0 0),(4, .bp 1 0),(8, .bp 3 0),(9, .v (.int .i64 (j:Int))),(10, .bp 4 0)],⟨[Ai t,DU,Am (AN t pid),DV t (.sl 14 (acc.map Am) (some 0)),Am (JT pid x)],[(29,14,acc.map Am)]⟩⟩) ?_ ?_
  ·skip
   refine B0 (h:=m_ (h:=BN (h:=?_)));refine A4 rfl (fun hb4 hc4=>?_) (fun hb4 hc4=>?_)
   ·have hpp:x.ppid=pid:=hc4;refine Aw (CS (h:=DC (h:=?_)));refine⟨_,rfl,?_⟩;unfold JT
    (rw[if_pos hpp];exact Ao 5 1 rfl rfl rfl rfl ((by repeat (first|exact Sub.nil|refine Ap rfl rfl ?_|refine At ?_|refine Au rfl ?_|refine Av rfl ?_))))
   have hpp:¬x.ppid=pid:=hc4;refine BD (AT (?_));refine⟨_,rfl,?_⟩;unfold JT
   first|(rw[if_pos hpp];exact Ao 5 1 rfl rfl rfl rfl ((by repeat (first|exact Sub.nil|refine Ap rfl rfl ?_|refine At ?_|refine Au rfl ?_|refine Av rfl ?_))))|(rw[if_neg hpp];exact Ao 5 1 rfl rfl rfl rfl ((by repeat (first|exact Sub.nil|refine Ap rfl rfl ?_|refine At ?_|refine Au rfl ?_|refine Av rfl ?_))))
  rintro s rfl;have hop2:(JT pid x).pid=x.pid:=by unfold JT;split<;>rfl
  refine B0 (h:=m_ (h:=Bo (h:=?_)));refine A4 rfl (fun hb5 hc5=>?_) (fun hb5 hc5=>?_)
  ·have hpe:x.pid≠pid:=by rw[←hop2];simpa using hc5
   rw[if_pos hpe]at hk;refine Aw (Aa (h:=l_ (h:=BY (h:=?_))));refine A3 rfl (EF rfl rfl rfl (by simp;omega) (by repeat constructor) ?_);refine CS (h:=C4 (Eg (h:=?_)));exact⟨t.ps.length - (j+1),_,by omega,⟨j+1,acc++[JT pid x],by omega,rfl,hk,by simp;omega,rfl⟩,(by rw[List.map_append];exact Ao 4 1 rfl rfl rfl rfl ((by repeat (first|exact Sub.nil|refine Ap rfl rfl ?_|refine At ?_|refine Au rfl ?_|refine Av rfl ?_))))⟩
  have hpe:¬x.pid≠pid:=by rw[←hop2];simpa using hc5
  rw[if_neg hpe]at hk;refine DH (h:=?_)
  first|exact⟨t.ps.length - (j+1),_,by omega,⟨j+1,acc++[JT pid x],by omega,rfl,hk,by simp;omega,rfl⟩,(by rw[List.map_append];exact Ao 4 1 rfl rfl rfl rfl ((by repeat (first|exact Sub.nil|refine Ap rfl rfl ?_|refine At ?_|refine Au rfl ?_|refine Av rfl ?_))))⟩|exact⟨t.ps.length - (j+1),_,by omega,⟨j+1,acc,by omega,rfl,hk,by omega,rfl⟩,Ao 4 1 rfl rfl rfl rfl ((by repeat (first|exact Sub.nil|refine Ap rfl rfl ?_|refine At ?_|refine Au rfl ?_|refine Av rfl ?_)))⟩
 have e:=CF Am hj hc3;subst e;rw[List.take_length]at hacc;refine CJ (h:=Dr (h:=B8 (h:=?_)));refine AU (r:=Cr (JU t pid)) none (h5:=?_) (h6:=⟨rfl,rfl,rfl⟩);rw[JU,if_neg (by simp[hhas]),if_neg h1,hacc];exact LeA.tup (.cons (LeA.agg (.cons (A7 _) (.cons (A7 _) (.cons (LeA.tok _ _ _) .nil)))) (.cons (A7 _) .nil))
theorem pA(t:Tab)(pid q:Int)(b:Bool)(ht:TabB t):AFn prog 214 [.agg (Ai t), .v (.int .i64 pid), .v (.int .i64 q), .v (.bool b)] (fun r=>r=Cr (J6 t pid q b)):=by
 refine enter Tryz.func214 rfl rfl rfl rfl rfl 0 rfl ?_;refine EH (h:=B4 (h:=FR (h:=?_)));refine A3 rfl (A8 (K2 t pid ht) ?_);rintro r rfl;refine Gr (h:=?_);refine A4 rfl (fun hb1 hc1=>?_) (fun hb1 hc1=>?_)
 ·have hno:CG t pid=false:=by simpa using hc1
  refine Bq (h:=?_);refine AU (r:=Cr (J6 t pid q b)) none (h5:=?_) (h6:=⟨rfl,rfl,rfl⟩);rw[J6,if_pos hno];exact Fr _
 have hhas:CG t pid=true:=by simpa using hc1
 refine AF (FR (h:=?_));refine A3 rfl (A8 (K2 t q ht) ?_);rintro r rfl;refine Gr (h:=?_);refine A4 rfl (fun hb2 hc2=>?_) (fun hb2 hc2=>?_)
 ·have hno2:CG t q=false:=by simpa using hc2
  refine Bq (h:=?_);refine AU (r:=Cr (J6 t pid q b)) none (h5:=?_) (h6:=⟨rfl,rfl,rfl⟩);rw[J6,if_neg (by simp[hhas]),if_pos hno2];exact Fr _
 have hhas2:CG t q=true:=by simpa using hc2
 refine FD (h:=?_);refine B9 (fun S=>S=⟨look [(2, .v (.int .i64 q)),(3, .v (.bool b)),(4, .bp 0 0),(8, .bp 1 0),(44, .v (.bool (decide (q=1∨(AN t pid).euid≠0∧(AN t pid).euid≠(AN t q).uid))))],⟨[Ai t,DU],[]⟩⟩) ?_ ?_
 ·skip
  refine Bt (h:=Dy (h:=?_));refine AJ false rfl rfl (fun hb3 hc3=>?_) (fun hb3 hc3=>?_)
  ·refine BT (h:=Ms (h:=Lb (h:=Dc (h:=JL (h:=?_)))));exact⟨_,rfl,CD 2 0 rfl⟩
  refine C6 (h:=m_ (h:=?_));refine AJ true rfl rfl (fun hb4 hc4=>?_) (fun hb4 hc4=>?_)
  ·refine Aa (h:=C6 (h:=CZ (h:=Fi (h:=?_))));exact⟨_,rfl,CD 2 0 rfl⟩
  refine B7 (h:=D8 (h:=Fi (h:=?_)));exact⟨_,rfl,CD 2 0 rfl⟩
 rintro S rfl;refine A4 rfl (fun hb5 hc5=>?_) (fun hb5 hc5=>?_)
 ·refine Bq (h:=?_);refine AU (r:=Cr (J6 t pid q b)) none (h5:=?_) (h6:=⟨rfl,rfl,rfl⟩);rw[J6,if_neg (by simp[hhas]),if_neg (by simp[hhas2]),if_pos (by first|assumption|simpa using ‹_›)];exact Fr _
 refine Ds (h:=e_ (?_));refine A4 rfl (fun hb6 hc6=>?_) (fun hb6 hc6=>?_)
 ·have hb:b=true:=hc6;refine FR (h:=?_);refine A3 rfl (A8 (ZE t q ht) ?_);rintro r rfl;refine Kg (h:=s_ (h:=E8 (h:=?_)));refine A6 ?_;rw[J6,if_neg (by simp[hhas]),if_neg (by simp[hhas2]),if_neg (by first|assumption|simpa using ‹_›),if_pos hb];rfl
 have hb:¬b=true:=by simpa using hc6
 refine AF (C5 (h:=?_));refine A3 rfl (A8 (Xv t ht) ?_);rintro r rfl;refine s_ (h:=B8 (h:=?_));refine A6 ?_;rw[J6,if_neg (by simp[hhas]),if_neg (by simp[hhas2]),if_neg (by first|assumption|simpa using ‹_›),if_neg hb];rfl
theorem pB(t:Tab)(pid:Int)(ht:TabB t)(hn:DW t):AFn prog 207 [.agg (Ai t), .v (.int .i64 pid)] (fun r=>r=Lt (GU t pid)):=by
 have hfew:=ht.few;have hn1:=hn.1;have hn2:=ht.next;have hpl:(t.ps.map Am).length=t.ps.length:=List.length_map _;obtain⟨p,hp⟩:∃p:Prc,p={AN t pid with pid:=t.next,ppid:=pid}:=⟨_,rfl⟩;have hlen:(t.ps++[p]).length=t.ps.length+1:=by simp
 obtain⟨tF,htF⟩:∃x:Tab,x=⟨t.next+1,t.nextS,t.ps++[p]⟩:=⟨_,rfl⟩;refine enter Tryz.func207 rfl rfl rfl rfl rfl 0 rfl ?_;refine EH (h:=a_ (h:=B4 (h:=FR (h:=?_))));refine A3 rfl (A8 (K2 t pid ht) ?_);rintro r rfl;refine Gr (h:=?_);refine A4 rfl (fun hb1 hc1=>?_) (fun hb1 hc1=>?_)
 ·have hno:CG t pid=false:=by simpa using hc1
  refine Ew (h:=?_);refine AU (r:=Lt (GU t pid)) none (h5:=?_) (h6:=⟨rfl,rfl,rfl⟩);rw[GU,if_pos hno];exact PT _ _
 have hhas:CG t pid=true:=by simpa using hc1
 refine DQ (h:=n_ (h:=E7 (h:=m_ (h:=?_))));refine AJ false rfl rfl (fun hb2 hc2=>?_) (fun hb2 hc2=>?_)
 ·refine ER (h:=CX (h:=Ew (h:=?_)));refine AU (r:=Lt (GU t pid)) none (h5:=?_) (h6:=⟨rfl,rfl,rfl⟩);rw[GU,if_neg (by simp[hhas]),if_pos (by first|assumption|omega)];exact PT _ _
 refine Cs (h:=CH (h:=?_));refine A4 rfl (fun hb3 hc3=>?_) (fun hb3 hc3=>?_)
 ·refine Ew (h:=?_);refine AU (r:=Lt (GU t pid)) none (h5:=?_) (h6:=⟨rfl,rfl,rfl⟩);rw[GU,if_neg (by simp[hhas]),if_pos (by first|assumption|omega)];exact PT _ _
 refine AF (?_);refine B9 (fun s=>s=⟨look [(2, .bp 0 0),(4, .bp 1 0),(7, .bp 2 0)],⟨[Ai t,DU,Am p],[]⟩⟩) ?_ ?_
 ·skip
  refine Aw (Fx (h:=CS (h:=CS (h:=DC (h:=?_)))));rw[hp];exact⟨_,rfl,Ao 3 0 rfl rfl rfl rfl ((by repeat (first|exact Sub.nil|refine Ap rfl rfl ?_|refine At ?_|refine Au rfl ?_|refine Av rfl ?_)))⟩
 rintro s rfl;refine B9 (fun s=>∃cap,t.ps.length≤cap∧s=⟨look [(4, .bp 1 0),(7, .bp 2 0),(9, .bp 3 0)],⟨[Ai t,DU,Am p,DV t (.bs 4 0 14 t.ps.length cap),LB 14 Am t.ps cap],[]⟩⟩) ?_ ?_
 ·skip
  refine Aw (l_ (h:=?_));refine A3 rfl (Bg [] rfl (.cons _ _ _ _ _ rfl (A7 _) .nil) (by decide) .nil (Xw t ht (Mb hhas)) ?_);rintro r bc tc ⟨rfl,cap,hcap,rfl,rfl⟩;refine⟨rfl,_,(Xu (n:=3) rfl t cap:Back _ [] _ [_,_,_,_,_,_,_]),?_⟩;refine La (h:=DC (h:=?_));exact⟨_,⟨cap,hcap,rfl⟩,GE [0,1,2,7,6] (fun i hi=>absurd hi (Nat.not_lt_zero i)) (by decide) (.cons _ _ _ _ _ rfl rfl (.cons _ _ _ _ _ rfl rfl (.cons _ _ _ _ _ rfl rfl (.cons _ _ _ _ _ rfl rfl (.cons _ _ _ _ _ rfl (Lq Ea _ _ _) .nil))))) (by repeat (first|exact SubK.nil|refine SubK.cons _ _ _ _ rfl (A7 _) ?_))⟩
 rintro s ⟨cap,hcp,rfl⟩;refine B0 (h:=Fc (h:=Ct (h:=?_)));refine B9 (fun s=>s=⟨look [(4, .bp 1 0),(7, .bp 2 0),(9, .bp 3 0)],⟨[Ai t,DU,Am p,Ai tF],[]⟩⟩) ?_ ?_
 ·skip
  refine Aw (Aa (h:=l_ (h:=BY (h:=?_))));refine A3 rfl (NZ rfl rfl rfl (by rw[RN Ea hcp];omega) Ll (by omega) (by omega) ?_ ?_)
  ·rintro hg row2 bx2 hs hb;obtain rfl:=Tw Ea hs hg;obtain rfl:bx2=[_,_,_,_,_]:=hb.one.2;have hcpx:(t.ps++[p]).length≤cap:=by simpa using hg
   refine CS (h:=DC (h:=?_));rw[htF];refine⟨_,rfl,?_⟩;rw[←hlen];exact H8 4 1 rfl (congrArg (fun x=>[Ai t,DU,Am p,[.v (.int .i64 (t.next+1)), .v (.int .i64 t.nextS),x]]) (OA (l:=t.ps++[p]) Ea rfl rfl hcpx)) (.cons _ _ _ _ rfl (A7 _) (.cons _ _ _ _ rfl (A7 _) (.cons _ _ _ _ rfl (A7 _) .nil)))
  rintro hg cap3 k bx2 hcp3 hs;rw[show((LB 14 Am t.ps cap).drop 0).take (t.ps.length * 14)++CM (.agg (Am p))++List.replicate ((cap3 - (t.ps.length+1)) * 14) AV.any=LB 14 Am (t.ps++[p]) cap3 from Tv Ea t.ps p cap cap3]at hs;obtain⟨rfl,rfl⟩:k=5∧bx2=[_,_,_,_,_,_]:=hs.eq;have hcpx:(t.ps++[p]).length≤cap3:=by simpa using hcp3
  refine CS (h:=DC (h:=?_));rw[htF];refine⟨_,rfl,?_⟩;rw[←hlen];exact H8 4 1 rfl (congrArg (fun x=>[Ai t,DU,Am p,[.v (.int .i64 (t.next+1)), .v (.int .i64 t.nextS),x]]) (OA (l:=t.ps++[p]) Ea rfl rfl hcpx)) (.cons _ _ _ _ rfl (A7 _) (.cons _ _ _ _ rfl (A7 _) (.cons _ _ _ _ rfl (A7 _) .nil)))
 rintro s rfl;refine q_ (BO ([(0,Ai t),(2,Am p),(3,Ai tF)]) 6 (h:=A9 0 (h:=AD 1 (h:=A9 2 (h:=?_)))));refine B6 3 (h:=BB 4 (h:=BB 5 (h:=z_ (h:=t_ (B5 (?_))))));refine A6 ?_;rw[GU,if_neg (by simp[hhas]),if_neg (by first|assumption|omega),←hp,←htF];rw[hp];rfl
end
end Go.Proofs.YtbgnigjfkbmceaaGreatDoor
