/-
  Part 13 of the proof of FilterSilentP: what the statement's proof uses of the texts in wip/tpl.
-/
import Derived.Test.YtbgnigjfkbmceaaGreatDoorQe12
open Go.Proofs.Tryz (prog)
set_option maxRecDepth 10000
set_option maxHeartbeats 4000000
set_option linter.unusedVariables false
set_option linter.unusedSimpArgs false
namespace Go.Proofs.YtbgnigjfkbmceaaGreatDoor
open Go.RowKit
theorem YF:∀(l:List Dsc) (k:Nat),Fo k l≤k+l.length
 |[],k=>B3 _
 |d::l,k=>by
   unfold Fo;split
   ·have:=YF l (k+1);simp only[List.length_cons];omega
   omega
theorem lA{α:Type}{l:List α}{j:Nat}{x:α}(h:l[j]?=some x):l.drop j=x::l.drop (j+1):=by
 obtain⟨hl,rfl⟩:=Ab.1 h;exact List.drop_eq_getElem_cons hl
def YG(p:Prc)(x:AV):List AV:=[.v (.int .i64 p.pid), .v (.int .i64 p.ppid), .v (.int .i64 p.uid), .v (.int .i64 p.euid), .v (.int .i64 p.gid), .v (.int .i64 p.egid), .v (.int .i64 p.auid), .v (.int .i64 p.ses), .v (.int .i64 p.cwd.1), .v (.int .i64 p.cwd.2), .v (.string p.comm), .v (.string p.exe),x, .v (.bool p.audited)]
theorem YH(p:Prc)(rows:List (List AV))(g:Option Nat)(l:List Dsc)(h:rows=l.map GX):LeA (.agg (YG p (.sl 4 rows g))) (.agg (Am {p with opens:=l})):=by
 subst h;unfold YG Am
 repeat (first|exact A7 _|exact LeA.tok _ _ _|refine LeA.agg ?_|exact LeL.nil|refine LeL.cons ?_ ?_)
def Cr(R:Tab×Int):AV:= .tup [.agg (Ai R.1), .v (.int .i64 R.2)]
def Lt(R:Tab×Int×Int):AV:= .tup [.agg (Ai R.1), .v (.int .i64 R.2.1), .v (.int .i64 R.2.2)]
theorem Fr(e:Int):LeA (.tup [.agg DU, .v (.int .i64 e)]) (Cr (EC,e)):=(by repeat (first|exact A7 _|exact LeA.nil _|exact LeL.refl _|refine LeA.agg ?_|refine LeA.tup ?_|exact LeL.nil|refine LeL.cons ?_ ?_|exact LeA.any _))
theorem PT(n e:Int):LeA (.tup [.agg DU, .v (.int .i64 n), .v (.int .i64 e)]) (Lt (EC,n,e)):=(by repeat (first|exact A7 _|exact LeA.nil _|exact LeL.refl _|refine LeA.agg ?_|refine LeA.tup ?_|exact LeL.nil|refine LeL.cons ?_ ?_|exact LeA.any _))
def RP(R:Syst×Int):AV:= .tup [.agg (CP R.1), .v (.int .i64 R.2)]
def Cl(w:Wrk):AV:= .sl 8 (w.found.map Ah) none
section
theorem YJ(t:Tab)(pid:Int)(a:AB)(flags:Int)(ht:TabB t):AFn prog 199 [.agg (Ai t), .v (.int .i64 pid), .agg (AA a), .v (.int .i64 flags)] (fun r=>r=Lt (GA t pid a flags)):=by
 have h8:=Jb ht pid;have hol:((AN t pid).opens.map GX).length=(AN t pid).opens.length:=List.length_map _;have hfl:Fo 0 (AN t pid).opens≤(AN t pid).opens.length:=by have:=YF (AN t pid).opens 0;omega
 refine enter Tryz.func199 rfl rfl rfl rfl rfl 0 rfl ?_;refine Ff (h:=a_ (h:=B4 (h:=FR (h:=?_))));refine A3 rfl (A8 (K2 t pid ht) ?_);rintro r rfl;refine Gr (h:=?_);refine A4 rfl (fun hb1 hc1=>?_) (fun hb1 hc1=>?_)
 ·refine Ew (h:=?_);refine AU (r:=Lt (GA t pid a flags)) none (h5:=?_) (h6:=⟨rfl,rfl,rfl⟩);rw[GA,if_pos (by simpa using hc1)];exact PT _ _
 have hhas:CG t pid=true:=by simpa using hc1
 refine DQ (h:=n_ (h:=E7 (h:=e_ (?_))));refine A4 rfl (fun hb2 hc2=>?_) (fun hb2 hc2=>?_)
 ·refine Ew (h:=?_);refine AU (r:=Lt (GA t pid a flags)) none (h5:=?_) (h6:=⟨rfl,rfl,rfl⟩);rw[GA,if_neg (by simp[hhas]),if_pos (by omega)];exact PT _ _
 refine AF (DG (h:=?_));refine B9 (fun s=>s=⟨look [(3, .v (.int .i64 flags)),(4, .bp 0 0),(6, .bp 1 0),(8, .bp 2 0),(11, .bp 3 0),(13, .v (.int .i64 (Fo 0 (AN t pid).opens:Nat)))],⟨[Ai t,AA a,DU,Am (AN t pid)],[]⟩⟩) ?_ ?_
 ·skip
  refine BK (?_);refine BU (fun m s=>∃j:Nat,j≤(AN t pid).opens.length∧m=(AN t pid).opens.length - j∧Fo 0 (AN t pid).opens=Fo j ((AN t pid).opens.drop j)∧s=⟨look [(3, .v (.int .i64 flags)),(4, .bp 0 0),(6, .bp 1 0),(8, .bp 2 0),(11, .bp 3 0),(13, .v (.int .i64 (j:Int)))],⟨[Ai t,AA a,DU,Am (AN t pid)],[]⟩⟩) ((AN t pid).opens.length) ((wk 4 0)) (⟨0,BH _,rfl,rfl,rfl⟩) ?_;rintro m s ⟨j,hj,rfl,hfd,rfl⟩;refine SS (h:=DZ (h:=?_));refine AJ true rfl rfl (fun hb3 hc3=>?_) (fun hb3 hc3=>?_)
  ·obtain⟨hlt,d,hy,hrow, -⟩:=C1 GX hc3;have hdr:=lA hy;refine Aa (h:=Fw (h:=Aa (h:=D9 (h:=DY (h:=?_)))));refine A4 rfl (fun hb4 hc4=>?_) (fun hb4 hc4=>?_)
   ·have heq:d.fd=(j:Int):=by simpa using hc4
    refine AF (BK (Mt (h:=BE (AT (?_)))));refine⟨_,_,?_,⟨j+1,by omega,rfl,by rw[hfd,hdr,Fo,if_pos heq],rfl⟩,(wk 4 0)⟩;omega
   have hend:Fo 0 (AN t pid).opens=j:=by rw[hfd,hdr,Fo,if_neg (by simpa using hc4)]
   refine Kh (h:=AT (?_));refine⟨_,rfl,?_⟩;rw[hend];exact(wk 4 0)
  have hend:Fo 0 (AN t pid).opens=j:=by rw[hfd,CF GX hj hc3,List.drop_length];rfl
  refine BT (h:=BT (h:=FQ (h:=Kh (h:=AT (?_)))));refine⟨_,rfl,?_⟩;rw[hend];exact(wk 4 0)
 rintro s rfl;refine B0 (h:=m_ (h:=?_));refine A3 rfl (S4 (k:=Fo 0 (AN t pid).opens) rfl rfl rfl (by omega) ?_)
 first|refine A3 rfl (EF rfl rfl rfl (by simp;omega) (by repeat constructor) ?_)|refine A3 rfl (Ht rfl rfl (by simp;omega) (by repeat constructor) ?_)
 refine Bu (h:=m_ (h:=Gv (h:=Bi (h:=BY (h:=?_)))));refine A3 rfl (EF rfl rfl rfl (by simp;omega) (by repeat constructor) ?_);refine Bu (h:=Fx (h:=?_));refine A3 rfl (Up (l:=Fo 0 (AN t pid).opens) rfl rfl rfl (by omega) ?_);refine A3 rfl (EF rfl rfl rfl (by simp;omega) (by repeat constructor) ?_);refine Ct (h:=C5 (h:=?_));refine A3 rfl (H7 (y:= .agg (Am {AN t pid with opens:=O5 (AN t pid).opens (Fo 0 (AN t pid).opens) ⟨(Fo 0 (AN t pid).opens:Nat),a,flags⟩})) (KE rfl rfl rfl ⟨rfl,rfl⟩) (YH _ _ _ _ (by simp[O5,GX];rfl)) ?_);refine A3 rfl (A8 (NF t {AN t pid with opens:=O5 (AN t pid).opens (Fo 0 (AN t pid).opens) ⟨(Fo 0 (AN t pid).opens:Nat),a,flags⟩} ht (Mb hhas) (by simp[O5];omega)) ?_);rintro r rfl;refine m_ (h:=s_ (h:=a_ (h:=B8 (h:=?_))));refine A6 ?_;rw[GA,if_neg (by simp[hhas]),if_neg (by omega)];rfl
theorem lB(a:AB):AFn prog 111 [.agg (AA a)] (fun r=>r= .agg (Ai (O3 a))):=by
 refine enter Tryz.func111 rfl rfl rfl rfl rfl 0 rfl ?_;refine EH (h:=e_ (C5 (h:=?_)));refine A3 rfl (Gi (y:= .agg (Am ⟨1,0,0,0,0,0,4294967295,4294967295,a,⟨#[105,110,105,116]⟩,⟨#[47,105,110,105,116]⟩,[],true⟩)) (Dn ⟨rfl,rfl⟩) ?_);refine BY (h:=HL (h:=e_ (B5 (?_))));refine A6 ?_;rfl
theorem YK(n:Int):AFn prog 60 [.v (.int .i64 n)] (fun r=>r=RP (K0 n)):=by
 refine enter Tryz.func60 rfl rfl rfl rfl rfl 0 rfl ?_;refine w_ (CY (h:=Bu (h:=?_)));refine A3 rfl (A8 (cS n) ?_);rintro r rfl;refine JG (h:=Bo (h:=?_));refine A4 rfl (fun hb1 hc1=>?_) (fun hb1 hc1=>?_)
 ·refine w_ (Gw (h:=E8 (h:=?_)));refine AU (r:=RP (K0 n)) none (h5:=?_) (h6:=⟨rfl,rfl,rfl⟩);rw[K0,if_pos (by simpa using hc1)];exact(by repeat (first|exact A7 _|exact LeA.nil _|exact LeL.refl _|refine LeA.agg ?_|refine LeA.tup ?_|exact LeL.nil|refine LeL.cons ?_ ?_|exact LeA.any _))
 refine AF (q_ (BO ([(1,Al (G0 n).1)]) 7 (h:=A9 0 (h:=JE 1 (h:=JE 2 (h:=?_))))));refine c_ 3 rfl (A8 (lB (0,1)) ?_);rintro r rfl;refine o_ (h:=JE 4 (h:=?_));refine B6 5 (h:=BB 6 (h:=z_ (h:=t_ (B5 (?_)))));refine AU (r:=RP (K0 n)) none (h5:=?_) (h6:=⟨rfl,rfl,rfl⟩);rw[K0,if_neg (by simpa using hc1)];exact(by repeat (first|exact A7 _|exact LeA.nil _|exact LeL.refl _|refine LeA.agg ?_|refine LeA.tup ?_|exact LeL.nil|refine LeL.cons ?_ ?_|exact LeA.any _))
theorem Mc(s:Syst)(hs:SpcB s.spc)(ht:TabB s.tab):AFn prog 94 [.agg (CP s)] (fun r=>r= .agg (CP s)):=by
 refine enter Tryz.func94 rfl rfl rfl rfl rfl 0 rfl ?_;refine w_ (b_ (h:=CY (h:=e_ (q_ (BO ([(0,CP s)]) 7 (h:=AD 0 (h:=?_)))))));refine A9 1 (h:=?_);refine AD 3 (h:=?_);refine A9 4 (h:=?_);refine c_ 2 rfl (A8 (kU s.spc hs) ?_);rintro r rfl;refine o_ (h:=?_);refine c_ 5 rfl (A8 (Xv s.tab ht) ?_);rintro r rfl;refine o_ (h:=JE 6 (h:=?_));refine B6 7 (h:=z_ (h:=t_ (B5 (?_))));refine A6 ?_;rfl
theorem lC(s:Spc)(given:AE)(perm:Int)(f:Fnd)(hs:SpcB s):AFn prog 143 [.agg (AY s), .v (.string given), .v (.int .i64 perm), .agg (Ah f)] (fun r=>r= .agg (CV (PM s given perm f))):=by
 refine enter Tryz.func143 rfl rfl rfl rfl rfl 0 rfl ?_;refine Ff (h:=e_ (Hy (h:=?_)));refine A3 rfl (A8 (FF s.files f.file hs.files) ?_);rintro r rfl;refine FC (h:=Bu (h:=JM (h:=JM (h:=JM (h:=Aa (h:=f_ (h:=?_)))))));refine Gv (h:=HL (h:=e_ (B5 (?_))));refine A6 ?_;rfl
theorem Kx(w:Wrk)(its:AV)(a:AB)(want:Int)(hs:SpcB w.s.spc):AFn prog 197 [.fp (Da w (Cl w) its), .agg (AA a), .v (.int .i64 want)] (fun r=>r= .v (.bool (CA w a want))):=by
 refine enter Tryz.func197 rfl rfl rfl rfl rfl 0 rfl ?_;refine w_ (b_ (h:=a_ (h:=e_ (q_ (BO ([(0,AA a)]) 14 (h:=AG 0 (h:=BJ 1 (h:=AD 2 (h:=AD 3 (h:=AD 4 (h:=A9 5 (h:=A9 6 (h:=?_)))))))))))));refine Fb 7 11 rfl rfl ?_ ?_
 ·refine A8 (FF w.s.spc.files a hs.files) ?_;rintro r rfl;refine o_ (h:=?_);refine AG 8 (h:=BF 9 (h:=BF 10 (h:=?_)));refine c_ 11 rfl (CR (by repeat constructor) ?_);refine o_ (h:=?_);refine B6 12 (h:=BB 13 (h:=z_ (h:=t_ (q_ (Dd 14 (h:=A9 0 (h:=AG 1 (h:=BJ 2 (h:=AD 3 (h:=AD 4 (h:=A9 5 (h:=AG 6 (h:=BJ 7 (h:=AD 8 (h:=AD 9 (h:=A9 10 (h:=AG 11 (h:=?_))))))))))))))))));refine c_ 12 rfl (A8 (Xy (Ac w.s.spc.files a) w.p.euid w.p.egid want) ?_);rintro r rfl;refine o_ (h:=BB 13 (h:=z_ (h:=t_ (B5 (?_)))));refine A6 ?_;rfl
 refine CR (by repeat constructor) ?_;refine o_ (h:=?_);refine c_ 7 rfl (A8 (FF w.s.spc.files a hs.files) ?_);rintro r rfl;refine o_ (h:=AG 8 (h:=BF 9 (h:=BF 10 (h:=?_))));refine B6 12 (h:=BB 13 (h:=z_ (h:=t_ (q_ (Dd 14 (h:=A9 0 (h:=AG 1 (h:=BJ 2 (h:=AD 3 (h:=AD 4 (h:=A9 5 (h:=AG 6 (h:=BJ 7 (h:=AD 8 (h:=AD 9 (h:=A9 10 (h:=AG 11 (h:=?_))))))))))))))))));refine c_ 12 rfl (A8 (Xy (Ac w.s.spc.files a) w.p.euid w.p.egid want) ?_);rintro r rfl;refine o_ (h:=BB 13 (h:=z_ (h:=t_ (B5 (?_)))));refine A6 ?_;rfl
theorem Md(w:Wrk)(its:AV)(i:Nat)(f:Fnd)(hs:SpcB w.s.spc)(hf:w.found[i]?=some f):AFn prog 201 [.fp (Da w (Cl w) its), .v (.int .i64 (i:Int))] (fun r=>r= .v (.bool (Af w.s.spc.files f.file))):=by
 have hrow:(w.found.map Ah)[i]?=some (Ah f):=by rw[List.getElem?_map,hf];rfl
 refine enter Tryz.func201 rfl rfl rfl rfl rfl 0 rfl ?_;refine w_ (a_ (h:=e_ (q_ (Dd 16 (h:=AG 0 (h:=BJ 1 (h:=AD 2 (h:=AD 3 (h:=AD 4 (h:=A9 5 (h:=AG 6 (h:=BJ 7 (h:=AD 8 (h:=A9 9 (h:=AG 10 (h:=De 11 (h:=AD 12 (h:=A9 13 (h:=?_)))))))))))))))))));refine c_ 14 rfl (A8 (Ki w.s.spc.files f.file hs.files) ?_);rintro r rfl;refine o_ (h:=BB 15 (h:=z_ (h:=t_ (B5 (?_)))));refine A6 ?_;rfl
theorem YL(w:Wrk)(its:AV)(a:AB)(hs:SpcB w.s.spc)(hp:w.s.tab.ps.length≤1000):AFn prog 204 [.fp (Da w (Cl w) its), .agg (AA a)] (fun r=>r= .v (.bool (JY w a))):=by
 refine enter Tryz.func204 rfl rfl rfl rfl rfl 0 rfl ?_;refine w_ (b_ (h:=a_ (h:=e_ (q_ (q_ (Dd 7 (h:=AG 0 (h:=BJ 1 (h:=AD 2 (h:=AD 3 (h:=A9 4 (h:=A9 5 (h:=?_)))))))))))));refine c_ 6 rfl (A8 (Vh w.s.spc a hs) ?_);rintro r rfl;refine GJ (h:=t_ (?_));refine A4 rfl (fun hb1 hc1=>?_) (fun hb1 hc1=>?_)
 ·refine BL (h:=?_);refine A6 ?_
  first|(exfalso;first|contradiction|omega)|(exact vb (by simp[JY, *]))
 refine AF (Ca (h:=?_));refine BU (fun m s=>∃j:Nat,j≤w.s.tab.ps.length∧m=w.s.tab.ps.length - j∧(∀i y,i<j→w.s.tab.ps[i]?=some y→decide (y.cwd=a)=false)∧s=⟨look [(0, .fp (Da w (Cl w) its)),(3, .bp 0 0),(5, .v (.int .i64 (j:Int)))],⟨[AA a],[]⟩⟩) (w.s.tab.ps.length) ((wk 1 0)) (⟨0,BH _,rfl,fun i y hi=>by omega,rfl⟩) ?_;rintro m s ⟨j,hj,rfl,ha,rfl⟩;refine Dq (h:=Gx (h:=Dp (h:=Gm (h:=?_))));refine A4 rfl (fun hb2 hc2=>?_) (fun hb2 hc2=>?_)
 ·obtain⟨hlt,p,hy,hrow, -⟩:=C1 Am hc2;refine AF (q_ (BK (q_ (Dd 12 (h:=AG 0 (h:=BJ 1 (h:=AD 2 (h:=AD 3 (h:=AD 4 (h:=A9 5 (h:=AG 6 (h:=De 7 (h:=AD 8 (h:=A9 9 (h:=A9 10 (h:=?_))))))))))))))));refine FO (i:=11) rfl (JB rfl rfl (by repeat constructor) (by repeat constructor) (fun w=>Of _ _ _ _ w) (by kernel_rfl) ⟨rfl,rfl⟩) ?_;refine z_ (h:=t_ (?_));refine A4 rfl (fun hb3 hc3=>?_) (fun hb3 hc3=>?_)
  ·have hany:(w.s.tab.ps.any fun p=>decide (p.cwd=a))=true:=N1 hy (decide_eq_true hc3);refine Bh (h:=CT (h:=?_));refine A6 ?_
   first|(exfalso;first|contradiction|omega)|(exact vb (by simp[JY, *]))
  have hne:decide (p.cwd=a)=false:=decide_eq_false hc3;refine DH (h:=?_);refine⟨_,_,?_,⟨j+1,by omega,rfl,GL hy ha hne,rfl⟩,(wk 1 0)⟩;omega
 have e:=CF Am hj hc2;have hany:(w.s.tab.ps.any fun p=>decide (p.cwd=a))=false:=Nl (by rw[←e];exact ha);refine HQ (h:=?_);refine A6 ?_
 first|(exfalso;first|contradiction|omega)|(exact vb (by simp[JY, *]))
end
theorem lD{α:Type}{sz:Nat}{F:α→List AV}(hF:RowF sz F){l:List α}{j cap:Nat}{x x':α}(h:l.length=j):SetAt (LB sz F (l++[x]) cap) (0+j * sz) (F x') (LB sz F (l++[x']) cap):=by
 have h1:(l++[x])[j]?=some x:=by rw[←h];simp
 have h2:(l++[x]).set j x'=l++[x']:=by rw[←h];simp
 have key:=Xn hF (cap:=cap) (x':=x') h1
 rwa [h2]at key
theorem YM{is:List Nat}:∀i,i<1→(0::is)[i]?=some i:=by
 intro i hi;obtain rfl:i=0:=by omega
 rfl
theorem YN{f:Nat→Option AV}{bx:List (List AV)}{tk:List CW}{N:Dim}(i:Nat){row row':List AV}(hi:bx[i]?=some row)(hle:LeL row row'):Weak N ⟨f,⟨bx,tk⟩⟩ ⟨f,⟨bx.set i row',tk⟩⟩:=by
 rintro E a w ⟨G,h1,h2,h3⟩;exact⟨G,h1.boxLe hi (fun us hu=>hle G w us hu),h2,h3⟩
theorem lE(w:Wrk)(rows:List (List AV))(g:Option Nat)(I:AV):LeL (Da w (.sl 8 rows g) I) (Da w (.sl 8 rows none) I):=by
 unfold Da
 repeat (first|exact LeL.nil|refine LeL.cons (A7 _) ?_|refine LeL.cons (LeA.tok _ _ _) ?_)
theorem BC{n m:Nat}(w:Wrk)(F I:AV):AQ n m (Da w F I)=(AP n m F&&AP n m I):=by
 simp[Da,AQ,AP]
def GY(l:List Fnd):AV:= .sl 8 (l.map Ah) (some 0)
def OB(w:Wrk)(e:Int)(j:Nat):List Itm×List Fnd×Int:=LJ w.s.spc w.p.cwd (DT w.c) ((w.c.paths.zip (D6 w.c)).take j) e
def LK(w:Wrk)(e:Int):List Itm×List Fnd×Int:=LJ w.s.spc w.p.cwd (DT w.c) (w.c.paths.zip (D6 w.c)) e
theorem lF{w:Wrk}{e:Int}{j:Nat}{g:AE×Int}(h:(w.c.paths.zip (D6 w.c))[j]?=some g):OB w e (j+1)=Hm w.s.spc w.p.cwd (DT w.c) (OB w e j) g:=by
 unfold OB LJ;rw[List.take_add_one,h,List.foldl_append];rfl
theorem lG{w:Wrk}{e:Int}{j:Nat}(h:(w.c.paths.zip (D6 w.c)).length≤j):OB w e j=LK w e:=by
 unfold OB LK;rw[List.take_of_length_le h]
def WA(w:Wrk)(cap:Nat):List AV:=Da w (Cl w) (.bs 1 0 13 w.r.items.length cap)
def IB(w:Wrk)(cap:Nat):List AV:=LB 13 CV w.r.items cap
theorem E3{bx:List (List AV)}{a b:List AV}{rest:List (List AV)}(hb:bx=a::b::rest)(w:Wrk)(cap:Nat):Back bx [0,1] [WA w cap,IB w cap] (WA w cap::IB w cap::rest):=by
 subst hb;have:=PP (bx:=a::b::rest) (is:=[0,1]) (bc:=[WA w cap,IB w cap]) (by simp) (by simp) (by simp);have e1:E5 (Ee [0,1] (a::b::rest).length) (WA w cap)=WA w cap:=rfl;have e2:E5 (Ee [0,1] (a::b::rest).length) (IB w cap)=IB w cap:=Db B1 _ _ _
 have hb:Dw (a::b::rest) (Ee [0,1] (a::b::rest).length) [0,1] [WA w cap,IB w cap]=WA w cap::IB w cap::rest:=by
  unfold Dw;rw[e1];unfold Dw;rw[e2];simp[Dw]
 rw[hb]at this;exact this
section
theorem lH(w:Wrk)(e:Int)(hv:SpcV w.s.spc)(hm:w.s.spc.mounts.length≤1000)(hp:w.c.paths.length=(D6 w.c).length)(hpl:w.c.paths.length≤1000)(h0:0<w.c.paths.length)(hps:∀p∈w.c.paths,p.size≤100000):
    ACall prog 96 [.bp 0 0, .v (.int .i64 e)] [Da w (.v (.slice none 0 0)) (.v (.slice none 0 0))] (fun r b t=>t=[]∧∃cap,(LK w e).1.length≤cap∧r= .v (.int .i64 (LK w e).2.2)∧b=[Da w (.sl 8 ((LK w e).2.1.map Ah) none) (.bs 1 0 13 (LK w e).1.length cap),LB 13 CV (LK w e).1 cap]):=by
 have hsb:=hv.b hm;have hsn:=hv.n hm;refine enter Tryz.func96 rfl rfl rfl rfl rfl 2 rfl ?_;refine EX (h:=k_ (h:=Aa (h:=?_)));refine A3 rfl (A8 (Y2 w.c) ?_);rintro r rfl;refine B4 (h:=?_);refine B9 (fun s=>∃cap,(LK w e).1.length≤cap∧s=⟨look [(1, .v (.int .i64 (LK w e).2.2))],⟨[Da w (.sl 8 ((LK w e).2.1.map Ah) none) (.bs 1 0 13 (LK w e).1.length cap),LB 13 CV (LK w e).1 cap],[]⟩⟩) ?_ ?_
 ·skip
  refine Nc (h:=?_);refine LY 0 26 200 8 rfl rfl (by repeat constructor) (by repeat constructor) (by repeat constructor) ?_;refine BU (fun m s=>∃(j:Nat) (X:List Itm×List Fnd×Int) (Y:AV) (Z:List (List AV)),j≤w.c.paths.length∧m=w.c.paths.length - j∧OB w e j=X∧X.1.length=j∧X.2.1.length=j∧((Y= .v (.slice none 0 0)∧Z=[]∧X.1=[])∨∃cap,X.1.length≤cap∧Y= .bs 1 0 13 X.1.length cap∧Z=[LB 13 CV X.1 cap])∧s=⟨look [(0, .bp 0 0),(1, .v (.int .i64 X.2.2)),(5, .sl 1 ((D6 w.c).map C7) none),(6, .v (.int .i64 (j:Int)))],⟨Da w (GY X.2.1) Y::Z,[(200,8,X.2.1.map Ah)]⟩⟩) (w.c.paths.length) ((wk 1 1)) (⟨0,([],[],e),_,_,BH _,rfl,rfl,rfl,rfl, .inl ⟨rfl,rfl,rfl⟩,rfl⟩) ?_;rintro m s ⟨j,X,Y,Z,hj,rfl,hX,hl1,hl2,hYZ,rfl⟩;refine Dq (h:=Dg (h:=Gm (h:=?_)));refine A4 rfl (fun hb1 hc1=>?_) (fun hb1 hc1=>?_)
  ·obtain⟨hlt,y,hy,hrow, -⟩:=C1 DE hc1;obtain⟨pj,hpj⟩:∃z,(D6 w.c)[j]?=some z:=⟨_,B2 (by omega)⟩;have hrow2:((D6 w.c).map C7)[j]?=some (C7 pj):=by rw[List.getElem?_map,hpj];rfl
   have hz:(w.c.paths.zip (D6 w.c))[j]?=some (y,pj):=List.getElem?_zip_eq_some.2 ⟨hy,hpj⟩;have hk:=lF (e:=e) hz;rw[hX]at hk;have hys:=hps y (Aj hy);refine C0 (h:=?_);refine B9 (fun s=>∃cap,X.1.length+1≤cap∧s=⟨look [(0, .bp 0 0),(1, .v (.int .i64 X.2.2)),(5, .sl 1 ((D6 w.c).map C7) none),(6, .v (.int .i64 (j:Int)))],⟨[Da w (GY X.2.1) (.bs 1 0 13 (X.1.length+1) cap),LB 13 CV (X.1++[JX y pj]) cap],[(200,8,X.2.1.map Ah)]⟩⟩) ?_ ?_
   ·rcases hYZ with⟨rfl,rfl,hX0⟩|⟨cap,hcp,rfl,rfl⟩
    ·skip
     refine BO ([(0,Da w (GY X.2.1) (.v (.slice none 0 0)))]) 24 (h:=AG 0 (h:=AG 1 (h:=BJ 2 (h:=AD 3 (h:=AD 4 (h:=A9 5 (h:=AG 6 (h:=BJ 7 (h:=AD 8 (h:=AD 9 (h:=A9 10 (h:=AG 11 (h:=De 12 (h:=A9 13 (h:=AG 14 (h:=AG 15 (h:=De 16 (h:=A9 17 (h:=?_)))))))))))))))))));refine By 18 rfl (fun _ hS=>H7 (y:= .agg (CV (JX y pj))) (Dn ⟨rfl,rfl⟩) (A7 _) ⟨rfl,rfl⟩) ?_;refine Jk 19 (h:=?_);refine c_ 20 rfl (Qe rfl rfl Ll (by omega) (by omega) ?_);rintro cap2 k bx2 hcp hs;rw[show CM (.agg (CV (JX y pj)))++List.replicate ((cap2 - 1) * 13) AV.any=LB 13 CV [JX y pj] cap2 from Xo B1 _ cap2]at hs;obtain⟨rfl,rfl⟩:k=1∧bx2=[_,_]:=hs.eq;refine o_ (h:=?_);refine BJ 21 (h:=AD 22 (h:=AD 23 (h:=?_)));refine B6 24 (h:=z_ (h:=?_));refine AT ?_;refine⟨_,⟨cap2,by rw[hX0];exact hcp,rfl⟩,?_⟩;rw[hX0];exact Bd 2 1 (by simp[AW,AQ,AP,Bm B1,BC,GY])
    skip
    refine BO ([(0,Da w (GY X.2.1) (.bs 1 0 13 X.1.length cap))]) 24 (h:=AG 0 (h:=AG 1 (h:=BJ 2 (h:=AD 3 (h:=AD 4 (h:=A9 5 (h:=AG 6 (h:=BJ 7 (h:=AD 8 (h:=AD 9 (h:=A9 10 (h:=AG 11 (h:=De 12 (h:=A9 13 (h:=AG 14 (h:=AG 15 (h:=De 16 (h:=A9 17 (h:=?_)))))))))))))))))));refine By 18 rfl (fun _ hS=>H7 (y:= .agg (CV (JX y pj))) (Dn ⟨rfl,rfl⟩) (A7 _) ⟨rfl,rfl⟩) ?_;refine Jk 19 (h:=?_);refine c_ 20 rfl (NZ rfl rfl rfl (by rw[RN B1 hcp];omega) Ll (by omega) (by omega) ?_ ?_)
    ·rintro hg row2 bx2 hs hb;obtain rfl:=Tw B1 hs hg;obtain rfl:bx2=[_,_]:=hb.one.2;refine o_ (h:=?_);refine BJ 21 (h:=AD 22 (h:=AD 23 (h:=?_)));refine B6 24 (h:=z_ (h:=?_));refine AT ?_;exact⟨_,⟨cap,hg,rfl⟩,Bd 2 1 (by simp[AW,AQ,AP,Bm B1,BC,GY])⟩
    rintro hg cap3 k bx2 hcp3 hs;rw[show((LB 13 CV X.1 cap).drop 0).take (X.1.length * 13)++CM (.agg (CV (JX y pj)))++List.replicate ((cap3 - (X.1.length+1)) * 13) AV.any=LB 13 CV (X.1++[JX y pj]) cap3 from Tv B1 X.1 _ cap cap3]at hs;obtain⟨rfl,rfl⟩:k=2∧bx2=[_,_,_]:=hs.eq;refine o_ (h:=?_);refine BJ 21 (h:=AD 22 (h:=AD 23 (h:=?_)));refine B6 24 (h:=z_ (h:=?_));refine AT ?_
    first|exact⟨_,⟨cap,hg,rfl⟩,Bd 2 1 (by simp[AW,AQ,AP,Bm B1,BC,GY])⟩|exact⟨_,⟨cap3,hcp3,rfl⟩,GE [0,2] YM (by decide) (.cons _ _ _ _ _ rfl rfl (.cons _ _ _ _ _ rfl (Lq B1 _ _ _) .nil)) (by repeat (first|exact SubK.nil|refine SubK.cons _ _ _ _ rfl (A7 _) ?_))⟩
   rintro s ⟨cap,hcp,rfl⟩;refine w_ (CY (h:=e_ (?_)));refine B9 (fun s=>∃(it:Itm) (F:Fnd) (e2:Int),Hm w.s.spc w.p.cwd (DT w.c) X (y,pj)=(X.1++[it],X.2.1++[F],e2)∧s=⟨look [(0, .bp 0 0),(1, .v (.int .i64 e2)),(5, .sl 1 ((D6 w.c).map C7) none),(6, .v (.int .i64 (j:Int))),(7, .bp 2 0)],⟨[Da w (GY X.2.1) (.bs 1 0 13 (X.1.length+1) cap),LB 13 CV (X.1++[it]) cap,Ah F],[(200,8,X.2.1.map Ah)]⟩⟩) ?_ ?_
   ·skip
    refine AX (h:=BN (h:=?_));refine A4 rfl (fun hb2 hc2=>?_) (fun hb2 hc2=>?_)
    ·have he0:X.2.2=0:=by simpa using hc2
     refine q_ (BO ([(0,Da w (GY X.2.1) (.bs 1 0 13 (X.1.length+1) cap)),(1,LB 13 CV (X.1++[JX y pj]) cap)]) 29 (h:=AG 0 (h:=BJ 1 (h:=AD 2 (h:=AD 3 (h:=A9 4 (h:=AG 5 (h:=BJ 6 (h:=AD 7 (h:=AD 8 (h:=A9 9 (h:=AG 10 (h:=BJ 11 (h:=AD 12 (h:=AD 13 (h:=A9 14 (h:=AG 15 (h:=De 16 (h:=A9 17 (h:=AG 18 (h:=BJ 19 (h:=AD 20 (h:=A9 21 (h:=?_))))))))))))))))))))))));refine c_ 22 rfl (A8 (jT w.c) ?_);rintro r rfl;refine o_ (h:=?_);refine c_ 23 rfl (A8 (YE w.s.spc w.p.cwd y (DT w.c) hsn hv hys) ?_);rintro r rfl;refine o_ (h:=AG 24 (h:=BF 25 (h:=BF 26 (h:=?_))));refine B6 27 (h:=BB 28 (h:=z_ (h:=t_ (w_ (m_ (h:=EG (h:=e_ (?_))))))));refine A4 rfl (fun hb3 hc3=>?_) (fun hb3 hc3=>?_)
     ·have hf0:(C2 w.s.spc w.p.cwd y (DT w.c)).2=0:=by simpa using hc3
      refine BO ([(0,Da w (GY X.2.1) (.bs 1 0 13 (X.1.length+1) cap)),(1,LB 13 CV (X.1++[JX y pj]) cap),(2,Ah (C2 w.s.spc w.p.cwd y (DT w.c)).1)]) 26 (h:=AG 0 (h:=BJ 1 (h:=AD 2 (h:=AD 3 (h:=A9 4 (h:=AG 5 (h:=AG 6 (h:=BJ 7 (h:=AD 8 (h:=AD 9 (h:=A9 10 (h:=AG 11 (h:=BJ 12 (h:=AD 13 (h:=AD 14 (h:=A9 15 (h:=AG 16 (h:=De 17 (h:=A9 18 (h:=AG 19 (h:=AG 20 (h:=De 21 (h:=A9 22 (h:=?_))))))))))))))))))))))));refine A9 23 (h:=?_);refine c_ 24 rfl (A8 (lC w.s.spc y pj (C2 w.s.spc w.p.cwd y (DT w.c)).1 hsb) ?_);rintro r rfl;refine o_ (h:=?_);refine By 25 rfl (fun _ hS=>Dx (m:=j) rfl rfl rfl (by omega) ⟨rfl,rfl⟩) ?_;refine H9 26 rfl (Ed rfl rfl rfl rfl rfl rfl (lD B1 hl1) (by repeat constructor) ?_);refine GJ (h:=?_);refine AT ?_;exact⟨_,⟨PM w.s.spc y pj (C2 w.s.spc w.p.cwd y (DT w.c)).1,(C2 w.s.spc w.p.cwd y (DT w.c)).1,(C2 w.s.spc w.p.cwd y (DT w.c)).2,(by rw[Hm,if_pos he0,if_pos hf0,hf0]),rfl⟩,Bd 3 1 (by simp[AW,AQ,AP,Bm B1,BC,GY,Ah])⟩
     have hf0:¬(C2 w.s.spc w.p.cwd y (DT w.c)).2=0:=by simpa using hc3
     refine BD (AT (?_))
     first|exact⟨_,⟨PM w.s.spc y pj (C2 w.s.spc w.p.cwd y (DT w.c)).1,(C2 w.s.spc w.p.cwd y (DT w.c)).1,(C2 w.s.spc w.p.cwd y (DT w.c)).2,(by rw[Hm,if_pos he0,if_pos hf0,hf0]),rfl⟩,Bd 3 1 (by simp[AW,AQ,AP,Bm B1,BC,GY,Ah])⟩|exact⟨_,⟨JX y pj,(C2 w.s.spc w.p.cwd y (DT w.c)).1,(C2 w.s.spc w.p.cwd y (DT w.c)).2,(by rw[Hm,if_pos he0,if_neg hf0]),rfl⟩,Bd 3 1 (by simp[AW,AQ,AP,Bm B1,BC,GY,Ah])⟩
    have he0:¬X.2.2=0:=by simpa using hc2
    refine BD (AT (?_))
    first|exact⟨_,⟨PM w.s.spc y pj (C2 w.s.spc w.p.cwd y (DT w.c)).1,(C2 w.s.spc w.p.cwd y (DT w.c)).1,(C2 w.s.spc w.p.cwd y (DT w.c)).2,(by rw[Hm,if_pos he0,if_pos hf0,hf0]),rfl⟩,Bd 3 1 (by simp[AW,AQ,AP,Bm B1,BC,GY,Ah])⟩|exact⟨_,⟨JX y pj,(C2 w.s.spc w.p.cwd y (DT w.c)).1,(C2 w.s.spc w.p.cwd y (DT w.c)).2,(by rw[Hm,if_pos he0,if_neg hf0]),rfl⟩,Bd 3 1 (by simp[AW,AQ,AP,Bm B1,BC,GY,Ah])⟩|exact⟨_,⟨JX y pj,G7,X.2.2,(by rw[Hm,if_neg he0]),rfl⟩,Bd 3 1 (by simp[AW,AQ,AP,Bm B1,BC,GY,Ah])⟩
   rintro s ⟨it,F,e2,hlk,rfl⟩;refine BO ([(0,Da w (GY X.2.1) (.bs 1 0 13 (X.1.length+1) cap)),(2,Ah F)]) 10 (h:=AG 0 (h:=AG 1 (h:=BJ 2 (h:=AD 3 (h:=A9 4 (h:=A9 5 (h:=Jk 6 (h:=?_))))))));refine c_ 7 rfl (EF rfl rfl rfl (by simp;omega) (by repeat constructor) ?_);refine o_ (h:=BJ 8 (h:=AD 9 (h:=?_)));refine B6 10 (h:=z_ (h:=BE (t_ (Aw (m_ (h:=Fc (h:=a_ (h:=C4 (AT (?_))))))))));refine⟨w.c.paths.length - (j+1),_,by omega,⟨j+1,(X.1++[it],X.2.1++[F],e2), .bs 1 0 13 (X.1++[it]).length cap,[LB 13 CV (X.1++[it]) cap],by omega,rfl,by rw[hk,hlk],by simp;omega,by simp;omega, .inr ⟨cap,by simpa using hcp,rfl,rfl⟩,rfl⟩,?_⟩;rw[List.length_append];unfold GY;rw[List.map_append];exact Bd 2 1 (by simp[AW,AQ,AP,Bm B1,BC])
  have e3:=CF DE hj hc1;rcases hYZ with⟨_,_,hX0⟩|⟨cap,hcp,rfl,rfl⟩
  ·exfalso;rw[hX0]at hl1;simp at hl1;omega
  have hfin:LK w e=X:=by rw[←hX];exact(lG (by rw[List.length_zip];omega)).symm
  refine Kh (h:=AT (?_));refine⟨_,⟨cap,by rw[hfin];exact hcp,rfl⟩,?_⟩;rw[hfin];exact(YN 0 rfl (lE w _ _ _)).trans (Bd 2 0 (by simp[AW,AQ,AP,Bm B1,BC]))
 rintro s ⟨cap,hcp,rfl⟩;refine EA (h:=?_);refine AU (r:= .v (.int .i64 (LK w e).2.2)) none (h4:=(by simp[AW,AQ,AP,Bm B1,BC])) (h5:=(A7 _)) (h6:=⟨rfl,cap,hcp,rfl,rfl⟩)
theorem OC(w:Wrk)(cap:Nat)(f:AR)(l:List Lc)(e:Int):ACall prog 202 [.bp 0 0, .agg (Al f), .sl 7 (l.map EZ) none, .v (.int .i64 e)] [WA w cap,IB w cap] (fun r b t=>t=[]∧r= .v (.int .i64 e)∧b=[WA (BZ w (f,l,e)).1 cap,IB (BZ w (f,l,e)).1 cap]):=by
 refine enter Tryz.func202 rfl rfl rfl rfl rfl 2 rfl ?_;refine Ef (h:=Bn (h:=BN (h:=?_)));refine A4 rfl (fun hb1 hc1=>?_) (fun hb1 hc1=>?_)
 ·refine AX (h:=l_ (h:=Gx (h:=f_ (h:=Ct (h:=EQ (h:=Gx (h:=Ct (h:=EA (h:=?_)))))))));refine AU (r:= .v (.int .i64 e)) none (h4:=(by simp[AW,AQ,AP,Bm B1,IB,Cl])) (h5:=(A7 _)) (h6:=⟨rfl,rfl,?_⟩);rw[BZ,if_pos hc1];rfl
 refine AF (EA (h:=?_));refine AU (r:= .v (.int .i64 e)) none (h4:=(by simp[AW,AQ,AP,Bm B1,BC,WA,IB,Cl])) (h5:=(A7 _)) (h6:=⟨rfl,rfl,?_⟩);rw[BZ,if_neg hc1];rfl
theorem U5(w:Wrk)(cap:Nat)(t:Tab)(e:Int):ACall prog 200 [.bp 0 0, .agg (Ai t), .v (.int .i64 e)] [WA w cap,IB w cap] (fun r b tk=>tk=[]∧r= .v (.int .i64 e)∧b=[WA (CB w (t,e)).1 cap,IB (CB w (t,e)).1 cap]):=by
 refine enter Tryz.func200 rfl rfl rfl rfl rfl 2 rfl ?_;refine Ef (h:=Bn (h:=BN (h:=?_)));refine A4 rfl (fun hb1 hc1=>?_) (fun hb1 hc1=>?_)
 ·refine Bt (h:=l_ (h:=Gx (h:=Ct (h:=EA (h:=?_)))));refine AU (r:= .v (.int .i64 e)) none (h4:=(by simp[AW,AQ,AP,Bm B1,IB,Cl])) (h5:=(A7 _)) (h6:=⟨rfl,rfl,?_⟩);rw[CB,if_pos hc1];rfl
 refine AF (EA (h:=?_));refine AU (r:= .v (.int .i64 e)) none (h4:=(by simp[AW,AQ,AP,Bm B1,BC,WA,IB,Cl])) (h5:=(A7 _)) (h6:=⟨rfl,rfl,?_⟩);rw[CB,if_neg hc1];rfl
end
section
variable {P:Program}{rs:List ResultVar}{n:Nat}{R:AV→List (List AV)→List CW→Prop}{s:AS}{xs:List AV}{r:AV}
theorem BS(g:Option Nat){tk':List CW}(h1:ResA P s rs xs:=by repeat (first|exact ResA.nil|(apply ResA.tmp;(focus exact rfl))|(apply ResA.cellN;(focus exact inferInstance);(focus exact rfl);(focus exact rfl);(focus exact rfl))|(apply ResA.cell1;(focus exact inferInstance);(focus exact rfl);(focus exact rfl);(focus exact rfl))))(h2:M9 s.h.tk g=some tk':=by rfl)(h3:AP n 1 (EE g (Fu xs))=true:=by rfl)(h4:AW n 0 (s.h.bx.take n)=true:=by simp[AW,AQ,AP,Bm B1,BC,WA,IB,Cl,Ah,AZ,AA,Ai,AY,Al])(h5:LeA (EE g (Fu xs)) r)(h6:R r (s.h.bx.take n) tk'):MA P rs n R .ret s:=QG g h1 h2 h3 h4 h5 h6
end
theorem Cm{f:Nat→Option AV}{bx:List (List AV)}{tk:List (Nat×Nat×List (List AV))}{l:List (Nat×AV)}{N:Dim}(n m:Nat){bx':List (List AV)}{tk':List (Nat×Nat×List (List AV))}(hn:Nat.ble N.ni n=true:=by rfl)(hb:bx.take n=bx':=by rfl)(ht:tk.take m=tk':=by rfl)(hbp:AW n m bx'=true:=by simp[AW,AQ,AP,Bm B1,BC,WA,IB,Cl,Ah,AZ,AA,Ai,AY,Al])(hl:Sub n m f l:=by repeat (first|exact Sub.nil|refine Sub.cons _ _ _ rfl rfl ?_|refine Sub.any _ _ ?_|refine Sub.sl _ _ _ _ _ rfl ?_|refine Sub.slnil _ _ _ rfl ?_)):Weak N ⟨f,⟨bx,tk⟩⟩ ⟨look l,⟨bx',tk'⟩⟩:=Ao n m hn hb ht hbp hl
theorem YO{α:Type}{l:List α}{i:Nat}{x:α}(h:l[i]?=some x)(f:α→α):l.modify i f=l.set i (f x):=by
 apply List.ext_getElem?;intro k;rw[List.getElem?_modify,List.getElem?_set];obtain⟨hl,rfl⟩:=Ab.1 h;by_cases e:i=k
 ·subst e;simp[hl]
 simp[e]
theorem lJ(w:Wrk)(R:Ex):(BZ w R).2=R.2.2:=by
 unfold BZ;split
 ·rename_i h;exact h.symm
 rfl
theorem LP(w:Wrk)(R:Tab×Int):(CB w R).2=R.2:=by
 unfold CB;split
 ·rename_i h;exact h.symm
 rfl
theorem Lu{w:Wrk}{R:Ex}(h:R.2.2=0):(BZ w R).1={w with s:=⟨⟨R.1,w.s.spc.mounts⟩,w.s.tab⟩,r:={w.r with changes:=R.2.1}}:=by
 unfold BZ;rw[if_pos h]
theorem RQ{w:Wrk}{R:Ex}(h:¬R.2.2=0):(BZ w R).1=w:=by
 unfold BZ;rw[if_neg h]
theorem YP{f:AR}{dir:AB}{name:AE}{n:Nod}(h0:(Ez f dir name n).2.2=0):∃c,(Ez f dir name n).2.1=[c]:=by
 unfold Ez at h0 ⊢;split at h0
 ·rename_i c;exact absurd h0 c
 rename_i c1;rw[if_neg c1];split at h0
 ·exact absurd h0 (by decide)
 rename_i c2;rw[if_neg c2];split at h0
 ·exact absurd h0 (by decide)
 rename_i c3;rw[if_neg c3]
 cases e:Fj f dir.1 with
 |none=>rw[e]at h0;simp at h0
 |some d=>
   rw[e]at h0;simp only at h0 ⊢;split at h0
   ·exact absurd h0 (by decide)
   rename_i c4;rw[if_neg c4];exact⟨_,rfl⟩
theorem lK{w:Wrk}{i:Nat}{n:Nod}(h:(Cw w i n).2=0):∃c,(Cw w i n).1.r.changes=[c]:=by
 unfold Cw at h ⊢;split at h
 ·rename_i h0;obtain⟨c,hc⟩:=YP h0;rw[if_pos h0,Lu h0];exact⟨c,hc⟩
 rename_i h0;exact absurd h h0
theorem lL(w:Wrk)(i:Nat)(n:Nod):(Cw w i n).1.s.tab=w.s.tab∧(Cw w i n).1.p=w.p∧(Cw w i n).1.c=w.c:=by
 unfold Cw;split
 ·rename_i h0;rw[Lu h0];exact⟨rfl,rfl,rfl⟩
 exact⟨rfl,rfl,rfl⟩
section
theorem U6(w:Wrk)(cap i:Nat)(a:AB)(x:Itm)(hs:FlsB w.s.spc.files)(hx:w.r.items[i]?=some x):ACall prog 203 [.bp 0 0, .v (.int .i64 (i:Int)), .agg (AA a)] [WA w cap,IB w cap] (fun r b t=>t=[]∧r= .tup []∧b=[WA (KU w i a) cap,IB (KU w i a) cap]):=by
 have hil:=(Ab.1 hx).1;have hst:∀y:Itm,(w.r.items.set i y)[i]?=some y:=fun y=>by rw[List.getElem?_set_self hil]
 have hfin:w.r.items.modify i (Xl (Ac w.s.spc.files a) a)=w.r.items.set i {x with role:=2,file:=a,kind:=(Ac w.s.spc.files a).kind,mode:=(Ac w.s.spc.files a).mode,uid:=(Ac w.s.spc.files a).uid,gid:=(Ac w.s.spc.files a).gid}:=by rw[YO hx];rfl
 refine enter Tryz.func203 rfl rfl rfl rfl rfl 2 rfl ?_;refine Ef (h:=e_ (?_));refine B9 (fun s=>s=⟨look [(0, .bp 0 0),(1, .v (.int .i64 (i:Int))),(5, .bp 2 0),(6, .bp 3 0)],⟨[WA w cap,IB w cap,AA a,AZ (Ac w.s.spc.files a)],[]⟩⟩) ?_ ?_
 ·skip
  refine BO ([(0,WA w cap),(1,IB w cap),(2,AA a)]) 14 (h:=AG 0 (h:=BJ 1 (h:=AD 2 (h:=AD 3 (h:=AD 4 (h:=A9 5 (h:=A9 6 (h:=?_))))))));refine Fb 7 11 rfl rfl ?_ ?_
  ·refine A8 (FF w.s.spc.files a hs) ?_;rintro r rfl;refine o_ (h:=?_);refine AG 8 (h:=BF 9 (h:=BF 10 (h:=?_)));refine c_ 11 rfl (CR (by repeat constructor) ?_);refine o_ (h:=?_);refine B6 12 (h:=BB 13 (h:=z_ (h:=?_)));refine AT ?_;exact⟨_,rfl,Cm 4 0⟩
  refine CR (by repeat constructor) ?_;refine o_ (h:=?_);refine c_ 7 rfl (A8 (FF w.s.spc.files a hs) ?_);rintro r rfl;refine o_ (h:=AG 8 (h:=BF 9 (h:=BF 10 (h:=?_))));refine B6 12 (h:=BB 13 (h:=z_ (h:=?_)));refine AT ?_;exact⟨_,rfl,Cm 4 0⟩
 rintro s rfl;refine AX (h:=Dg (h:=m_ (h:=?_)));refine A3 rfl (Dx (m:=i) rfl rfl rfl hil ?_);refine a_ (h:=e_ (BO ([(0,WA w cap),(2,AA a),(3,AZ (Ac w.s.spc.files a))]) 33 (h:=AG 0 (h:=AG 1 (h:=AG 2 (h:=AG 3 (h:=AG 4 (h:=AG 5 (h:=A9 6 (h:=AD 7 (h:=A9 8 (h:=AD 9 (h:=A9 10 (h:=AD 11 (h:=A9 12 (h:=AD 13 (h:=A9 14 (h:=BJ 15 (h:=AD 16 (h:=?_))))))))))))))))))));refine H9 17 rfl (Ed rfl rfl rfl rfl rfl rfl (Lr B1 (x':={x with role:=2}) hx (by repeat constructor) (List.cons_ne_nil _ _)) (by repeat constructor) ?_);refine o_ (h:=BJ 18 (h:=AD 19 (h:=?_)));refine H9 20 rfl (Ed rfl rfl rfl rfl rfl rfl (Lr B1 (x':={x with role:=2,file:=a}) (hst _) (by repeat constructor) (List.cons_ne_nil _ _)) (by repeat constructor) ?_);refine o_ (h:=BJ 21 (h:=AD 22 (h:=?_)));refine H9 23 rfl (Ed rfl rfl rfl rfl rfl rfl (Lr B1 (x':={x with role:=2,file:=a,kind:=(Ac w.s.spc.files a).kind}) (by rw[List.set_set];exact hst _) (by repeat constructor) (List.cons_ne_nil _ _)) (by repeat constructor) ?_);refine o_ (h:=BJ 24 (h:=AD 25 (h:=?_)));refine H9 26 rfl (Ed rfl rfl rfl rfl rfl rfl (Lr B1 (x':={x with role:=2,file:=a,kind:=(Ac w.s.spc.files a).kind,mode:=(Ac w.s.spc.files a).mode}) (by rw[List.set_set,List.set_set];exact hst _) (by repeat constructor) (List.cons_ne_nil _ _)) (by repeat constructor) ?_);refine o_ (h:=BJ 27 (h:=AD 28 (h:=?_)));refine H9 29 rfl (Ed rfl rfl rfl rfl rfl rfl (Lr B1 (x':={x with role:=2,file:=a,kind:=(Ac w.s.spc.files a).kind,mode:=(Ac w.s.spc.files a).mode,uid:=(Ac w.s.spc.files a).uid}) (by rw[List.set_set,List.set_set,List.set_set];exact hst _) (by repeat constructor) (List.cons_ne_nil _ _)) (by repeat constructor) ?_);refine o_ (h:=BJ 30 (h:=AD 31 (h:=?_)));refine H9 32 rfl (Ed rfl rfl rfl rfl rfl rfl (Lr B1 (x':={x with role:=2,file:=a,kind:=(Ac w.s.spc.files a).kind,mode:=(Ac w.s.spc.files a).mode,uid:=(Ac w.s.spc.files a).uid,gid:=(Ac w.s.spc.files a).gid}) (by rw[List.set_set,List.set_set,List.set_set,List.set_set];exact hst _) (by repeat constructor) (List.cons_ne_nil _ _)) (by repeat constructor) ?_);refine GJ (h:=?_);refine Qf (r:= .tup []) none (h4:=(by simp[AW,AQ,AP,Bm B1,BC,WA,Cl])) (h5:=(A7 _)) (h6:=⟨rfl,rfl,?_⟩);rw[List.set_set,List.set_set,List.set_set,List.set_set,List.set_set];unfold WA IB KU;simp only[hfin,List.length_set];rfl
theorem U7(w:Wrk)(cap i:Nat)(n:Nod)(f:Fnd)(x:Itm)(hv:FlsV w.s.spc.files)(hf:w.found[i]?=some f)(hx:w.r.items[i]?=some x)(hn:f.name.size≤100000)(ht:n.target.size≤100000)(hne:n.entries=[]):ACall prog 198 [.bp 0 0, .v (.int .i64 (i:Int)), .agg (AZ n)] [WA w cap,IB w cap] (fun r b t=>t=[]∧r= .v (.int .i64 (Cw w i n).2)∧b=[WA (Cw w i n).1 cap,IB (Cw w i n).1 cap]):=by
 have hrow:(w.found.map Ah)[i]?=some (Ah f):=by rw[List.getElem?_map,hf];rfl
 have hfn:As w i=f:=by unfold As;rw[hf];rfl
 have hmk:FZ w i n=Ez w.s.spc.files f.dir f.name (PN w n):=by unfold FZ;rw[hfn]
 have hok:=XB hv f.dir f.name (PN w n);rw[←hmk]at hok;have hcall:AFn prog 177 [.agg (Al w.s.spc.files), .agg (AA f.dir), .v (.string f.name), .agg (AZ (PN w n))] (fun r=>r=Cd (FZ w i n)):=by rw[hmk];exact gB _ _ _ _ hv hn ht
 refine enter Tryz.func198 rfl rfl rfl rfl rfl 2 rfl ?_;refine w_ (b_ (h:=a_ (h:=e_ (q_ (BO ([(0,WA w cap),(1,IB w cap)]) 14 (h:=AG 0 (h:=BJ 1 (h:=AD 2 (h:=AD 3 (h:=A9 4 (h:=AG 5 (h:=BJ 6 (h:=AD 7 (h:=AD 8 (h:=A9 9 (h:=AD 10 (h:=?_)))))))))))))))));refine B6 11 (h:=AD 12 (h:=?_));refine B6 13 (h:=z_ (h:=t_ (q_ (BO ([(0,WA w cap),(1,IB w cap),(2,AZ (PN w n))]) 28 (h:=AG 0 (h:=AG 1 (h:=BJ 2 (h:=AD 3 (h:=AD 4 (h:=AD 5 (h:=A9 6 (h:=AG 7 (h:=BJ 8 (h:=AD 9 (h:=A9 10 (h:=AG 11 (h:=De 12 (h:=AD 13 (h:=A9 14 (h:=AG 15 (h:=BJ 16 (h:=AD 17 (h:=A9 18 (h:=?_))))))))))))))))))))))));refine AG 19 (h:=De 20 (h:=AD 21 (h:=A9 22 (h:=A9 23 (h:=?_)))));refine c_ 24 rfl (A8 (hcall) ?_);rintro r rfl;refine o_ (h:=BF 25 (h:=BF 26 (h:=BF 27 (h:=?_))));refine c_ 28 rfl (Bg [0,1] rfl (.cons _ _ _ _ _ rfl (A7 _) (.cons _ _ _ _ _ rfl (A7 _) (.cons _ _ _ _ _ rfl (A7 _) (.cons _ _ _ _ _ rfl (A7 _) .nil)))) (by decide) (.cons _ _ _ _ _ rfl rfl (.cons _ _ _ _ _ rfl (Db B1 _ _ _) .nil)) (OC w cap (FZ w i n).1 (FZ w i n).2.1 (FZ w i n).2.2) ?_);rintro r bc tc ⟨rfl,rfl,rfl⟩;refine⟨rfl,_,E3 rfl (BZ w (FZ w i n)).1 cap,?_⟩;refine o_ (h:=?_);refine c_ 29 rfl (Hr rfl ?_);refine GJ (h:=t_ (Bk (h:=BN (h:=?_))));refine A4 rfl (fun hb1 hc1=>?_) (fun hb1 hc1=>?_)
 ·have h0:(FZ w i n).2.2=0:=hc1;obtain⟨c,hc⟩:∃c,(FZ w i n).2.1=[c]:=by rw[hmk]at h0 ⊢;exact YP h0
  have hch:(BZ w (FZ w i n)).1.r.changes=[c]:=by rw[Lu h0];exact hc
  have hx1:(BZ w (FZ w i n)).1.r.items[i]?=some x:=by rw[Lu h0];exact hx
  have hfb:FlsB (BZ w (FZ w i n)).1.s.spc.files:=by rw[Lu h0];exact(hok h0).1.b
  have hrow2:((BZ w (FZ w i n)).1.r.changes.map EZ)[0]?=some (EZ c):=by rw[hch];rfl
  refine EQ (h:=m_ (h:=Dg (h:=?_)));refine A3 rfl (D7 (n:=0) rfl rfl rfl hrow2 ?_);refine Aa (h:=?_);refine A3 rfl (Bg [0,1] rfl (.cons _ _ _ _ _ rfl (A7 _) (.cons _ _ _ _ _ rfl (A7 _) (.cons _ _ _ _ _ rfl (A7 _) .nil))) (by decide) (.cons _ _ _ _ _ rfl rfl (.cons _ _ _ _ _ rfl (Db B1 _ _ _) .nil)) (U6 (BZ w (FZ w i n)).1 cap i c.2.2.2 x hfb hx1) ?_);rintro r bc tc ⟨rfl,rfl,rfl⟩;refine⟨rfl,_,E3 rfl (KU (BZ w (FZ w i n)).1 i c.2.2.2) cap,?_⟩;refine e_ (EA (h:=?_));refine BS (r:= .v (.int .i64 (Cw w i n).2)) none (h5:=(by rw[Cw,if_pos h0];exact LeA.of_eq (vi h0))) (h6:=⟨rfl,rfl,?_⟩);rw[Cw,if_pos h0,hc];rfl
 have h0:¬(FZ w i n).2.2=0:=hc1;refine AF (EA (h:=?_));refine BS (r:= .v (.int .i64 (Cw w i n).2)) none (h5:=(by rw[Cw,if_neg h0];exact A7 _)) (h6:=⟨rfl,rfl,?_⟩);rw[Cw,if_neg h0,RQ h0];rfl
theorem lM(w:Wrk)(cap:Nat)(f:Fnd)(x:Itm)(hv:SpcV w.s.spc)(hm:w.s.spc.mounts.length≤1000)(htb:TabB w.s.tab)(hf:w.found[0]?=some f)(hx:w.r.items[0]?=some x)(hn:f.name.size≤100000):ACall prog 145 [.bp 0 0] [WA w cap,IB w cap] (fun r b t=>t=[]∧r= .v (.int .i64 (Ck w).2)∧b=[WA (Ck w).1 cap,IB (Ck w).1 cap]):=by
 have hsb:=hv.b hm;have hrow:(w.found.map Ah)[0]?=some (Ah f):=by rw[List.getElem?_map,hf];rfl
 have hfn:As w 0=f:=by unfold As;rw[hf];rfl
 refine enter Tryz.func145 rfl rfl rfl rfl rfl 2 rfl ?_;refine w_ (a_ (h:=e_ (q_ (BO ([(0,WA w cap),(1,IB w cap)]) 15 (h:=AG 0 (h:=BJ 1 (h:=AD 2 (h:=A9 3 (h:=De 4 (h:=A9 5 (h:=AG 6 (h:=BJ 7 (h:=AD 8 (h:=AD 9 (h:=?_)))))))))))))));refine By 10 rfl (fun _ hS=>Bw (len:=4) (sz:=1) (n:=0) (by kernel_rfl) rfl rfl rfl rfl ⟨rfl,rfl⟩) ?_;refine A9 11 (h:=?_);refine c_ 12 rfl (CR (by repeat constructor) ?_);refine o_ (h:=?_);refine B6 13 (h:=BB 14 (h:=z_ (h:=t_ (?_))));refine B9 (fun s=>∃(w2:Wrk) (F2:Fnd),Ck w=Kv w2 F2.file∧TabB w2.s.tab∧s=⟨look [(0, .bp 0 0),(3, .bp 2 0),(4, .v (.int .i64 w2.c.a0))],⟨[WA w2 cap,IB w2 cap,Ah F2],[]⟩⟩) ?_ ?_
 ·skip
  refine B0 (h:=e_ (?_));refine A4 rfl (fun hb1 hc1=>?_) (fun hb1 hc1=>?_)
  ·have hex:(As w 0).ex=true:=by rw[hfn];exact hc1
   refine B9 (fun s=>s=⟨look [(0, .bp 0 0),(3, .bp 2 0),(4, .v (.int .i64 w.c.a0)),(5, .bp 3 0)],⟨[WA w cap,IB w cap,Ah f,AZ (Ac w.s.spc.files f.file)],[]⟩⟩) ?_ ?_
   ·skip
    refine BO ([(0,WA w cap),(1,IB w cap),(2,Ah f)]) 15 (h:=AG 0 (h:=BJ 1 (h:=AD 2 (h:=AD 3 (h:=AD 4 (h:=A9 5 (h:=AD 6 (h:=A9 7 (h:=?_)))))))));refine Fb 8 12 rfl rfl ?_ ?_
    ·refine A8 (FF w.s.spc.files f.file hsb.files) ?_;rintro r rfl;refine o_ (h:=?_);refine AG 9 (h:=BF 10 (h:=BF 11 (h:=?_)));refine c_ 12 rfl (CR (by repeat constructor) ?_);refine o_ (h:=?_);refine B6 13 (h:=BB 14 (h:=z_ (h:=?_)));refine AT ?_;exact⟨_,rfl,Cm 4 0⟩
    refine CR (by repeat constructor) ?_;refine o_ (h:=?_);refine c_ 8 rfl (A8 (FF w.s.spc.files f.file hsb.files) ?_);rintro r rfl;refine o_ (h:=AG 9 (h:=BF 10 (h:=BF 11 (h:=?_))));refine B6 13 (h:=BB 14 (h:=z_ (h:=?_)));refine AT ?_;exact⟨_,rfl,Cm 4 0⟩
   rintro s rfl;refine DG (h:=?_);refine B9 (fun s=>s=⟨look [(0, .bp 0 0),(3, .bp 2 0),(4, .v (.int .i64 w.c.a0)),(5, .bp 3 0),(7, .v (.int .i64 (if C9 w.c.a0 1=true then 4 else 0)))],⟨[WA w cap,IB w cap,Ah f,AZ (Ac w.s.spc.files f.file)],[]⟩⟩) ?_ ?_
   ·skip
    refine AX (h:=Eu (h:=Bo (h:=?_)));refine A4 rfl (fun hb2 hc2=>?_) (fun hb2 hc2=>?_)
    ·have k0:C9 w.c.a0 1=true:=by simpa[C9]using hc2
     refine Qi (h:=?_);refine⟨_,rfl,?_⟩
     (rw[if_pos k0];exact Cm 4 0)
    have k0:¬C9 w.c.a0 1=true:=by simpa[C9]using hc2
    refine BD (AT (?_));refine⟨_,rfl,?_⟩
    first|(rw[if_pos k0];exact Cm 4 0)|(rw[if_neg k0];exact Cm 4 0)
   rintro s rfl;refine B9 (fun s=>s=⟨look [(0, .bp 0 0),(3, .bp 2 0),(4, .v (.int .i64 w.c.a0)),(5, .bp 3 0),(7, .v (.int .i64 (Lp w.c.a0)))],⟨[WA w cap,IB w cap,Ah f,AZ (Ac w.s.spc.files f.file)],[]⟩⟩) ?_ ?_
   ·skip
    refine AX (h:=Eu (h:=Bo (h:=?_)));refine A4 rfl (fun hb3 hc3=>?_) (fun hb3 hc3=>?_)
    ·have k00:C9 w.c.a0 18=true:=by simpa[C9]using hc3
     refine Qi (h:=?_);refine⟨_,rfl,?_⟩;unfold Lp
     (rw[if_pos k00];exact Cm 4 0)
    have k00:¬C9 w.c.a0 18=true:=by simpa[C9]using hc3
    refine BD (AT (?_));refine⟨_,rfl,?_⟩;unfold Lp
    first|(rw[if_pos k00];exact Cm 4 0)|(rw[if_neg k00,Int.add_zero];exact Cm 4 0)
   rintro s rfl;refine BK (?_);refine B9 (fun s=>s=⟨look [(0, .bp 0 0),(3, .bp 2 0),(4, .v (.int .i64 w.c.a0)),(5, .bp 3 0),(7, .v (.int .i64 (Lp w.c.a0))),(48, .v (.bool (C9 w.c.a0 4&&C9 w.c.a0 8)))],⟨[WA w cap,IB w cap,Ah f,AZ (Ac w.s.spc.files f.file)],[]⟩⟩) ?_ ?_
   ·skip
    refine Bt (h:=Eu (h:=FP (h:=?_)));refine AJ true rfl rfl (fun hb4 hc4=>?_) (fun hb4 hc4=>?_)
    ·refine m_ (h:=Eu (h:=HA (h:=CZ (h:=Ch (h:=?_)))));exact⟨_,rfl,Ao 4 0 rfl rfl rfl (by simp[AW,AQ,AP,Bm B1,BC,WA,IB,Cl,Ah,AZ]) (by repeat (first|exact Sub.nil|refine Ap rfl rfl ?_|refine At ?_|refine Au rfl ?_|refine Av rfl ?_|(apply Sub.of;(focus exact rfl);(focus exact LeA.of_eq (vb (by simp[C9, *])));(focus exact rfl))))⟩
    refine D8 (h:=Ch (h:=?_));exact⟨_,rfl,Ao 4 0 rfl rfl rfl (by simp[AW,AQ,AP,Bm B1,BC,WA,IB,Cl,Ah,AZ]) (by repeat (first|exact Sub.nil|refine Ap rfl rfl ?_|refine At ?_|refine Au rfl ?_|refine Av rfl ?_|(apply Sub.of;(focus exact rfl);(focus exact LeA.of_eq (vb (by simp[C9, *])));(focus exact rfl))))⟩
   rintro s rfl;refine A4 rfl (fun hb5 hc5=>?_) (fun hb5 hc5=>?_)
   ·have k1:C9 w.c.a0 4=true∧C9 w.c.a0 8=true:=by simpa using hc5
    refine Bh (h:=?_);refine BS (r:= .v (.int .i64 (Ck w).2)) none (h5:=(by rw[Ck,if_pos hex,if_pos k1];exact A7 _)) (h6:=⟨rfl,rfl,?_⟩);rw[Ck,if_pos hex,if_pos k1];rfl
   have k1:¬(C9 w.c.a0 4=true∧C9 w.c.a0 8=true):=by simpa using hc5
   refine B0 (h:=EW (h:=?_));refine A4 rfl (fun hb6 hc6=>?_) (fun hb6 hc6=>?_)
   ·have k2:(Ac w.s.spc.files (As w 0).file).kind=3:=by rw[hfn];exact hc6
    refine Bh (h:=?_);refine BS (r:= .v (.int .i64 (Ck w).2)) none (h5:=(by rw[Ck,if_pos hex,if_neg k1,if_pos k2];exact A7 _)) (h6:=⟨rfl,rfl,?_⟩);rw[Ck,if_pos hex,if_neg k1,if_pos k2];rfl
   have k2:¬(Ac w.s.spc.files (As w 0).file).kind=3:=by rw[hfn];exact hc6
   refine B9 (fun s=>s=⟨look [(0, .bp 0 0),(3, .bp 2 0),(4, .v (.int .i64 w.c.a0)),(5, .bp 3 0),(7, .v (.int .i64 (Lp w.c.a0))),(61, .v (.bool (decide ((Ac w.s.spc.files f.file).kind=2)&&C9 w.c.a0 22)))],⟨[WA w cap,IB w cap,Ah f,AZ (Ac w.s.spc.files f.file)],[]⟩⟩) ?_ ?_
   ·skip
    refine Aw (Cs (h:=m_ (h:=?_)));refine AJ true rfl rfl (fun hb7 hc7=>?_) (fun hb7 hc7=>?_)
    ·refine m_ (h:=Eu (h:=HA (h:=CZ (h:=Ch (h:=?_)))));exact⟨_,rfl,Ao 4 0 rfl rfl rfl (by simp[AW,AQ,AP,Bm B1,BC,WA,IB,Cl,Ah,AZ]) (by repeat (first|exact Sub.nil|refine Ap rfl rfl ?_|refine At ?_|refine Au rfl ?_|refine Av rfl ?_|(apply Sub.of;(focus exact rfl);(focus exact LeA.of_eq (vb (by simp[C9, *])));(focus exact rfl))))⟩
    refine D8 (h:=Ch (h:=?_));exact⟨_,rfl,Ao 4 0 rfl rfl rfl (by simp[AW,AQ,AP,Bm B1,BC,WA,IB,Cl,Ah,AZ]) (by repeat (first|exact Sub.nil|refine Ap rfl rfl ?_|refine At ?_|refine Au rfl ?_|refine Av rfl ?_|(apply Sub.of;(focus exact rfl);(focus exact LeA.of_eq (vb (by simp[C9, *])));(focus exact rfl))))⟩
   rintro s rfl;refine A4 rfl (fun hb8 hc8=>?_) (fun hb8 hc8=>?_)
   ·have k3:(Ac w.s.spc.files (As w 0).file).kind=2∧C9 w.c.a0 22=true:=by rw[hfn];simpa using hc8
    refine Bh (h:=?_);refine BS (r:= .v (.int .i64 (Ck w).2)) none (h5:=(by rw[Ck,if_pos hex,if_neg k1,if_neg k2,if_pos k3];exact A7 _)) (h6:=⟨rfl,rfl,?_⟩);rw[Ck,if_pos hex,if_neg k1,if_neg k2,if_pos k3];rfl
   have k3:¬((Ac w.s.spc.files (As w 0).file).kind=2∧C9 w.c.a0 22=true):=by rw[hfn];simpa using hc8
   refine AX (h:=Fx (h:=?_));refine A3 rfl (Dm 1 rfl (.cons _ _ _ _ _ rfl (LeA.of_eq rfl) (.cons _ _ _ _ _ rfl (A7 _) (.cons _ _ _ _ _ rfl (A7 _) .nil))) (Kx w .any f.file (Lp w.c.a0) hsb) ?_);rintro r rfl;refine⟨rfl,?_⟩;refine DP (h:=B4 (h:=?_));refine A4 rfl (fun hb9 hc9=>?_) (fun hb9 hc9=>?_)
   ·have k4:CA w (As w 0).file (Lp w.c.a0)=false:=by rw[hfn];simpa using hc9
    refine Bh (h:=?_);refine BS (r:= .v (.int .i64 (Ck w).2)) none (h5:=(by rw[Ck,if_pos hex,if_neg k1,if_neg k2,if_neg k3,if_pos k4];exact A7 _)) (h6:=⟨rfl,rfl,?_⟩);rw[Ck,if_pos hex,if_neg k1,if_neg k2,if_neg k3,if_pos k4];rfl
   have k4:¬CA w (As w 0).file (Lp w.c.a0)=false:=by rw[hfn];simpa using hc9
   refine BD (BE (AT (?_)));exact⟨_,⟨w,f,(by rw[Ck,if_pos hex,if_neg k1,if_neg k2,if_neg k3,if_neg k4,hfn]),htb,rfl⟩,Cm 3 0⟩
  have hex:¬(As w 0).ex=true:=by rw[hfn];simpa using hc1
  refine q_ (BK (AX (h:=Eu (h:=EW (h:=?_)))));refine A4 rfl (fun hb10 hc10=>?_) (fun hb10 hc10=>?_)
  ·have k1:C9 w.c.a0 4=false:=by simp only[C9];simpa using hc10
   refine Bh (h:=Ba (?_));refine BS (r:= .v (.int .i64 (Ck w).2)) none (h5:=(by rw[Ck,if_neg hex,if_pos k1];exact A7 _)) (h6:=⟨rfl,rfl,?_⟩);rw[Ck,if_neg hex,if_pos k1];rfl
  have k1:¬C9 w.c.a0 4=false:=by simp only[C9];simpa using hc10
  refine B0 (h:=B4 (h:=?_));refine A4 rfl (fun hb11 hc11=>?_) (fun hb11 hc11=>?_)
  ·have k2:(As w 0).slash=true:=by rw[hfn];exact hc11
   refine Bh (h:=Ba (?_));refine BS (r:= .v (.int .i64 (Ck w).2)) none (h5:=(by rw[Ck,if_neg hex,if_neg k1,if_pos k2];exact A7 _)) (h6:=⟨rfl,rfl,?_⟩);rw[Ck,if_neg hex,if_neg k1,if_pos k2];rfl
  have k2:¬(As w 0).slash=true:=by rw[hfn];simpa using hc11
  refine AX (h:=Aa (h:=?_));refine A3 rfl (Dm 1 rfl (.cons _ _ _ _ _ rfl (LeA.of_eq rfl) (.cons _ _ _ _ _ rfl (A7 _) (.cons _ _ _ _ _ rfl (A7 _) .nil))) (Kx w .any f.dir 2 hsb) ?_);rintro r rfl;refine⟨rfl,?_⟩;refine DP (h:=B4 (h:=?_));refine A4 rfl (fun hb12 hc12=>?_) (fun hb12 hc12=>?_)
  ·have k3:CA w (As w 0).dir 2=false:=by rw[hfn];simpa using hc12
   refine Bh (h:=Ba (?_));refine BS (r:= .v (.int .i64 (Ck w).2)) none (h5:=(by rw[Ck,if_neg hex,if_neg k1,if_neg k2,if_pos k3];exact A7 _)) (h6:=⟨rfl,rfl,?_⟩);rw[Ck,if_neg hex,if_neg k1,if_neg k2,if_pos k3];rfl
  have k3:¬CA w (As w 0).dir 2=false:=by rw[hfn];simpa using hc12
  refine BD (BE (t_ (Dq (h:=Gx (h:=f_ (h:=?_))))));refine A3 rfl (Bw (len:=4) (sz:=1) (n:=1) (by kernel_rfl) rfl rfl rfl rfl ?_);refine l_ (h:=?_);refine A3 rfl (Gi (y:= .agg (AZ (KV w.c.a1))) (Dn ⟨rfl,rfl⟩) ?_);refine A3 rfl (Bg [0,1] rfl (.cons _ _ _ _ _ rfl (A7 _) (.cons _ _ _ _ _ rfl (A7 _) (.cons _ _ _ _ _ rfl (A7 _) .nil))) (by decide) (.cons _ _ _ _ _ rfl rfl (.cons _ _ _ _ _ rfl (Db B1 _ _ _) .nil)) (U7 w cap 0 (KV w.c.a1) f x hv.files hf hx hn (BH _) rfl) ?_);rintro r bc tc ⟨rfl,rfl,rfl⟩;refine⟨rfl,_,E3 rfl (Cw w 0 (KV w.c.a1)).1 cap,?_⟩;refine Bu (h:=Bo (h:=?_));refine A4 rfl (fun hb13 hc13=>?_) (fun hb13 hc13=>?_)
  ·have k4:(Cw w 0 (KV w.c.a1)).2≠0:=by simpa using hc13
   refine AX (h:=E8 (h:=Ba (?_)));refine BS (r:= .v (.int .i64 (Ck w).2)) none (h5:=(by rw[Ck,if_neg hex,if_neg k1,if_neg k2,if_neg k3,if_pos k4];exact A7 _)) (h6:=⟨rfl,rfl,?_⟩);rw[Ck,if_neg hex,if_neg k1,if_neg k2,if_neg k3,if_pos k4];rfl
  have k4:(Cw w 0 (KV w.c.a1)).2=0:=by simpa using hc13
  obtain⟨c,hc⟩:=lK k4;have hrow2:((Cw w 0 (KV w.c.a1)).1.r.changes.map EZ)[0]?=some (EZ c):=by rw[hc];rfl
  refine AF (Bt (h:=Dg (h:=?_)));refine A3 rfl (D7 (n:=0) rfl rfl rfl hrow2 ?_);refine Aa (h:=CS (h:=DC (h:=?_)))
  first|exact⟨_,⟨w,f,(by rw[Ck,if_pos hex,if_neg k1,if_neg k2,if_neg k3,if_neg k4,hfn]),htb,rfl⟩,Cm 3 0⟩|(obtain⟨q1,q2,q3⟩:=lL w 0 (KV w.c.a1);exact⟨_,⟨(Cw w 0 (KV w.c.a1)).1,{f with file:=c.2.2.2},(by rw[Ck,if_neg hex,if_neg k1,if_neg k2,if_neg k3,if_neg (by simp[k4]),hc];rfl),by rw[q1];exact htb,rfl⟩,by rw[q3];exact Cm 3 0⟩)
 rintro s ⟨w2,F2,hop,htb2,rfl⟩;refine B9 (fun s=>s=⟨look [(0, .bp 0 0),(9, .bp 3 0),(10, .v (.int .i64 (GA w2.s.tab w2.p.pid F2.file w2.c.a0).2.1)),(11, .v (.int .i64 (GA w2.s.tab w2.p.pid F2.file w2.c.a0).2.2))],⟨[WA w2 cap,IB w2 cap,Ah F2,Ai (GA w2.s.tab w2.p.pid F2.file w2.c.a0).1],[]⟩⟩) ?_ ?_
 ·skip
  refine BO ([(0,WA w2 cap),(1,IB w2 cap),(2,Ah F2)]) 22 (h:=AG 0 (h:=BJ 1 (h:=AD 2 (h:=AD 3 (h:=A9 4 (h:=AG 5 (h:=BJ 6 (h:=AD 7 (h:=AD 8 (h:=A9 9 (h:=AD 10 (h:=A9 11 (h:=AG 12 (h:=?_))))))))))))));refine Fb 13 18 rfl rfl ?_ ?_
  ·refine A8 (YJ w2.s.tab w2.p.pid F2.file w2.c.a0 htb2) ?_;rintro r rfl;refine o_ (h:=?_);refine AG 14 (h:=BF 15 (h:=BF 16 (h:=BF 17 (h:=?_))));refine c_ 18 rfl (CR (by repeat constructor) ?_);refine o_ (h:=?_);refine B6 19 (h:=BB 20 (h:=BB 21 (h:=z_ (h:=?_))));refine AT ?_;exact⟨_,rfl,Cm 4 0⟩
  refine CR (by repeat constructor) ?_;refine o_ (h:=?_);refine c_ 13 rfl (A8 (YJ w2.s.tab w2.p.pid F2.file w2.c.a0 htb2) ?_);rintro r rfl;refine o_ (h:=AG 14 (h:=BF 15 (h:=BF 16 (h:=BF 17 (h:=?_)))));refine B6 19 (h:=BB 20 (h:=BB 21 (h:=z_ (h:=?_))));refine AT ?_;exact⟨_,rfl,Cm 4 0⟩
 rintro s rfl;refine E9 (h:=Gx (h:=Ct (h:=AX (h:=Gv (h:=?_)))));refine A3 rfl (Bg [0,1] rfl (.cons _ _ _ _ _ rfl (A7 _) (.cons _ _ _ _ _ rfl (A7 _) (.cons _ _ _ _ _ rfl (A7 _) .nil))) (by decide) (.cons _ _ _ _ _ rfl rfl (.cons _ _ _ _ _ rfl (Db B1 _ _ _) .nil)) (U5 (RM w2 (GA w2.s.tab w2.p.pid F2.file w2.c.a0).2.1) cap (GA w2.s.tab w2.p.pid F2.file w2.c.a0).1 (GA w2.s.tab w2.p.pid F2.file w2.c.a0).2.2) ?_);rintro r bc tc ⟨rfl,rfl,rfl⟩;refine⟨rfl,_,E3 rfl (Kv w2 F2.file).1 cap,?_⟩;refine B8 (h:=?_);refine BS (r:= .v (.int .i64 (Ck w).2)) none (h5:=(by rw[hop,Kv,LP];exact A7 _)) (h6:=⟨rfl,rfl,?_⟩);rw[hop];rfl
end
theorem YQ{e:Int}{y x:AB}{c d:Bool}:(decide (e=0)&& !decide ((y.1,y.2)=(x.1,x.2))&&c&&d)=true↔(e=0∧y≠x∧c=true∧d=true):=by
 have:decide ((y.1,y.2)=(x.1,x.2))=decide (y=x):=rfl;rw[this];simp[and_assoc]
theorem YR{w:Wrk}{R:Ex}{x:AB}(h:(decide (R.2.2=0)&&decide (0<(R.2.1.length:Int)))=true):LL w R x=(KU (JZ (BZ w R).1 0 3) 1 x,R.2.2):=by
 rw[Bool.and_eq_true]at h;have h1:=of_decide_eq_true h.1;unfold LL;rw[if_neg (by simp[h1]),if_pos (of_decide_eq_true h.2),h1]
theorem YS{w:Wrk}{R:Ex}{x:AB}(h:(decide (R.2.2=0)&&decide (0<(R.2.1.length:Int)))=false):LL w R x=((BZ w R).1,R.2.2):=by
 unfold LL;by_cases h0:R.2.2=0
 ·rw[if_neg (by simp[h0]),if_neg (by simpa[h0]using h),h0]
 rw[if_pos h0,RQ h0]
theorem YT(w:Wrk)(i:Nat)(r:Int)(cap:Nat):WA (JZ w i r) cap=WA w cap:=by
 unfold WA JZ;simp only[List.length_modify];rfl
theorem YU{w:Wrk}{i:Nat}{x:Itm}(hx:w.r.items[i]?=some x)(r:Int)(cap:Nat):IB (JZ w i r) cap=LB 13 CV (w.r.items.set i {x with role:=r}) cap:=by
 unfold IB JZ;rw[YO hx]
section
theorem lN(w:Wrk)(cap:Nat)(f g:Fnd)(x0 x1:Itm)(hv:SpcV w.s.spc)(hm:w.s.spc.mounts.length≤1000)(hps:w.s.tab.ps.length≤1000)(hf:w.found[0]?=some f)(hg:w.found[1]?=some g)(hx0:w.r.items[0]?=some x0)(hx1:w.r.items[1]?=some x1)(hn:f.name.size≤100000)(hn2:g.name.size≤100000):ACall prog 148 [.bp 0 0] [WA w cap,IB w cap] (fun r b t=>t=[]∧r= .v (.int .i64 (Fq w).2)∧b=[WA (Fq w).1 cap,IB (Fq w).1 cap]):=by
 have hsb:=hv.b hm;have hrow0:(w.found.map Ah)[0]?=some (Ah f):=by rw[List.getElem?_map,hf];rfl
 have hrow1:(w.found.map Ah)[1]?=some (Ah g):=by rw[List.getElem?_map,hg];rfl
 have hfn:As w 0=f:=by unfold As;rw[hf];rfl
 have hgn:As w 1=g:=by unfold As;rw[hg];rfl
 have hil:0<w.r.items.length:=(Ab.1 hx0).1;obtain⟨R,hR⟩:∃R,R=Fn w.s.spc.files f.dir f.name g.dir g.name:=⟨_,rfl⟩;have hok:=XD hv.files f.dir f.name g.dir g.name;rw[←hR]at hok;have hcall:AFn prog 175 [.agg (Al w.s.spc.files), .agg (AA f.dir), .v (.string f.name), .agg (AA g.dir), .v (.string g.name)] (fun r=>r=Cd R):=by rw[hR];exact gO _ _ _ _ _ hv.files hn hn2
 obtain⟨x,hxd⟩:∃x,x=(AK w.s.spc.files f.dir f.name).1:=⟨_,rfl⟩;obtain⟨y,hyd⟩:∃y,y=(AK w.s.spc.files g.dir g.name).1:=⟨_,rfl⟩;have hl1:AFn prog 134 [.agg (Al w.s.spc.files), .agg (AA f.dir), .v (.string f.name)] (fun r=>r= .tup [.agg (AA x), .v (.int .i64 (AK w.s.spc.files f.dir f.name).2)]):=by rw[hxd];exact Kk _ _ _ hsb.files
 have hl2:AFn prog 134 [.agg (Al w.s.spc.files), .agg (AA g.dir), .v (.string g.name)] (fun r=>r= .tup [.agg (AA y), .v (.int .i64 (AK w.s.spc.files g.dir g.name).2)]):=by rw[hyd];exact Kk _ _ _ hsb.files
 obtain⟨e2,he2⟩:∃e,e=(AK w.s.spc.files g.dir g.name).2:=⟨_,rfl⟩;rw[←he2]at hl2
 have hren:Fq w=if f.ex=false then(w,2)else if f.name=⟨#[]⟩∨g.name=⟨#[]⟩then(w,16)else if g.slash=true∧Af w.s.spc.files f.file=false then(w,20)else if f.dir.1≠g.dir.1 then(w,18)else if CA w f.dir 2=false∨CA w g.dir 2=false then(w,13)else if e2=0∧y≠x∧Af w.s.spc.files y=true∧JY w y=true then(w,16)else LL w R x:=by
  unfold Fq KT;rw[hfn,hgn,←hxd,←hyd,←he2,←hR]
 clear hxd hyd he2 hR;refine enter Tryz.func148 rfl rfl rfl rfl rfl 2 rfl ?_;refine DG (h:=?_);refine B9 (fun s=>s=⟨look [(0, .bp 0 0),(3, .bp 2 0),(4, .bp 3 0)],⟨[WA w cap,IB w cap,Ah f,Ah g],[]⟩⟩) ?_ ?_
 ·skip
  refine BO ([(0,WA w cap)]) 16 (h:=AG 0 (h:=BJ 1 (h:=AD 2 (h:=A9 3 (h:=?_)))));refine By 4 rfl (fun _ hS=>D7 (n:=0) rfl rfl rfl hrow0 ⟨rfl,rfl⟩) ?_;refine A9 5 (h:=AG 6 (h:=BJ 7 (h:=AD 8 (h:=A9 9 (h:=?_)))));refine By 10 rfl (fun _ hS=>D7 (n:=1) rfl rfl rfl hrow1 ⟨rfl,rfl⟩) ?_;refine A9 11 (h:=?_);refine Fb 12 13 rfl rfl ?_ ?_
  ·refine CR (by repeat constructor) ?_;refine o_ (h:=?_);refine c_ 13 rfl (CR (by repeat constructor) ?_);refine o_ (h:=?_);refine B6 14 (h:=?_);refine B6 15 (h:=z_ (h:=?_));refine AT ?_;exact⟨_,rfl,Cm 4 0⟩
  refine CR (by repeat constructor) ?_;refine o_ (h:=?_);refine c_ 12 rfl (CR (by repeat constructor) ?_);refine o_ (h:=?_);refine B6 14 (h:=?_);refine B6 15 (h:=z_ (h:=?_));refine AT ?_
  first|exact⟨_,rfl,Cm 4 0⟩|exact⟨_,rfl,GE [0,1,3,2] R4 (by decide) (.cons _ _ _ _ _ rfl rfl (.cons _ _ _ _ _ rfl (Lq B1 _ _ _) (.cons _ _ _ _ _ rfl rfl (.cons _ _ _ _ _ rfl rfl .nil)))) (by repeat (first|exact SubK.nil|refine SubK.cons _ _ _ _ rfl (A7 _) ?_))⟩
 rintro s rfl;refine q_ (BK (B0 (h:=DP (h:=B4 (h:=?_)))));refine A4 rfl (fun hb1 hc1=>?_) (fun hb1 hc1=>?_)
 ·have k1:f.ex=false:=by simpa using hc1
  refine Bh (h:=?_);refine BS (r:= .v (.int .i64 (Fq w).2)) none (h5:=(by rw[hren,if_pos k1];exact A7 _)) (h6:=⟨rfl,rfl,?_⟩);rw[hren,if_pos k1];rfl
 have k1:¬f.ex=false:=by simpa using hc1
 refine B9 (fun s=>s=⟨look [(0, .bp 0 0),(3, .bp 2 0),(4, .bp 3 0),(26, .v (.bool (decide (f.name=⟨#[]⟩)||decide (g.name=⟨#[]⟩))))],⟨[WA w cap,IB w cap,Ah f,Ah g],[]⟩⟩) ?_ ?_
 ·skip
  refine Aw (Cs (h:=m_ (h:=?_)));refine AJ false rfl rfl (fun hb2 hc2=>?_) (fun hb2 hc2=>?_)
  ·refine Gj (h:=Ch (h:=?_));exact⟨_,rfl,CD 4 0 (by simp[AW,AQ,AP,Bm B1,BC,WA,IB,Cl,Ah])⟩
  refine Cs (h:=Bx (h:=Ch (h:=?_)));exact⟨_,rfl,CD 4 0 (by simp[AW,AQ,AP,Bm B1,BC,WA,IB,Cl,Ah])⟩
 rintro s rfl;refine A4 rfl (fun hb3 hc3=>?_) (fun hb3 hc3=>?_)
 ·have k2:f.name=⟨#[]⟩∨g.name=⟨#[]⟩:=by simpa using hc3
  refine Bh (h:=?_);refine BS (r:= .v (.int .i64 (Fq w).2)) none (h5:=(by rw[hren,if_neg k1,if_pos k2];exact A7 _)) (h6:=⟨rfl,rfl,?_⟩);rw[hren,if_neg k1,if_pos k2];rfl
 have k2:¬(f.name=⟨#[]⟩∨g.name=⟨#[]⟩):=by simpa using hc3
 refine B9 (fun s=>s=⟨look [(0, .bp 0 0),(3, .bp 2 0),(4, .bp 3 0),(35, .v (.bool (g.slash&& !Af w.s.spc.files f.file)))],⟨[WA w cap,IB w cap,Ah f,Ah g],[]⟩⟩) ?_ ?_
 ·skip
  refine Aw (Fx (h:=?_));refine AJ true rfl rfl (fun hb4 hc4=>?_) (fun hb4 hc4=>?_)
  ·refine m_ (h:=?_);refine Aq (Dm 1 rfl (.cons _ _ _ _ _ rfl (LeA.of_eq rfl) (.cons _ _ _ _ _ rfl (A7 _) .nil)) (Md w .any 0 f hsb hf) ?_);rintro r rfl;refine⟨rfl,?_⟩;refine DP (h:=CZ (h:=Ch (h:=?_)));exact⟨_,rfl,CD 4 0 (by simp[AW,AQ,AP,Bm B1,BC,WA,IB,Cl,Ah])⟩
  refine D8 (h:=Ch (h:=?_));exact⟨_,rfl,CD 4 0 (by simp[AW,AQ,AP,Bm B1,BC,WA,IB,Cl,Ah])⟩
 rintro s rfl;refine A4 rfl (fun hb5 hc5=>?_) (fun hb5 hc5=>?_)
 ·have k3:g.slash=true∧Af w.s.spc.files f.file=false:=by simpa using hc5
  refine Bh (h:=?_);refine BS (r:= .v (.int .i64 (Fq w).2)) none (h5:=(by rw[hren,if_neg k1,if_neg k2,if_pos k3];exact A7 _)) (h6:=⟨rfl,rfl,?_⟩);rw[hren,if_neg k1,if_neg k2,if_pos k3];rfl
 have k3:¬(g.slash=true∧Af w.s.spc.files f.file=false):=by simpa using hc5
 refine w_ (Dp (h:=Dp (h:=HA (h:=B4 (h:=?_)))));refine A4 rfl (fun hb6 hc6=>?_) (fun hb6 hc6=>?_)
 ·have k4:f.dir.1≠g.dir.1:=by simpa using hc6
  refine Bh (h:=?_);refine BS (r:= .v (.int .i64 (Fq w).2)) none (h5:=(by rw[hren,if_neg k1,if_neg k2,if_neg k3,if_pos k4];exact A7 _)) (h6:=⟨rfl,rfl,?_⟩);rw[hren,if_neg k1,if_neg k2,if_neg k3,if_pos k4];rfl
 have k4:¬f.dir.1≠g.dir.1:=by simpa using hc6
 refine B9 (fun s=>s=⟨look [(0, .bp 0 0),(3, .bp 2 0),(4, .bp 3 0),(51, .v (.bool (!CA w f.dir 2|| !CA w g.dir 2)))],⟨[WA w cap,IB w cap,Ah f,Ah g],[]⟩⟩) ?_ ?_
 ·skip
  refine Bt (h:=Aa (h:=?_));refine A3 rfl (Dm 1 rfl (.cons _ _ _ _ _ rfl (LeA.of_eq rfl) (.cons _ _ _ _ _ rfl (A7 _) (.cons _ _ _ _ _ rfl (A7 _) .nil))) (Kx w .any f.dir 2 hsb) ?_);rintro r rfl;refine⟨rfl,?_⟩;refine Eh (h:=?_);refine AJ false rfl rfl (fun hb7 hc7=>?_) (fun hb7 hc7=>?_)
  ·refine B7 (h:=Gj (h:=Ch (h:=?_)));exact⟨_,rfl,CD 4 0 (by simp[AW,AQ,AP,Bm B1,BC,WA,IB,Cl,Ah])⟩
  refine m_ (h:=Aa (h:=?_));refine Aq (Dm 1 rfl (.cons _ _ _ _ _ rfl (LeA.of_eq rfl) (.cons _ _ _ _ _ rfl (A7 _) (.cons _ _ _ _ _ rfl (A7 _) .nil))) (Kx w .any g.dir 2 hsb) ?_);rintro r rfl;refine⟨rfl,?_⟩;refine DP (h:=Bx (h:=Ch (h:=?_)));exact⟨_,rfl,CD 4 0 (by simp[AW,AQ,AP,Bm B1,BC,WA,IB,Cl,Ah])⟩
 rintro s rfl;refine A4 rfl (fun hb8 hc8=>?_) (fun hb8 hc8=>?_)
 ·have k5:CA w f.dir 2=false∨CA w g.dir 2=false:=by simpa using hc8
  refine Bh (h:=?_);refine BS (r:= .v (.int .i64 (Fq w).2)) none (h5:=(by rw[hren,if_neg k1,if_neg k2,if_neg k3,if_neg k4,if_pos k5];exact A7 _)) (h6:=⟨rfl,rfl,?_⟩);rw[hren,if_neg k1,if_neg k2,if_neg k3,if_neg k4,if_pos k5];rfl
 have k5:¬(CA w f.dir 2=false∨CA w g.dir 2=false):=by simpa using hc8
 refine BD (BE (t_ (?_)));refine B9 (fun s=>s=⟨look [(0, .bp 0 0),(3, .bp 2 0),(4, .bp 3 0),(5, .bp 4 0)],⟨[WA w cap,IB w cap,Ah f,Ah g,AA x],[]⟩⟩) ?_ ?_
 ·skip
  refine BO ([(0,WA w cap),(1,IB w cap),(2,Ah f),(3,Ah g)]) 17 (h:=AG 0 (h:=BJ 1 (h:=AD 2 (h:=AD 3 (h:=AD 4 (h:=A9 5 (h:=AD 6 (h:=A9 7 (h:=AD 8 (h:=A9 9 (h:=?_)))))))))));refine Fb 10 14 rfl rfl ?_ ?_
  ·refine A8 (hl1) ?_;rintro r rfl;refine o_ (h:=?_);refine AG 11 (h:=BF 12 (h:=BF 13 (h:=?_)));refine c_ 14 rfl (CR (by repeat constructor) ?_);refine o_ (h:=?_);refine B6 15 (h:=BB 16 (h:=z_ (h:=?_)));refine AT ?_;exact⟨_,rfl,Cm 5 0⟩
  refine CR (by repeat constructor) ?_;refine o_ (h:=?_);refine c_ 10 rfl (A8 (hl1) ?_);rintro r rfl;refine o_ (h:=AG 11 (h:=BF 12 (h:=BF 13 (h:=?_))));refine B6 15 (h:=BB 16 (h:=z_ (h:=?_)));refine AT ?_;exact⟨_,rfl,Cm 5 0⟩
 rintro s rfl;refine q_ (?_);refine B9 (fun s=>s=⟨look [(0, .bp 0 0),(3, .bp 2 0),(4, .bp 3 0),(5, .bp 4 0),(7, .bp 5 0),(8, .v (.int .i64 e2))],⟨[WA w cap,IB w cap,Ah f,Ah g,AA x,AA y],[]⟩⟩) ?_ ?_
 ·skip
  refine BO ([(0,WA w cap),(1,IB w cap),(2,Ah f),(3,Ah g),(4,AA x)]) 17 (h:=AG 0 (h:=BJ 1 (h:=AD 2 (h:=AD 3 (h:=AD 4 (h:=A9 5 (h:=AD 6 (h:=A9 7 (h:=AD 8 (h:=A9 9 (h:=?_)))))))))));refine Fb 10 14 rfl rfl ?_ ?_
  ·refine A8 (hl2) ?_;rintro r rfl;refine o_ (h:=?_);refine AG 11 (h:=BF 12 (h:=BF 13 (h:=?_)));refine c_ 14 rfl (CR (by repeat constructor) ?_);refine o_ (h:=?_);refine B6 15 (h:=BB 16 (h:=z_ (h:=?_)));refine AT ?_;exact⟨_,rfl,Cm 6 0⟩
  refine CR (by repeat constructor) ?_;refine o_ (h:=?_);refine c_ 10 rfl (A8 (hl2) ?_);rintro r rfl;refine o_ (h:=AG 11 (h:=BF 12 (h:=BF 13 (h:=?_))));refine B6 15 (h:=BB 16 (h:=z_ (h:=?_)));refine AT ?_;exact⟨_,rfl,Cm 6 0⟩
 rintro s rfl;refine B9 (fun s=>s=⟨look [(0, .bp 0 0),(3, .bp 2 0),(4, .bp 3 0),(5, .bp 4 0),(113, .v (.bool (decide (e2=0)&& !decide ((y.1,y.2)=(x.1,x.2))&&Af w.s.spc.files y&&JY w y)))],⟨[WA w cap,IB w cap,Ah f,Ah g,AA x],[]⟩⟩) ?_ ?_
 ·skip
  refine Dd 22 (h:=AG 0 (h:=Jm 1 (h:=AG 2 (h:=?_))));refine JA (j:=2) rfl (fun hb9=>?_) (fun hb9=>?_)
  ·have hc9:=bp hb9;refine A9 3 (h:=A9 4 (h:=?_));refine FO (i:=5) rfl (JB rfl rfl (by repeat constructor) (by repeat constructor) (fun w=>Sd _ _ _ _ w) (by kernel_rfl) ⟨rfl,rfl⟩) ?_;refine JF 6 (h:=AG 7 (h:=?_));refine JA (j:=7) rfl (fun hb10=>?_) (fun hb10=>?_)
   ·have hc10:=bp hb10;refine AG 8 (h:=BJ 9 (h:=AD 10 (h:=AD 11 (h:=AD 12 (h:=A9 13 (h:=A9 14 (h:=?_)))))));refine c_ 15 rfl (A8 (Ki w.s.spc.files y hsb.files) ?_);rintro r rfl;refine o_ (h:=JF 16 (h:=AG 17 (h:=?_)));refine JA (j:=17) rfl (fun hb11=>?_) (fun hb11=>?_)
    ·have hc11:=bp hb11;refine AG 18 (h:=A9 19 (h:=?_));refine c_ 20 rfl (Dm 1 rfl (.cons _ _ _ _ _ rfl (LeA.of_eq rfl) (.cons _ _ _ _ _ rfl (A7 _) .nil)) (YL w .any y hsb hps) ?_);rintro r rfl;refine⟨rfl,?_⟩;refine o_ (h:=JF 21 (h:=z_ (h:=?_)));refine AT ?_;exact⟨_,rfl,Ao 5 0 rfl rfl rfl (by simp[AW,AQ,AP,Bm B1,BC,WA,IB,Cl,Ah,AA]) (by repeat (first|exact Sub.nil|refine Ap rfl rfl ?_|refine At ?_|refine Au rfl ?_|refine Av rfl ?_|(apply Sub.of;(focus exact rfl);(focus exact LeA.of_eq (vb (by first|(simp[*];done)|(simp only[*,decide_true,decide_false,Bool.not_true,Bool.not_false,Bool.true_and,Bool.and_true,Bool.false_and,Bool.and_false]))));(focus exact rfl))))⟩
    have hc11:=bp hb11;refine BV 18 (h:=BV 19 (h:=BV 20 (h:=Jl 21 (h:=z_ (h:=?_)))));refine AT ?_;exact⟨_,rfl,Ao 5 0 rfl rfl rfl (by simp[AW,AQ,AP,Bm B1,BC,WA,IB,Cl,Ah,AA]) (by repeat (first|exact Sub.nil|refine Ap rfl rfl ?_|refine At ?_|refine Au rfl ?_|refine Av rfl ?_|(apply Sub.of;(focus exact rfl);(focus exact LeA.of_eq (vb (by first|(simp[*];done)|(simp only[*,decide_true,decide_false,Bool.not_true,Bool.not_false,Bool.true_and,Bool.and_true,Bool.false_and,Bool.and_false]))));(focus exact rfl))))⟩
   have hc10:=bp hb10;refine BV 8 (h:=BV 9 (h:=BV 10 (h:=BV 11 (h:=BV 12 (h:=BV 13 (h:=BV 14 (h:=BV 15 (h:=Jl 16 (h:=AG 17 (h:=BV 18 (h:=BV 19 (h:=BV 20 (h:=Jl 21 (h:=z_ (h:=?_)))))))))))))));refine AT ?_;exact⟨_,rfl,Ao 5 0 rfl rfl rfl (by simp[AW,AQ,AP,Bm B1,BC,WA,IB,Cl,Ah,AA]) (by repeat (first|exact Sub.nil|refine Ap rfl rfl ?_|refine At ?_|refine Au rfl ?_|refine Av rfl ?_|(apply Sub.of;(focus exact rfl);(focus exact LeA.of_eq (vb (by first|(simp[*];done)|(simp only[*,decide_true,decide_false,Bool.not_true,Bool.not_false,Bool.true_and,Bool.and_true,Bool.false_and,Bool.and_false]))));(focus exact rfl))))⟩
  have hc9:=bp hb9;refine BV 3 (h:=BV 4 (h:=BV 5 (h:=Jl 6 (h:=AG 7 (h:=BV 8 (h:=BV 9 (h:=BV 10 (h:=BV 11 (h:=BV 12 (h:=BV 13 (h:=BV 14 (h:=BV 15 (h:=Jl 16 (h:=AG 17 (h:=BV 18 (h:=BV 19 (h:=BV 20 (h:=Jl 21 (h:=z_ (h:=?_))))))))))))))))))));refine AT ?_;exact⟨_,rfl,Ao 5 0 rfl rfl rfl (by simp[AW,AQ,AP,Bm B1,BC,WA,IB,Cl,Ah,AA]) (by repeat (first|exact Sub.nil|refine Ap rfl rfl ?_|refine At ?_|refine Au rfl ?_|refine Av rfl ?_|(apply Sub.of;(focus exact rfl);(focus exact LeA.of_eq (vb (by first|(simp[*];done)|(simp only[*,decide_true,decide_false,Bool.not_true,Bool.not_false,Bool.true_and,Bool.and_true,Bool.false_and,Bool.and_false]))));(focus exact rfl))))⟩
 rintro s rfl;refine A4 rfl (fun hb12 hc12=>?_) (fun hb12 hc12=>?_)
 ·have k6:=YQ.1 hb12;refine BL (h:=?_);refine BS (r:= .v (.int .i64 (Fq w).2)) none (h5:=(by rw[hren,if_neg k1,if_neg k2,if_neg k3,if_neg k4,if_neg k5,if_pos k6];exact A7 _)) (h6:=⟨rfl,rfl,?_⟩);rw[hren,if_neg k1,if_neg k2,if_neg k3,if_neg k4,if_neg k5,if_pos k6];rfl
 have k6:¬(e2=0∧y≠x∧Af w.s.spc.files y=true∧JY w y=true):=fun h=>by rw[YQ.2 h]at hb12;cases hb12
 refine AF (q_ (BO ([(0,WA w cap),(1,IB w cap),(2,Ah f),(3,Ah g)]) 19 (h:=AG 0 (h:=AG 1 (h:=BJ 2 (h:=AD 3 (h:=AD 4 (h:=AD 5 (h:=A9 6 (h:=AD 7 (h:=A9 8 (h:=AD 9 (h:=A9 10 (h:=AD 11 (h:=A9 12 (h:=AD 13 (h:=A9 14 (h:=?_))))))))))))))))));refine c_ 15 rfl (A8 (hcall) ?_);rintro r rfl;refine o_ (h:=BF 16 (h:=BF 17 (h:=BF 18 (h:=?_))));refine c_ 19 rfl (Bg [0,1] rfl (.cons _ _ _ _ _ rfl (A7 _) (.cons _ _ _ _ _ rfl (A7 _) (.cons _ _ _ _ _ rfl (A7 _) (.cons _ _ _ _ _ rfl (A7 _) .nil)))) (by decide) (.cons _ _ _ _ _ rfl rfl (.cons _ _ _ _ _ rfl (Db B1 _ _ _) .nil)) (OC w cap R.1 R.2.1 R.2.2) ?_);rintro r bc tc ⟨rfl,rfl,rfl⟩;refine⟨rfl,_,E3 rfl (BZ w R).1 cap,?_⟩;refine o_ (h:=?_);refine c_ 20 rfl (Hr rfl ?_);refine GJ (h:=t_ (q_ (?_)));refine B9 (fun s=>s=⟨look [(0, .bp 0 0),(5, .bp 4 0),(9, .v (.int .i64 R.2.2)),(144, .v (.bool (decide (R.2.2=0)&&decide (0<(R.2.1.length:Int)))))],⟨[WA (BZ w R).1 cap,IB (BZ w R).1 cap,Ah f,Ah g,AA x],[]⟩⟩) ?_ ?_
 ·skip
  refine Bt (h:=Dy (h:=?_));refine AJ true rfl rfl (fun hb13 hc13=>?_) (fun hb13 hc13=>?_)
  ·have hch:(BZ w R).1.r.changes=R.2.1:=by rw[Lu hc13]
   refine m_ (h:=Dg (h:=Gu (h:=JL (h:=?_))));exact⟨_,rfl,CD 5 0 (by simp[AW,AQ,AP,Bm B1,BC,WA,IB,Cl,Ah,AA])⟩
  refine BT (h:=D8 (h:=DC (h:=?_)));exact⟨_,rfl,CD 5 0 (by simp[AW,AQ,AP,Bm B1,BC,WA,IB,Cl,Ah,AA])⟩
 rintro s rfl;refine A4 rfl (fun hb14 hc14=>?_) (fun hb14 hc14=>?_)
 ·have h0:R.2.2=0:=of_decide_eq_true ((Bool.and_eq_true _ _).mp hb14).1;have hfb:FlsB (JZ (BZ w R).1 0 3).s.spc.files:=by rw[Lu h0];exact(hok h0).1.b
  have hit:(BZ w R).1.r.items=w.r.items:=by rw[Lu h0]
  have hxa:(BZ w R).1.r.items[0]?=some x0:=by rw[hit];exact hx0
  have hil1:0<(BZ w R).1.r.items.length:=by rw[hit];exact hil
  have hxr:(JZ (BZ w R).1 0 3).r.items[1]?=some x1:=by
   show((BZ w R).1.r.items.modify 0 _)[1]?=_;rw[hit,List.getElem?_modify];simp[hx1]
  refine B9 (fun s=>s=⟨look [(0, .bp 0 0),(5, .bp 4 0),(9, .v (.int .i64 R.2.2))],⟨[WA (JZ (BZ w R).1 0 3) cap,IB (JZ (BZ w R).1 0 3) cap,Ah f,Ah g,AA x],[]⟩⟩) ?_ ?_
  ·skip
   refine Bt (h:=Dg (h:=?_));refine A3 rfl (Dx (m:=0) rfl rfl rfl hil1 ?_);refine f_ (h:=?_);refine ME (Ed rfl rfl rfl rfl rfl rfl (Lr B1 (x':={x0 with role:=3}) hxa (by repeat constructor) (List.cons_ne_nil _ _)) (by repeat constructor) ?_);refine DC (h:=?_);refine⟨_,rfl,?_⟩;rw[YT,YU hxa];exact Cm 5 0
  rintro s rfl;refine Bt (h:=l_ (h:=?_));refine A3 rfl (Bg [0,1] rfl (.cons _ _ _ _ _ rfl (A7 _) (.cons _ _ _ _ _ rfl (A7 _) (.cons _ _ _ _ _ rfl (A7 _) .nil))) (by decide) (.cons _ _ _ _ _ rfl rfl (.cons _ _ _ _ _ rfl (Db B1 _ _ _) .nil)) (U6 (JZ (BZ w R).1 0 3) cap 1 x x1 hfb hxr) ?_);rintro r bc tc ⟨rfl,rfl,rfl⟩;refine⟨rfl,_,E3 rfl (KU (JZ (BZ w R).1 0 3) 1 x) cap,?_⟩;refine e_ (EA (h:=?_));refine BS (r:= .v (.int .i64 (Fq w).2)) none (h5:=(by rw[hren,if_neg k1,if_neg k2,if_neg k3,if_neg k4,if_neg k5,if_neg k6,YR hb14];exact A7 _)) (h6:=⟨rfl,rfl,?_⟩);rw[hren,if_neg k1,if_neg k2,if_neg k3,if_neg k4,if_neg k5,if_neg k6,YR hb14];rfl
 refine AF (EA (h:=?_));refine BS (r:= .v (.int .i64 (Fq w).2)) none (h5:=(by rw[hren,if_neg k1,if_neg k2,if_neg k3,if_neg k4,if_neg k5,if_neg k6,YS hb14];exact A7 _)) (h6:=⟨rfl,rfl,?_⟩);rw[hren,if_neg k1,if_neg k2,if_neg k3,if_neg k4,if_neg k5,if_neg k6,YS hb14];rfl
end
end Go.Proofs.YtbgnigjfkbmceaaGreatDoor
