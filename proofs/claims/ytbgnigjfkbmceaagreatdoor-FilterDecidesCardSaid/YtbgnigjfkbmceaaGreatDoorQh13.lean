/-
  Part 13 of the proof of FilterDecidesP: what the statement's proof uses of the texts in wip/tpl.
-/
import Derived.Test.YtbgnigjfkbmceaaGreatDoorQh12
open Go.Proofs.Tryz (prog)
set_option maxRecDepth 10000
set_option maxHeartbeats 4000000
set_option linter.unusedVariables false
set_option linter.unusedSimpArgs false
namespace Go.Proofs.YtbgnigjfkbmceaaGreatDoor
open Go.RowKit
theorem Yo:∀(l:List Dsc) (k:Nat),G7 k l≤k+l.length
 |[],k=>B7 _
 |d::l,k=>by
   unfold G7;split
   ·have:=Yo l (k+1);simp only[List.length_cons];omega
   omega
theorem m8{α:Type}{l:List α}{j:Nat}{x:α}(h:l[j]?=some x):l.drop j=x::l.drop (j+1):=by
 obtain⟨hl,rfl⟩:=Af.1 h;exact List.drop_eq_getElem_cons hl
def Yp(p:Prc)(x:AV):List AV:=[.v (.int .i64 p.pid), .v (.int .i64 p.ppid), .v (.int .i64 p.uid), .v (.int .i64 p.euid), .v (.int .i64 p.gid), .v (.int .i64 p.egid), .v (.int .i64 p.auid), .v (.int .i64 p.ses), .v (.int .i64 p.cwd.1), .v (.int .i64 p.cwd.2), .v (.string p.comm), .v (.string p.exe),x, .v (.bool p.audited)]
theorem Yq(p:Prc)(rows:List (List AV))(g:Option Nat)(l:List Dsc)(h:rows=l.map Gu):LeA (.agg (Yp p (.sl 4 rows g))) (.agg (Av {p with opens:=l})):=by
 subst h;unfold Yp Av
 repeat (first|exact A7 _|exact LeA.tok _ _ _|refine LeA.agg ?_|exact LeL.nil|refine LeL.cons ?_ ?_)
def Cz(R:Tab×Int):AV:= .tup [.agg (Ao R.1), .v (.int .i64 R.2)]
def MG(R:Tab×Int×Int):AV:= .tup [.agg (Ao R.1), .v (.int .i64 R.2.1), .v (.int .i64 R.2.2)]
theorem GA(e:Int):LeA (.tup [.agg DZ, .v (.int .i64 e)]) (Cz (EB,e)):=(by repeat (first|exact A7 _|exact LeA.nil _|exact LeL.refl _|refine LeA.agg ?_|refine LeA.tup ?_|exact LeL.nil|refine LeL.cons ?_ ?_|exact LeA.any _))
theorem Pn(n e:Int):LeA (.tup [.agg DZ, .v (.int .i64 n), .v (.int .i64 e)]) (MG (EB,n,e)):=(by repeat (first|exact A7 _|exact LeA.nil _|exact LeL.refl _|refine LeA.agg ?_|refine LeA.tup ?_|exact LeL.nil|refine LeL.cons ?_ ?_|exact LeA.any _))
def Rk(R:Syst×Int):AV:= .tup [.agg (CW R.1), .v (.int .i64 R.2)]
def Cq(w:Wrk):AV:= .sl 8 (w.found.map Al) none
section
theorem Yr(t:Tab)(pid:Int)(a:AD)(flags:Int)(ht:TabB t):AFn prog 199 [.agg (Ao t), .v (.int .i64 pid), .agg (AB a), .v (.int .i64 flags)] (fun r=>r=MG (GW t pid a flags)):=by
 have h8:=Jt ht pid;have hol:((AP t pid).opens.map Gu).length=(AP t pid).opens.length:=List.length_map _;have hfl:G7 0 (AP t pid).opens≤(AP t pid).opens.length:=by have:=Yo (AP t pid).opens 0;omega
 refine enter Tryz.func199 rfl rfl rfl rfl rfl 0 rfl ?_;refine FU (h:=a_ (h:=Je (h:=?_)));refine A3 rfl (A8 (KK t pid ht) ?_);rintro r rfl;refine H8 (h:=?_);refine A4 rfl (fun hb1 hc1=>?_) (fun hb1 hc1=>?_)
 ·refine FF (h:=?_);refine AX (r:=MG (GW t pid a flags)) none (h5:=?_) (h6:=⟨rfl,rfl,rfl⟩);rw[GW,if_pos (by simpa using hc1)];exact Pn _ _
 have hhas:CS t pid=true:=by simpa using hc1
 refine DU (h:=n_ (h:=DR (h:=e_ (?_))));refine A4 rfl (fun hb2 hc2=>?_) (fun hb2 hc2=>?_)
 ·refine FF (h:=?_);refine AX (r:=MG (GW t pid a flags)) none (h5:=?_) (h6:=⟨rfl,rfl,rfl⟩);rw[GW,if_neg (by simp[hhas]),if_pos (by omega)];exact Pn _ _
 refine AG (D7 (h:=?_));refine BC (fun s=>s=⟨look [(3, .v (.int .i64 flags)),(4, .bp 0 0),(6, .bp 1 0),(8, .bp 2 0),(11, .bp 3 0),(13, .v (.int .i64 (G7 0 (AP t pid).opens:Nat)))],⟨[Ao t,AB a,DZ,Av (AP t pid)],[]⟩⟩) ?_ ?_
 ·skip
  refine BF (?_);refine BM (fun m s=>∃j:Nat,j≤(AP t pid).opens.length∧m=(AP t pid).opens.length - j∧G7 0 (AP t pid).opens=G7 j ((AP t pid).opens.drop j)∧s=⟨look [(3, .v (.int .i64 flags)),(4, .bp 0 0),(6, .bp 1 0),(8, .bp 2 0),(11, .bp 3 0),(13, .v (.int .i64 (j:Int)))],⟨[Ao t,AB a,DZ,Av (AP t pid)],[]⟩⟩) ((AP t pid).opens.length) ((wk 4 0)) (⟨0,BE _,rfl,rfl,rfl⟩) ?_;rintro m s ⟨j,hj,rfl,hfd,rfl⟩;refine Mg (h:=n_ (h:=DK (h:=?_)));refine AJ true rfl rfl (fun hb3 hc3=>?_) (fun hb3 hc3=>?_)
  ·obtain⟨hlt,d,hy,hrow, -⟩:=Br Gu hc3;have hdr:=m8 hy;refine AO (h:=GG (h:=AO (h:=CE (h:=DS (h:=?_)))));refine A4 rfl (fun hb4 hc4=>?_) (fun hb4 hc4=>?_)
   ·have heq:d.fd=(j:Int):=by simpa using hc4
    refine AG (BF (NH (h:=BA (AR (?_)))));refine⟨_,_,?_,⟨j+1,by omega,rfl,by rw[hfd,hdr,G7,if_pos heq],rfl⟩,(wk 4 0)⟩;omega
   have hend:G7 0 (AP t pid).opens=j:=by rw[hfd,hdr,G7,if_neg (by simpa using hc4)]
   refine Kb (h:=AR (?_));refine⟨_,rfl,?_⟩;rw[hend];exact(wk 4 0)
  have hend:G7 0 (AP t pid).opens=j:=by rw[hfd,C6 Gu hj hc3,List.drop_length];rfl
  refine BB (h:=BB (h:=FV (h:=Kb (h:=AR (?_)))));refine⟨_,rfl,?_⟩;rw[hend];exact(wk 4 0)
 rintro s rfl;refine Ay (h:=m_ (h:=?_));refine A3 rfl (SP (k:=G7 0 (AP t pid).opens) rfl rfl rfl (by omega) ?_)
 first|refine A3 rfl (EF rfl rfl rfl (by simp;omega) (by repeat constructor) ?_)|refine A3 rfl (JC rfl rfl (by simp;omega) (by repeat constructor) ?_)
 refine Bt (h:=m_ (h:=HA (h:=Bk (h:=BX (h:=?_)))));refine A3 rfl (EF rfl rfl rfl (by simp;omega) (by repeat constructor) ?_);refine Bt (h:=AO (h:=m_ (h:=?_)));refine A3 rfl (VG (l:=G7 0 (AP t pid).opens) rfl rfl rfl (by omega) ?_);refine A3 rfl (EF rfl rfl rfl (by simp;omega) (by repeat constructor) ?_);refine DF (h:=C4 (h:=?_));refine A3 rfl (Hf (y:= .agg (Av {AP t pid with opens:=OS (AP t pid).opens (G7 0 (AP t pid).opens) ⟨(G7 0 (AP t pid).opens:Nat),a,flags⟩})) (KV rfl rfl rfl ⟨rfl,rfl⟩) (Yq _ _ _ _ (by simp[OS,Gu];rfl)) ?_);refine A3 rfl (A8 (Ng t {AP t pid with opens:=OS (AP t pid).opens (G7 0 (AP t pid).opens) ⟨(G7 0 (AP t pid).opens:Nat),a,flags⟩} ht (Mv hhas) (by simp[OS];omega)) ?_);rintro r rfl;refine m_ (h:=s_ (h:=a_ (h:=Az (h:=?_))));refine A6 ?_;rw[GW,if_neg (by simp[hhas]),if_neg (by omega)];rfl
theorem m9(a:AD):AFn prog 111 [.agg (AB a)] (fun r=>r= .agg (Ao (OQ a))):=by
 refine enter Tryz.func111 rfl rfl rfl rfl rfl 0 rfl ?_;refine E5 (h:=e_ (C4 (h:=?_)));refine A3 rfl (H5 (y:= .agg (Av ⟨1,0,0,0,0,0,4294967295,4294967295,a,⟨#[105,110,105,116]⟩,⟨#[47,105,110,105,116]⟩,[],true⟩)) (Du ⟨rfl,rfl⟩) ?_);refine BX (h:=Hm (h:=e_ (B3 (?_))));refine A6 ?_;rfl
theorem Ys(n:Int):AFn prog 60 [.v (.int .i64 n)] (fun r=>r=Rk (KJ n)):=by
 refine enter Tryz.func60 rfl rfl rfl rfl rfl 0 rfl ?_;refine w_ (CU (h:=Bt (h:=?_)));refine A3 rfl (A8 (dT n) ?_);rintro r rfl;refine JJ (h:=Bl (h:=?_));refine A4 rfl (fun hb1 hc1=>?_) (fun hb1 hc1=>?_)
 ·refine w_ (HL (h:=Dd (h:=?_)));refine AX (r:=Rk (KJ n)) none (h5:=?_) (h6:=⟨rfl,rfl,rfl⟩);rw[KJ,if_pos (by simpa using hc1)];exact(by repeat (first|exact A7 _|exact LeA.nil _|exact LeL.refl _|refine LeA.agg ?_|refine LeA.tup ?_|exact LeL.nil|refine LeL.cons ?_ ?_|exact LeA.any _))
 refine AG (q_ (BR ([(1,Au (GO n).1)]) 7 (h:=A9 0 (h:=KZ 1 (h:=KZ 2 (h:=?_))))));refine c_ 3 rfl (A8 (m9 (0,1)) ?_);rintro r rfl;refine o_ (h:=KZ 4 (h:=?_));refine B8 5 (h:=B9 6 (h:=z_ (h:=t_ (B3 (?_)))));refine AX (r:=Rk (KJ n)) none (h5:=?_) (h6:=⟨rfl,rfl,rfl⟩);rw[KJ,if_neg (by simpa using hc1)];exact(by repeat (first|exact A7 _|exact LeA.nil _|exact LeL.refl _|refine LeA.agg ?_|refine LeA.tup ?_|exact LeL.nil|refine LeL.cons ?_ ?_|exact LeA.any _))
theorem Mw(s:Syst)(hs:SpcB s.spc)(ht:TabB s.tab):AFn prog 94 [.agg (CW s)] (fun r=>r= .agg (CW s)):=by
 refine enter Tryz.func94 rfl rfl rfl rfl rfl 0 rfl ?_;refine w_ (b_ (h:=CU (h:=e_ (q_ (BR ([(0,CW s)]) 7 (h:=AA 0 (h:=?_)))))));refine A9 1 (h:=?_);refine AA 3 (h:=?_);refine A9 4 (h:=?_);refine c_ 2 rfl (A8 (lQ s.spc hs) ?_);rintro r rfl;refine o_ (h:=?_);refine c_ 5 rfl (A8 (YU s.tab ht) ?_);rintro r rfl;refine o_ (h:=KZ 6 (h:=?_));refine B8 7 (h:=z_ (h:=t_ (B3 (?_))));refine A6 ?_;rfl
theorem mA(s:Spc)(given:AF)(perm:Int)(f:Fnd)(hs:SpcB s):AFn prog 143 [.agg (AW s), .v (.string given), .v (.int .i64 perm), .agg (Al f)] (fun r=>r= .agg (CZ (Pg s given perm f))):=by
 refine enter Tryz.func143 rfl rfl rfl rfl rfl 0 rfl ?_;refine FU (h:=e_ (Ay (h:=AO (h:=?_))));refine A3 rfl (A8 (FJ s.files f.file hs.files) ?_);rintro r rfl;refine Ee (h:=Bt (h:=Eg (h:=Eg (h:=Eg (h:=AO (h:=f_ (h:=?_)))))));refine HA (h:=Hm (h:=e_ (B3 (?_))));refine A6 ?_;rfl
theorem LG(w:Wrk)(its:AV)(a:AD)(want:Int)(hs:SpcB w.s.spc):AFn prog 197 [.fp (Df w (Cq w) its), .agg (AB a), .v (.int .i64 want)] (fun r=>r= .v (.bool (CH w a want))):=by
 refine enter Tryz.func197 rfl rfl rfl rfl rfl 0 rfl ?_;refine w_ (b_ (h:=a_ (h:=e_ (q_ (BR ([(0,AB a)]) 14 (h:=AE 0 (h:=BL 1 (h:=AA 2 (h:=AA 3 (h:=AA 4 (h:=A9 5 (h:=A9 6 (h:=?_)))))))))))));refine Ft 7 11 rfl rfl ?_ ?_
 ·refine A8 (FJ w.s.spc.files a hs.files) ?_;rintro r rfl;refine o_ (h:=?_);refine AE 8 (h:=BH 9 (h:=BH 10 (h:=?_)));refine c_ 11 rfl (Cb (by repeat constructor) ?_);refine o_ (h:=?_);refine B8 12 (h:=B9 13 (h:=z_ (h:=t_ (q_ (Ct 14 (h:=A9 0 (h:=AE 1 (h:=BL 2 (h:=AA 3 (h:=AA 4 (h:=A9 5 (h:=AE 6 (h:=BL 7 (h:=AA 8 (h:=AA 9 (h:=A9 10 (h:=AE 11 (h:=?_))))))))))))))))));refine c_ 12 rfl (A8 (YX (Ag w.s.spc.files a) w.p.euid w.p.egid want) ?_);rintro r rfl;refine o_ (h:=B9 13 (h:=z_ (h:=t_ (B3 (?_)))));refine A6 ?_;rfl
 refine Cb (by repeat constructor) ?_;refine o_ (h:=?_);refine c_ 7 rfl (A8 (FJ w.s.spc.files a hs.files) ?_);rintro r rfl;refine o_ (h:=AE 8 (h:=BH 9 (h:=BH 10 (h:=?_))));refine B8 12 (h:=B9 13 (h:=z_ (h:=t_ (q_ (Ct 14 (h:=A9 0 (h:=AE 1 (h:=BL 2 (h:=AA 3 (h:=AA 4 (h:=A9 5 (h:=AE 6 (h:=BL 7 (h:=AA 8 (h:=AA 9 (h:=A9 10 (h:=AE 11 (h:=?_))))))))))))))))));refine c_ 12 rfl (A8 (YX (Ag w.s.spc.files a) w.p.euid w.p.egid want) ?_);rintro r rfl;refine o_ (h:=B9 13 (h:=z_ (h:=t_ (B3 (?_)))));refine A6 ?_;rfl
theorem Mx(w:Wrk)(its:AV)(i:Nat)(f:Fnd)(hs:SpcB w.s.spc)(hf:w.found[i]?=some f):AFn prog 201 [.fp (Df w (Cq w) its), .v (.int .i64 (i:Int))] (fun r=>r= .v (.bool (Ac w.s.spc.files f.file))):=by
 have hrow:(w.found.map Al)[i]?=some (Al f):=by rw[List.getElem?_map,hf];rfl
 refine enter Tryz.func201 rfl rfl rfl rfl rfl 0 rfl ?_;refine w_ (a_ (h:=e_ (q_ (Ct 16 (h:=AE 0 (h:=BL 1 (h:=AA 2 (h:=AA 3 (h:=AA 4 (h:=A9 5 (h:=AE 6 (h:=BL 7 (h:=AA 8 (h:=A9 9 (h:=AE 10 (h:=CL 11 (h:=AA 12 (h:=A9 13 (h:=?_)))))))))))))))))));refine c_ 14 rfl (A8 (L3 w.s.spc.files f.file hs.files) ?_);rintro r rfl;refine o_ (h:=B9 15 (h:=z_ (h:=t_ (B3 (?_)))));refine A6 ?_;rfl
theorem Yt(w:Wrk)(its:AV)(a:AD)(hs:SpcB w.s.spc)(hp:w.s.tab.ps.length≤1000):AFn prog 204 [.fp (Df w (Cq w) its), .agg (AB a)] (fun r=>r= .v (.bool (Jq w a))):=by
 refine enter Tryz.func204 rfl rfl rfl rfl rfl 0 rfl ?_;refine w_ (b_ (h:=a_ (h:=e_ (q_ (q_ (Ct 7 (h:=AE 0 (h:=BL 1 (h:=AA 2 (h:=AA 3 (h:=A9 4 (h:=A9 5 (h:=?_)))))))))))));refine c_ 6 rfl (A8 (WJ w.s.spc a hs) ?_);rintro r rfl;refine HG (h:=t_ (?_));refine A4 rfl (fun hb1 hc1=>?_) (fun hb1 hc1=>?_)
 ·refine BK (h:=?_);refine A6 ?_
  first|(exfalso;first|contradiction|omega)|(exact vb (by simp[Jq, *]))
 refine AG (DT (h:=?_));refine BM (fun m s=>∃j:Nat,j≤w.s.tab.ps.length∧m=w.s.tab.ps.length - j∧(∀i y,i<j→w.s.tab.ps[i]?=some y→decide (y.cwd=a)=false)∧s=⟨look [(0, .fp (Df w (Cq w) its)),(3, .bp 0 0),(5, .v (.int .i64 (j:Int)))],⟨[AB a],[]⟩⟩) (w.s.tab.ps.length) ((wk 1 0)) (⟨0,BE _,rfl,fun i y hi=>by omega,rfl⟩) ?_;rintro m s ⟨j,hj,rfl,ha,rfl⟩;refine De (h:=HQ (h:=Hn (h:=Fi (h:=?_))));refine A4 rfl (fun hb2 hc2=>?_) (fun hb2 hc2=>?_)
 ·obtain⟨hlt,p,hy,hrow, -⟩:=Br Av hc2;refine AG (q_ (BF (q_ (Ct 12 (h:=AE 0 (h:=BL 1 (h:=AA 2 (h:=AA 3 (h:=AA 4 (h:=A9 5 (h:=AE 6 (h:=CL 7 (h:=AA 8 (h:=A9 9 (h:=A9 10 (h:=?_))))))))))))))));refine F9 (i:=11) rfl (GF rfl rfl (by repeat constructor) (by repeat constructor) (fun w=>O6 _ _ _ _ w) (by kernel_rfl) ⟨rfl,rfl⟩) ?_;refine z_ (h:=t_ (?_));refine A4 rfl (fun hb3 hc3=>?_) (fun hb3 hc3=>?_)
  ·have hany:(w.s.tab.ps.any fun p=>decide (p.cwd=a))=true:=NQ hy (decide_eq_true hc3);refine Hp (h:=?_);refine A6 ?_
   first|(exfalso;first|contradiction|omega)|(exact vb (by simp[Jq, *]))
  have hne:decide (p.cwd=a)=false:=decide_eq_false hc3;refine Cm (h:=?_);refine⟨_,_,?_,⟨j+1,by omega,rfl,GN hy ha hne,rfl⟩,(wk 1 0)⟩;omega
 have e:=C6 Av hj hc2;have hany:(w.s.tab.ps.any fun p=>decide (p.cwd=a))=false:=O7 (by rw[←e];exact ha);refine Fk (h:=?_);refine A6 ?_
 first|(exfalso;first|contradiction|omega)|(exact vb (by simp[Jq, *]))
end
theorem mB{α:Type}{sz:Nat}{F:α→List AV}(hF:RowF sz F){l:List α}{j cap:Nat}{x x':α}(h:l.length=j):SetAt (LB sz F (l++[x]) cap) (0+j * sz) (F x') (LB sz F (l++[x']) cap):=by
 have h1:(l++[x])[j]?=some x:=by rw[←h];simp
 have h2:(l++[x]).set j x'=l++[x']:=by rw[←h];simp
 have key:=YM hF (cap:=cap) (x':=x') h1
 rwa [h2]at key
theorem Yu{is:List Nat}:∀i,i<1→(0::is)[i]?=some i:=by
 intro i hi;obtain rfl:i=0:=by omega
 rfl
theorem Yv{f:Nat→Option AV}{bx:List (List AV)}{tk:List Cd}{N:Dim}(i:Nat){row row':List AV}(hi:bx[i]?=some row)(hle:LeL row row'):Weak N ⟨f,⟨bx,tk⟩⟩ ⟨f,⟨bx.set i row',tk⟩⟩:=by
 rintro E a w ⟨G,h1,h2,h3⟩;exact⟨G,h1.boxLe hi (fun us hu=>hle G w us hu),h2,h3⟩
theorem mC(w:Wrk)(rows:List (List AV))(g:Option Nat)(I:AV):LeL (Df w (.sl 8 rows g) I) (Df w (.sl 8 rows none) I):=by
 unfold Df
 repeat (first|exact LeL.nil|refine LeL.cons (A7 _) ?_|refine LeL.cons (LeA.tok _ _ _) ?_)
theorem BD{n m:Nat}(w:Wrk)(F I:AV):AT n m (Df w F I)=(AQ n m F&&AQ n m I):=by
 simp[Df,AT,AQ]
def Gv(l:List Fnd):AV:= .sl 8 (l.map Al) (some 0)
def OY(w:Wrk)(e:Int)(j:Nat):List Itm×List Fnd×Int:=Ld w.s.spc w.p.cwd (DY w.c) ((w.c.paths.zip (DD w.c)).take j) e
def LK(w:Wrk)(e:Int):List Itm×List Fnd×Int:=Ld w.s.spc w.p.cwd (DY w.c) (w.c.paths.zip (DD w.c)) e
theorem mD{w:Wrk}{e:Int}{j:Nat}{g:AF×Int}(h:(w.c.paths.zip (DD w.c))[j]?=some g):OY w e (j+1)=J3 w.s.spc w.p.cwd (DY w.c) (OY w e j) g:=by
 unfold OY Ld;rw[List.take_add_one,h,List.foldl_append];rfl
theorem mE{w:Wrk}{e:Int}{j:Nat}(h:(w.c.paths.zip (DD w.c)).length≤j):OY w e j=LK w e:=by
 unfold OY LK;rw[List.take_of_length_le h]
def WA(w:Wrk)(cap:Nat):List AV:=Df w (Cq w) (.bs 1 0 13 w.r.items.length cap)
def IB(w:Wrk)(cap:Nat):List AV:=LB 13 CZ w.r.items cap
theorem E8{bx:List (List AV)}{a b:List AV}{rest:List (List AV)}(hb:bx=a::b::rest)(w:Wrk)(cap:Nat):Back bx [0,1] [WA w cap,IB w cap] (WA w cap::IB w cap::rest):=by
 subst hb;have:=Pj (bx:=a::b::rest) (is:=[0,1]) (bc:=[WA w cap,IB w cap]) (by simp) (by simp) (by simp);have e1:E9 (Er [0,1] (a::b::rest).length) (WA w cap)=WA w cap:=rfl;have e2:E9 (Er [0,1] (a::b::rest).length) (IB w cap)=IB w cap:=Dg B5 _ _ _
 have hb:E0 (a::b::rest) (Er [0,1] (a::b::rest).length) [0,1] [WA w cap,IB w cap]=WA w cap::IB w cap::rest:=by
  unfold E0;rw[e1];unfold E0;rw[e2];simp[E0]
 rw[hb]at this;exact this
section
theorem mF(w:Wrk)(e:Int)(hv:SpcV w.s.spc)(hm:w.s.spc.mounts.length≤1000)(hp:w.c.paths.length=(DD w.c).length)(hpl:w.c.paths.length≤1000)(h0:0<w.c.paths.length)(hps:∀p∈w.c.paths,p.size≤100000):
    ACall prog 96 [.bp 0 0, .v (.int .i64 e)] [Df w (.v (.slice none 0 0)) (.v (.slice none 0 0))] (fun r b t=>t=[]∧∃cap,(LK w e).1.length≤cap∧r= .v (.int .i64 (LK w e).2.2)∧b=[Df w (.sl 8 ((LK w e).2.1.map Al) none) (.bs 1 0 13 (LK w e).1.length cap),LB 13 CZ (LK w e).1 cap]):=by
 have hsb:=hv.b hm;have hsn:=hv.n hm;refine enter Tryz.func96 rfl rfl rfl rfl rfl 2 rfl ?_;refine EL (h:=k_ (h:=AO (h:=?_)));refine A3 rfl (A8 (Yb w.c) ?_);rintro r rfl;refine BO (h:=?_);refine BC (fun s=>∃cap,(LK w e).1.length≤cap∧s=⟨look [(1, .v (.int .i64 (LK w e).2.2))],⟨[Df w (.sl 8 ((LK w e).2.1.map Al) none) (.bs 1 0 13 (LK w e).1.length cap),LB 13 CZ (LK w e).1 cap],[]⟩⟩) ?_ ?_
 ·skip
  refine NJ (h:=?_);refine Ls 0 26 200 8 rfl rfl (by repeat constructor) (by repeat constructor) (by repeat constructor) ?_;refine BM (fun m s=>∃(j:Nat) (X:List Itm×List Fnd×Int) (Y:AV) (Z:List (List AV)),j≤w.c.paths.length∧m=w.c.paths.length - j∧OY w e j=X∧X.1.length=j∧X.2.1.length=j∧((Y= .v (.slice none 0 0)∧Z=[]∧X.1=[])∨∃cap,X.1.length≤cap∧Y= .bs 1 0 13 X.1.length cap∧Z=[LB 13 CZ X.1 cap])∧s=⟨look [(0, .bp 0 0),(1, .v (.int .i64 X.2.2)),(5, .sl 1 ((DD w.c).map CT) none),(6, .v (.int .i64 (j:Int)))],⟨Df w (Gv X.2.1) Y::Z,[(200,8,X.2.1.map Al)]⟩⟩) (w.c.paths.length) ((wk 1 1)) (⟨0,([],[],e),_,_,BE _,rfl,rfl,rfl,rfl, .inl ⟨rfl,rfl,rfl⟩,rfl⟩) ?_;rintro m s ⟨j,X,Y,Z,hj,rfl,hX,hl1,hl2,hYZ,rfl⟩;refine De (h:=Dj (h:=Fi (h:=?_)));refine A4 rfl (fun hb1 hc1=>?_) (fun hb1 hc1=>?_)
  ·obtain⟨hlt,y,hy,hrow, -⟩:=Br DH hc1;obtain⟨pj,hpj⟩:∃z,(DD w.c)[j]?=some z:=⟨_,B6 (by omega)⟩;have hrow2:((DD w.c).map CT)[j]?=some (CT pj):=by rw[List.getElem?_map,hpj];rfl
   have hz:(w.c.paths.zip (DD w.c))[j]?=some (y,pj):=List.getElem?_zip_eq_some.2 ⟨hy,hpj⟩;have hk:=mD (e:=e) hz;rw[hX]at hk;have hys:=hps y (Am hy);refine By (h:=?_);refine BC (fun s=>∃cap,X.1.length+1≤cap∧s=⟨look [(0, .bp 0 0),(1, .v (.int .i64 X.2.2)),(5, .sl 1 ((DD w.c).map CT) none),(6, .v (.int .i64 (j:Int)))],⟨[Df w (Gv X.2.1) (.bs 1 0 13 (X.1.length+1) cap),LB 13 CZ (X.1++[Jp y pj]) cap],[(200,8,X.2.1.map Al)]⟩⟩) ?_ ?_
   ·rcases hYZ with⟨rfl,rfl,hX0⟩|⟨cap,hcp,rfl,rfl⟩
    ·skip
     refine BR ([(0,Df w (Gv X.2.1) (.v (.slice none 0 0)))]) 24 (h:=AE 0 (h:=AE 1 (h:=BL 2 (h:=AA 3 (h:=AA 4 (h:=A9 5 (h:=AE 6 (h:=BL 7 (h:=AA 8 (h:=AA 9 (h:=A9 10 (h:=AE 11 (h:=CL 12 (h:=A9 13 (h:=AE 14 (h:=AE 15 (h:=CL 16 (h:=A9 17 (h:=?_)))))))))))))))))));refine C5 18 rfl (fun _ hS=>Hf (y:= .agg (CZ (Jp y pj))) (Du ⟨rfl,rfl⟩) (A7 _) ⟨rfl,rfl⟩) ?_;refine K4 19 (h:=?_);refine c_ 20 rfl (Qu rfl rfl M7 (by omega) (by omega) ?_);rintro cap2 k bx2 hcp hs;rw[show CX (.agg (CZ (Jp y pj)))++List.replicate ((cap2 - 1) * 13) AV.any=LB 13 CZ [Jp y pj] cap2 from YN B5 _ cap2]at hs;obtain⟨rfl,rfl⟩:k=1∧bx2=[_,_]:=hs.eq;refine o_ (h:=?_);refine BL 21 (h:=AA 22 (h:=AA 23 (h:=?_)));refine B8 24 (h:=z_ (h:=?_));refine AR ?_;refine⟨_,⟨cap2,by rw[hX0];exact hcp,rfl⟩,?_⟩;rw[hX0];exact Be 2 1 (by simp[AY,AT,AQ,Bq B5,BD,Gv])
    skip
    refine BR ([(0,Df w (Gv X.2.1) (.bs 1 0 13 X.1.length cap))]) 24 (h:=AE 0 (h:=AE 1 (h:=BL 2 (h:=AA 3 (h:=AA 4 (h:=A9 5 (h:=AE 6 (h:=BL 7 (h:=AA 8 (h:=AA 9 (h:=A9 10 (h:=AE 11 (h:=CL 12 (h:=A9 13 (h:=AE 14 (h:=AE 15 (h:=CL 16 (h:=A9 17 (h:=?_)))))))))))))))))));refine C5 18 rfl (fun _ hS=>Hf (y:= .agg (CZ (Jp y pj))) (Du ⟨rfl,rfl⟩) (A7 _) ⟨rfl,rfl⟩) ?_;refine K4 19 (h:=?_);refine c_ 20 rfl (O0 rfl rfl rfl (by rw[Ri B5 hcp];omega) M7 (by omega) (by omega) ?_ ?_)
    ·rintro hg row2 bx2 hs hb;obtain rfl:=UK B5 hs hg;obtain rfl:bx2=[_,_]:=hb.one.2;refine o_ (h:=?_);refine BL 21 (h:=AA 22 (h:=AA 23 (h:=?_)));refine B8 24 (h:=z_ (h:=?_));refine AR ?_;exact⟨_,⟨cap,hg,rfl⟩,Be 2 1 (by simp[AY,AT,AQ,Bq B5,BD,Gv])⟩
    rintro hg cap3 k bx2 hcp3 hs;rw[show((LB 13 CZ X.1 cap).drop 0).take (X.1.length * 13)++CX (.agg (CZ (Jp y pj)))++List.replicate ((cap3 - (X.1.length+1)) * 13) AV.any=LB 13 CZ (X.1++[Jp y pj]) cap3 from UJ B5 X.1 _ cap cap3]at hs;obtain⟨rfl,rfl⟩:k=2∧bx2=[_,_,_]:=hs.eq;refine o_ (h:=?_);refine BL 21 (h:=AA 22 (h:=AA 23 (h:=?_)));refine B8 24 (h:=z_ (h:=?_));refine AR ?_
    first|exact⟨_,⟨cap,hg,rfl⟩,Be 2 1 (by simp[AY,AT,AQ,Bq B5,BD,Gv])⟩|exact⟨_,⟨cap3,hcp3,rfl⟩,Ga [0,2] Yu (by decide) (.cons _ _ _ _ _ rfl rfl (.cons _ _ _ _ _ rfl (MD B5 _ _ _) .nil)) (by repeat (first|exact SubK.nil|refine SubK.cons _ _ _ _ rfl (A7 _) ?_))⟩
   rintro s ⟨cap,hcp,rfl⟩;refine w_ (CU (h:=e_ (?_)));refine BC (fun s=>∃(it:Itm) (F:Fnd) (e2:Int),J3 w.s.spc w.p.cwd (DY w.c) X (y,pj)=(X.1++[it],X.2.1++[F],e2)∧s=⟨look [(0, .bp 0 0),(1, .v (.int .i64 e2)),(5, .sl 1 ((DD w.c).map CT) none),(6, .v (.int .i64 (j:Int))),(7, .bp 2 0)],⟨[Df w (Gv X.2.1) (.bs 1 0 13 (X.1.length+1) cap),LB 13 CZ (X.1++[it]) cap,Al F],[(200,8,X.2.1.map Al)]⟩⟩) ?_ ?_
   ·skip
    refine Aa (h:=Bd (h:=?_));refine A4 rfl (fun hb2 hc2=>?_) (fun hb2 hc2=>?_)
    ·have he0:X.2.2=0:=by simpa using hc2
     refine q_ (BR ([(0,Df w (Gv X.2.1) (.bs 1 0 13 (X.1.length+1) cap)),(1,LB 13 CZ (X.1++[Jp y pj]) cap)]) 29 (h:=AE 0 (h:=BL 1 (h:=AA 2 (h:=AA 3 (h:=A9 4 (h:=AE 5 (h:=BL 6 (h:=AA 7 (h:=AA 8 (h:=A9 9 (h:=AE 10 (h:=BL 11 (h:=AA 12 (h:=AA 13 (h:=A9 14 (h:=AE 15 (h:=CL 16 (h:=A9 17 (h:=AE 18 (h:=BL 19 (h:=AA 20 (h:=A9 21 (h:=?_))))))))))))))))))))))));refine c_ 22 rfl (A8 (l0 w.c) ?_);rintro r rfl;refine o_ (h:=?_);refine c_ 23 rfl (A8 (Yn w.s.spc w.p.cwd y (DY w.c) hsn hv hys) ?_);rintro r rfl;refine o_ (h:=AE 24 (h:=BH 25 (h:=BH 26 (h:=?_))));refine B8 27 (h:=B9 28 (h:=z_ (h:=t_ (w_ (m_ (h:=Dt (h:=e_ (?_))))))));refine A4 rfl (fun hb3 hc3=>?_) (fun hb3 hc3=>?_)
     ·have hf0:(C9 w.s.spc w.p.cwd y (DY w.c)).2=0:=by simpa using hc3
      refine BR ([(0,Df w (Gv X.2.1) (.bs 1 0 13 (X.1.length+1) cap)),(1,LB 13 CZ (X.1++[Jp y pj]) cap),(2,Al (C9 w.s.spc w.p.cwd y (DY w.c)).1)]) 26 (h:=AE 0 (h:=BL 1 (h:=AA 2 (h:=AA 3 (h:=A9 4 (h:=AE 5 (h:=AE 6 (h:=BL 7 (h:=AA 8 (h:=AA 9 (h:=A9 10 (h:=AE 11 (h:=BL 12 (h:=AA 13 (h:=AA 14 (h:=A9 15 (h:=AE 16 (h:=CL 17 (h:=A9 18 (h:=AE 19 (h:=AE 20 (h:=CL 21 (h:=A9 22 (h:=?_))))))))))))))))))))))));refine A9 23 (h:=?_);refine c_ 24 rfl (A8 (mA w.s.spc y pj (C9 w.s.spc w.p.cwd y (DY w.c)).1 hsb) ?_);rintro r rfl;refine o_ (h:=?_);refine C5 25 rfl (fun _ hS=>E1 (m:=j) rfl rfl rfl (by omega) ⟨rfl,rfl⟩) ?_;refine Hj 26 rfl (Ep rfl rfl rfl rfl rfl rfl (mB B5 hl1) (by repeat constructor) ?_);refine HG (h:=?_);refine AR ?_;exact⟨_,⟨Pg w.s.spc y pj (C9 w.s.spc w.p.cwd y (DY w.c)).1,(C9 w.s.spc w.p.cwd y (DY w.c)).1,(C9 w.s.spc w.p.cwd y (DY w.c)).2,(by rw[J3,if_pos he0,if_pos hf0,hf0]),rfl⟩,Be 3 1 (by simp[AY,AT,AQ,Bq B5,BD,Gv,Al])⟩
     have hf0:¬(C9 w.s.spc w.p.cwd y (DY w.c)).2=0:=by simpa using hc3
     refine BG (AR (?_))
     first|exact⟨_,⟨Pg w.s.spc y pj (C9 w.s.spc w.p.cwd y (DY w.c)).1,(C9 w.s.spc w.p.cwd y (DY w.c)).1,(C9 w.s.spc w.p.cwd y (DY w.c)).2,(by rw[J3,if_pos he0,if_pos hf0,hf0]),rfl⟩,Be 3 1 (by simp[AY,AT,AQ,Bq B5,BD,Gv,Al])⟩|exact⟨_,⟨Jp y pj,(C9 w.s.spc w.p.cwd y (DY w.c)).1,(C9 w.s.spc w.p.cwd y (DY w.c)).2,(by rw[J3,if_pos he0,if_neg hf0]),rfl⟩,Be 3 1 (by simp[AY,AT,AQ,Bq B5,BD,Gv,Al])⟩
    have he0:¬X.2.2=0:=by simpa using hc2
    refine BG (AR (?_))
    first|exact⟨_,⟨Pg w.s.spc y pj (C9 w.s.spc w.p.cwd y (DY w.c)).1,(C9 w.s.spc w.p.cwd y (DY w.c)).1,(C9 w.s.spc w.p.cwd y (DY w.c)).2,(by rw[J3,if_pos he0,if_pos hf0,hf0]),rfl⟩,Be 3 1 (by simp[AY,AT,AQ,Bq B5,BD,Gv,Al])⟩|exact⟨_,⟨Jp y pj,(C9 w.s.spc w.p.cwd y (DY w.c)).1,(C9 w.s.spc w.p.cwd y (DY w.c)).2,(by rw[J3,if_pos he0,if_neg hf0]),rfl⟩,Be 3 1 (by simp[AY,AT,AQ,Bq B5,BD,Gv,Al])⟩|exact⟨_,⟨Jp y pj,GT,X.2.2,(by rw[J3,if_neg he0]),rfl⟩,Be 3 1 (by simp[AY,AT,AQ,Bq B5,BD,Gv,Al])⟩
   rintro s ⟨it,F,e2,hlk,rfl⟩;refine BR ([(0,Df w (Gv X.2.1) (.bs 1 0 13 (X.1.length+1) cap)),(2,Al F)]) 10 (h:=AE 0 (h:=AE 1 (h:=BL 2 (h:=AA 3 (h:=A9 4 (h:=A9 5 (h:=K4 6 (h:=?_))))))));refine c_ 7 rfl (EF rfl rfl rfl (by simp;omega) (by repeat constructor) ?_);refine o_ (h:=BL 8 (h:=AA 9 (h:=?_)));refine B8 10 (h:=z_ (h:=BA (t_ (Aw (m_ (h:=Ec (h:=a_ (h:=Bw (AR (?_))))))))));refine⟨w.c.paths.length - (j+1),_,by omega,⟨j+1,(X.1++[it],X.2.1++[F],e2), .bs 1 0 13 (X.1++[it]).length cap,[LB 13 CZ (X.1++[it]) cap],by omega,rfl,by rw[hk,hlk],by simp;omega,by simp;omega, .inr ⟨cap,by simpa using hcp,rfl,rfl⟩,rfl⟩,?_⟩;rw[List.length_append];unfold Gv;rw[List.map_append];exact Be 2 1 (by simp[AY,AT,AQ,Bq B5,BD])
  have e3:=C6 DH hj hc1;rcases hYZ with⟨_,_,hX0⟩|⟨cap,hcp,rfl,rfl⟩
  ·exfalso;rw[hX0]at hl1;simp at hl1;omega
  have hfin:LK w e=X:=by rw[←hX];exact(mE (by rw[List.length_zip];omega)).symm
  refine Kb (h:=AR (?_));refine⟨_,⟨cap,by rw[hfin];exact hcp,rfl⟩,?_⟩;rw[hfin];exact(Yv 0 rfl (mC w _ _ _)).trans (Be 2 0 (by simp[AY,AT,AQ,Bq B5,BD]))
 rintro s ⟨cap,hcp,rfl⟩;refine Dv (h:=?_);refine AX (r:= .v (.int .i64 (LK w e).2.2)) none (h4:=(by simp[AY,AT,AQ,Bq B5,BD])) (h5:=(A7 _)) (h6:=⟨rfl,cap,hcp,rfl,rfl⟩)
theorem OZ(w:Wrk)(cap:Nat)(f:AU)(l:List Lx)(e:Int):ACall prog 202 [.bp 0 0, .agg (Au f), .sl 7 (l.map Ek) none, .v (.int .i64 e)] [WA w cap,IB w cap] (fun r b t=>t=[]∧r= .v (.int .i64 e)∧b=[WA (BZ w (f,l,e)).1 cap,IB (BZ w (f,l,e)).1 cap]):=by
 refine enter Tryz.func202 rfl rfl rfl rfl rfl 2 rfl ?_;refine EG (h:=Bo (h:=Bd (h:=?_)));refine A4 rfl (fun hb1 hc1=>?_) (fun hb1 hc1=>?_)
 ·refine Aa (h:=l_ (h:=HQ (h:=f_ (h:=DF (h:=EK (h:=HQ (h:=DF (h:=Dv (h:=?_)))))))));refine AX (r:= .v (.int .i64 e)) none (h4:=(by simp[AY,AT,AQ,Bq B5,IB,Cq])) (h5:=(A7 _)) (h6:=⟨rfl,rfl,?_⟩);rw[BZ,if_pos hc1];rfl
 refine AG (Dv (h:=?_));refine AX (r:= .v (.int .i64 e)) none (h4:=(by simp[AY,AT,AQ,Bq B5,BD,WA,IB,Cq])) (h5:=(A7 _)) (h6:=⟨rfl,rfl,?_⟩);rw[BZ,if_neg hc1];rfl
theorem UT(w:Wrk)(cap:Nat)(t:Tab)(e:Int):ACall prog 200 [.bp 0 0, .agg (Ao t), .v (.int .i64 e)] [WA w cap,IB w cap] (fun r b tk=>tk=[]∧r= .v (.int .i64 e)∧b=[WA (CJ w (t,e)).1 cap,IB (CJ w (t,e)).1 cap]):=by
 refine enter Tryz.func200 rfl rfl rfl rfl rfl 2 rfl ?_;refine EG (h:=Bo (h:=Bd (h:=?_)));refine A4 rfl (fun hb1 hc1=>?_) (fun hb1 hc1=>?_)
 ·refine C2 (h:=l_ (h:=HQ (h:=DF (h:=Dv (h:=?_)))));refine AX (r:= .v (.int .i64 e)) none (h4:=(by simp[AY,AT,AQ,Bq B5,IB,Cq])) (h5:=(A7 _)) (h6:=⟨rfl,rfl,?_⟩);rw[CJ,if_pos hc1];rfl
 refine AG (Dv (h:=?_));refine AX (r:= .v (.int .i64 e)) none (h4:=(by simp[AY,AT,AQ,Bq B5,BD,WA,IB,Cq])) (h5:=(A7 _)) (h6:=⟨rfl,rfl,?_⟩);rw[CJ,if_neg hc1];rfl
end
section
variable {P:Program}{rs:List ResultVar}{n:Nat}{R:AV→List (List AV)→List Cd→Prop}{s:AS}{xs:List AV}{r:AV}
theorem BU(g:Option Nat){tk':List Cd}(h1:ResA P s rs xs:=by repeat (first|exact ResA.nil|(apply ResA.tmp;(focus exact rfl))|(apply ResA.cellN;(focus exact inferInstance);(focus exact rfl);(focus exact rfl);(focus exact rfl))|(apply ResA.cell1;(focus exact inferInstance);(focus exact rfl);(focus exact rfl);(focus exact rfl))))(h2:MX s.h.tk g=some tk':=by rfl)(h3:AQ n 1 (EE g (GE xs))=true:=by rfl)(h4:AY n 0 (s.h.bx.take n)=true:=by simp[AY,AT,AQ,Bq B5,BD,WA,IB,Cq,Al,AZ,AB,Ao,AW,Au])(h5:LeA (EE g (GE xs)) r)(h6:R r (s.h.bx.take n) tk'):MY P rs n R .ret s:=QW g h1 h2 h3 h4 h5 h6
end
theorem Cr{f:Nat→Option AV}{bx:List (List AV)}{tk:List (Nat×Nat×List (List AV))}{l:List (Nat×AV)}{N:Dim}(n m:Nat){bx':List (List AV)}{tk':List (Nat×Nat×List (List AV))}(hn:Nat.ble N.ni n=true:=by rfl)(hb:bx.take n=bx':=by rfl)(ht:tk.take m=tk':=by rfl)(hbp:AY n m bx'=true:=by simp[AY,AT,AQ,Bq B5,BD,WA,IB,Cq,Al,AZ,AB,Ao,AW,Au])(hl:Sub n m f l:=by repeat (first|exact Sub.nil|refine Sub.cons _ _ _ rfl rfl ?_|refine Sub.any _ _ ?_|refine Sub.sl _ _ _ _ _ rfl ?_|refine Sub.slnil _ _ _ rfl ?_)):Weak N ⟨f,⟨bx,tk⟩⟩ ⟨look l,⟨bx',tk'⟩⟩:=Ah n m hn hb ht hbp hl
theorem Yw{α:Type}{l:List α}{i:Nat}{x:α}(h:l[i]?=some x)(f:α→α):l.modify i f=l.set i (f x):=by
 apply List.ext_getElem?;intro k;rw[List.getElem?_modify,List.getElem?_set];obtain⟨hl,rfl⟩:=Af.1 h;by_cases e:i=k
 ·subst e;simp[hl]
 simp[e]
theorem mG(w:Wrk)(R:FH):(BZ w R).2=R.2.2:=by
 unfold BZ;split
 ·rename_i h;exact h.symm
 rfl
theorem Li(w:Wrk)(R:Tab×Int):(CJ w R).2=R.2:=by
 unfold CJ;split
 ·rename_i h;exact h.symm
 rfl
theorem MH{w:Wrk}{R:FH}(h:R.2.2=0):(BZ w R).1={w with s:=⟨⟨R.1,w.s.spc.mounts⟩,w.s.tab⟩,r:={w.r with changes:=R.2.1}}:=by
 unfold BZ;rw[if_pos h]
theorem Rl{w:Wrk}{R:FH}(h:¬R.2.2=0):(BZ w R).1=w:=by
 unfold BZ;rw[if_neg h]
theorem Yx{f:AU}{dir:AD}{name:AF}{n:Nod}(h0:(FN f dir name n).2.2=0):∃c,(FN f dir name n).2.1=[c]:=by
 unfold FN at h0 ⊢;split at h0
 ·rename_i c;exact absurd h0 c
 rename_i c1;rw[if_neg c1];split at h0
 ·exact absurd h0 (by decide)
 rename_i c2;rw[if_neg c2];split at h0
 ·exact absurd h0 (by decide)
 rename_i c3;rw[if_neg c3]
 cases e:G0 f dir.1 with
 |none=>rw[e]at h0;simp at h0
 |some d=>
   rw[e]at h0;simp only at h0 ⊢;split at h0
   ·exact absurd h0 (by decide)
   rename_i c4;rw[if_neg c4];exact⟨_,rfl⟩
theorem mH{w:Wrk}{i:Nat}{n:Nod}(h:(D4 w i n).2=0):∃c,(D4 w i n).1.r.changes=[c]:=by
 unfold D4 at h ⊢;split at h
 ·rename_i h0;obtain⟨c,hc⟩:=Yx h0;rw[if_pos h0,MH h0];exact⟨c,hc⟩
 rename_i h0;exact absurd h h0
theorem mJ(w:Wrk)(i:Nat)(n:Nod):(D4 w i n).1.s.tab=w.s.tab∧(D4 w i n).1.p=w.p∧(D4 w i n).1.c=w.c:=by
 unfold D4;split
 ·rename_i h0;rw[MH h0];exact⟨rfl,rfl,rfl⟩
 exact⟨rfl,rfl,rfl⟩
section
theorem UU(w:Wrk)(cap i:Nat)(a:AD)(x:Itm)(hs:FlsB w.s.spc.files)(hx:w.r.items[i]?=some x):ACall prog 203 [.bp 0 0, .v (.int .i64 (i:Int)), .agg (AB a)] [WA w cap,IB w cap] (fun r b t=>t=[]∧r= .tup []∧b=[WA (Ko w i a) cap,IB (Ko w i a) cap]):=by
 have hil:=(Af.1 hx).1;have hst:∀y:Itm,(w.r.items.set i y)[i]?=some y:=fun y=>by rw[List.getElem?_set_self hil]
 have hfin:w.r.items.modify i (YK (Ag w.s.spc.files a) a)=w.r.items.set i {x with role:=2,file:=a,kind:=(Ag w.s.spc.files a).kind,mode:=(Ag w.s.spc.files a).mode,uid:=(Ag w.s.spc.files a).uid,gid:=(Ag w.s.spc.files a).gid}:=by rw[Yw hx];rfl
 refine enter Tryz.func203 rfl rfl rfl rfl rfl 2 rfl ?_;refine EG (h:=e_ (?_));refine BC (fun s=>s=⟨look [(0, .bp 0 0),(1, .v (.int .i64 (i:Int))),(5, .bp 2 0),(6, .bp 3 0)],⟨[WA w cap,IB w cap,AB a,AZ (Ag w.s.spc.files a)],[]⟩⟩) ?_ ?_
 ·skip
  refine BR ([(0,WA w cap),(1,IB w cap),(2,AB a)]) 14 (h:=AE 0 (h:=BL 1 (h:=AA 2 (h:=AA 3 (h:=AA 4 (h:=A9 5 (h:=A9 6 (h:=?_))))))));refine Ft 7 11 rfl rfl ?_ ?_
  ·refine A8 (FJ w.s.spc.files a hs) ?_;rintro r rfl;refine o_ (h:=?_);refine AE 8 (h:=BH 9 (h:=BH 10 (h:=?_)));refine c_ 11 rfl (Cb (by repeat constructor) ?_);refine o_ (h:=?_);refine B8 12 (h:=B9 13 (h:=z_ (h:=?_)));refine AR ?_;exact⟨_,rfl,Cr 4 0⟩
  refine Cb (by repeat constructor) ?_;refine o_ (h:=?_);refine c_ 7 rfl (A8 (FJ w.s.spc.files a hs) ?_);rintro r rfl;refine o_ (h:=AE 8 (h:=BH 9 (h:=BH 10 (h:=?_))));refine B8 12 (h:=B9 13 (h:=z_ (h:=?_)));refine AR ?_;exact⟨_,rfl,Cr 4 0⟩
 rintro s rfl;refine Aa (h:=Dj (h:=m_ (h:=?_)));refine A3 rfl (E1 (m:=i) rfl rfl rfl hil ?_);refine a_ (h:=e_ (BR ([(0,WA w cap),(2,AB a),(3,AZ (Ag w.s.spc.files a))]) 33 (h:=AE 0 (h:=AE 1 (h:=AE 2 (h:=AE 3 (h:=AE 4 (h:=AE 5 (h:=A9 6 (h:=AA 7 (h:=A9 8 (h:=AA 9 (h:=A9 10 (h:=AA 11 (h:=A9 12 (h:=AA 13 (h:=A9 14 (h:=BL 15 (h:=AA 16 (h:=?_))))))))))))))))))));refine Hj 17 rfl (Ep rfl rfl rfl rfl rfl rfl (ME B5 (x':={x with role:=2}) hx (by repeat constructor) (List.cons_ne_nil _ _)) (by repeat constructor) ?_);refine o_ (h:=BL 18 (h:=AA 19 (h:=?_)));refine Hj 20 rfl (Ep rfl rfl rfl rfl rfl rfl (ME B5 (x':={x with role:=2,file:=a}) (hst _) (by repeat constructor) (List.cons_ne_nil _ _)) (by repeat constructor) ?_);refine o_ (h:=BL 21 (h:=AA 22 (h:=?_)));refine Hj 23 rfl (Ep rfl rfl rfl rfl rfl rfl (ME B5 (x':={x with role:=2,file:=a,kind:=(Ag w.s.spc.files a).kind}) (by rw[List.set_set];exact hst _) (by repeat constructor) (List.cons_ne_nil _ _)) (by repeat constructor) ?_);refine o_ (h:=BL 24 (h:=AA 25 (h:=?_)));refine Hj 26 rfl (Ep rfl rfl rfl rfl rfl rfl (ME B5 (x':={x with role:=2,file:=a,kind:=(Ag w.s.spc.files a).kind,mode:=(Ag w.s.spc.files a).mode}) (by rw[List.set_set,List.set_set];exact hst _) (by repeat constructor) (List.cons_ne_nil _ _)) (by repeat constructor) ?_);refine o_ (h:=BL 27 (h:=AA 28 (h:=?_)));refine Hj 29 rfl (Ep rfl rfl rfl rfl rfl rfl (ME B5 (x':={x with role:=2,file:=a,kind:=(Ag w.s.spc.files a).kind,mode:=(Ag w.s.spc.files a).mode,uid:=(Ag w.s.spc.files a).uid}) (by rw[List.set_set,List.set_set,List.set_set];exact hst _) (by repeat constructor) (List.cons_ne_nil _ _)) (by repeat constructor) ?_);refine o_ (h:=BL 30 (h:=AA 31 (h:=?_)));refine Hj 32 rfl (Ep rfl rfl rfl rfl rfl rfl (ME B5 (x':={x with role:=2,file:=a,kind:=(Ag w.s.spc.files a).kind,mode:=(Ag w.s.spc.files a).mode,uid:=(Ag w.s.spc.files a).uid,gid:=(Ag w.s.spc.files a).gid}) (by rw[List.set_set,List.set_set,List.set_set,List.set_set];exact hst _) (by repeat constructor) (List.cons_ne_nil _ _)) (by repeat constructor) ?_);refine HG (h:=?_);refine Qv (r:= .tup []) none (h4:=(by simp[AY,AT,AQ,Bq B5,BD,WA,Cq])) (h5:=(A7 _)) (h6:=⟨rfl,rfl,?_⟩);rw[List.set_set,List.set_set,List.set_set,List.set_set,List.set_set];unfold WA IB Ko;simp only[hfin,List.length_set];rfl
theorem UV(w:Wrk)(cap i:Nat)(n:Nod)(f:Fnd)(x:Itm)(hv:FlsV w.s.spc.files)(hf:w.found[i]?=some f)(hx:w.r.items[i]?=some x)(hn:f.name.size≤100000)(ht:n.target.size≤100000)(hne:n.entries=[]):ACall prog 198 [.bp 0 0, .v (.int .i64 (i:Int)), .agg (AZ n)] [WA w cap,IB w cap] (fun r b t=>t=[]∧r= .v (.int .i64 (D4 w i n).2)∧b=[WA (D4 w i n).1 cap,IB (D4 w i n).1 cap]):=by
 have hrow:(w.found.map Al)[i]?=some (Al f):=by rw[List.getElem?_map,hf];rfl
 have hfn:B0 w i=f:=by unfold B0;rw[hf];rfl
 have hmk:Fs w i n=FN w.s.spc.files f.dir f.name (Ph w n):=by unfold Fs;rw[hfn]
 have hok:=Xk hv f.dir f.name (Ph w n);rw[←hmk]at hok;have hcall:AFn prog 177 [.agg (Au w.s.spc.files), .agg (AB f.dir), .v (.string f.name), .agg (AZ (Ph w n))] (fun r=>r=Ch (Fs w i n)):=by rw[hmk];exact hU _ _ _ _ hv hn ht
 refine enter Tryz.func198 rfl rfl rfl rfl rfl 2 rfl ?_;refine w_ (b_ (h:=a_ (h:=e_ (q_ (BR ([(0,WA w cap),(1,IB w cap)]) 14 (h:=AE 0 (h:=BL 1 (h:=AA 2 (h:=AA 3 (h:=A9 4 (h:=AE 5 (h:=BL 6 (h:=AA 7 (h:=AA 8 (h:=A9 9 (h:=AA 10 (h:=?_)))))))))))))))));refine B8 11 (h:=AA 12 (h:=?_));refine B8 13 (h:=z_ (h:=t_ (q_ (BR ([(0,WA w cap),(1,IB w cap),(2,AZ (Ph w n))]) 28 (h:=AE 0 (h:=AE 1 (h:=BL 2 (h:=AA 3 (h:=AA 4 (h:=AA 5 (h:=A9 6 (h:=AE 7 (h:=BL 8 (h:=AA 9 (h:=A9 10 (h:=AE 11 (h:=CL 12 (h:=AA 13 (h:=A9 14 (h:=AE 15 (h:=BL 16 (h:=AA 17 (h:=A9 18 (h:=?_))))))))))))))))))))))));refine AE 19 (h:=CL 20 (h:=AA 21 (h:=A9 22 (h:=A9 23 (h:=?_)))));refine c_ 24 rfl (A8 (hcall) ?_);rintro r rfl;refine o_ (h:=BH 25 (h:=BH 26 (h:=BH 27 (h:=?_))));refine c_ 28 rfl (Bj [0,1] rfl (.cons _ _ _ _ _ rfl (A7 _) (.cons _ _ _ _ _ rfl (A7 _) (.cons _ _ _ _ _ rfl (A7 _) (.cons _ _ _ _ _ rfl (A7 _) .nil)))) (by decide) (.cons _ _ _ _ _ rfl rfl (.cons _ _ _ _ _ rfl (Dg B5 _ _ _) .nil)) (OZ w cap (Fs w i n).1 (Fs w i n).2.1 (Fs w i n).2.2) ?_);rintro r bc tc ⟨rfl,rfl,rfl⟩;refine⟨rfl,_,E8 rfl (BZ w (Fs w i n)).1 cap,?_⟩;refine o_ (h:=?_);refine c_ 29 rfl (J9 rfl ?_);refine HG (h:=t_ (Bf (h:=Bd (h:=?_))));refine A4 rfl (fun hb1 hc1=>?_) (fun hb1 hc1=>?_)
 ·have h0:(Fs w i n).2.2=0:=hc1;obtain⟨c,hc⟩:∃c,(Fs w i n).2.1=[c]:=by rw[hmk]at h0 ⊢;exact Yx h0
  have hch:(BZ w (Fs w i n)).1.r.changes=[c]:=by rw[MH h0];exact hc
  have hx1:(BZ w (Fs w i n)).1.r.items[i]?=some x:=by rw[MH h0];exact hx
  have hfb:FlsB (BZ w (Fs w i n)).1.s.spc.files:=by rw[MH h0];exact(hok h0).1.b
  have hrow2:((BZ w (Fs w i n)).1.r.changes.map Ek)[0]?=some (Ek c):=by rw[hch];rfl
  refine EK (h:=m_ (h:=Dj (h:=?_)));refine A3 rfl (DE (n:=0) rfl rfl rfl hrow2 ?_);refine AO (h:=?_);refine A3 rfl (Bj [0,1] rfl (.cons _ _ _ _ _ rfl (A7 _) (.cons _ _ _ _ _ rfl (A7 _) (.cons _ _ _ _ _ rfl (A7 _) .nil))) (by decide) (.cons _ _ _ _ _ rfl rfl (.cons _ _ _ _ _ rfl (Dg B5 _ _ _) .nil)) (UU (BZ w (Fs w i n)).1 cap i c.2.2.2 x hfb hx1) ?_);rintro r bc tc ⟨rfl,rfl,rfl⟩;refine⟨rfl,_,E8 rfl (Ko (BZ w (Fs w i n)).1 i c.2.2.2) cap,?_⟩;refine e_ (Dv (h:=?_));refine BU (r:= .v (.int .i64 (D4 w i n).2)) none (h5:=(by rw[D4,if_pos h0];exact LeA.of_eq (vi h0))) (h6:=⟨rfl,rfl,?_⟩);rw[D4,if_pos h0,hc];rfl
 have h0:¬(Fs w i n).2.2=0:=hc1;refine AG (Dv (h:=?_));refine BU (r:= .v (.int .i64 (D4 w i n).2)) none (h5:=(by rw[D4,if_neg h0];exact A7 _)) (h6:=⟨rfl,rfl,?_⟩);rw[D4,if_neg h0,Rl h0];rfl
theorem mK(w:Wrk)(cap:Nat)(f:Fnd)(x:Itm)(hv:SpcV w.s.spc)(hm:w.s.spc.mounts.length≤1000)(htb:TabB w.s.tab)(hf:w.found[0]?=some f)(hx:w.r.items[0]?=some x)(hn:f.name.size≤100000):ACall prog 145 [.bp 0 0] [WA w cap,IB w cap] (fun r b t=>t=[]∧r= .v (.int .i64 (Cp w).2)∧b=[WA (Cp w).1 cap,IB (Cp w).1 cap]):=by
 have hsb:=hv.b hm;have hrow:(w.found.map Al)[0]?=some (Al f):=by rw[List.getElem?_map,hf];rfl
 have hfn:B0 w 0=f:=by unfold B0;rw[hf];rfl
 refine enter Tryz.func145 rfl rfl rfl rfl rfl 2 rfl ?_;refine w_ (a_ (h:=e_ (q_ (BR ([(0,WA w cap),(1,IB w cap)]) 15 (h:=AE 0 (h:=BL 1 (h:=AA 2 (h:=A9 3 (h:=CL 4 (h:=A9 5 (h:=AE 6 (h:=BL 7 (h:=AA 8 (h:=AA 9 (h:=?_)))))))))))))));refine C5 10 rfl (fun _ hS=>Bg (len:=4) (sz:=1) (n:=0) (by kernel_rfl) rfl rfl rfl rfl ⟨rfl,rfl⟩) ?_;refine A9 11 (h:=?_);refine c_ 12 rfl (Cb (by repeat constructor) ?_);refine o_ (h:=?_);refine B8 13 (h:=B9 14 (h:=z_ (h:=t_ (?_))));refine BC (fun s=>∃(w2:Wrk) (F2:Fnd),Cp w=LE w2 F2.file∧TabB w2.s.tab∧s=⟨look [(0, .bp 0 0),(3, .bp 2 0),(4, .v (.int .i64 w2.c.a0))],⟨[WA w2 cap,IB w2 cap,Al F2],[]⟩⟩) ?_ ?_
 ·skip
  refine Ay (h:=e_ (?_));refine A4 rfl (fun hb1 hc1=>?_) (fun hb1 hc1=>?_)
  ·have hex:(B0 w 0).ex=true:=by rw[hfn];exact hc1
   refine BC (fun s=>s=⟨look [(0, .bp 0 0),(3, .bp 2 0),(4, .v (.int .i64 w.c.a0)),(5, .bp 3 0)],⟨[WA w cap,IB w cap,Al f,AZ (Ag w.s.spc.files f.file)],[]⟩⟩) ?_ ?_
   ·skip
    refine BR ([(0,WA w cap),(1,IB w cap),(2,Al f)]) 15 (h:=AE 0 (h:=BL 1 (h:=AA 2 (h:=AA 3 (h:=AA 4 (h:=A9 5 (h:=AA 6 (h:=A9 7 (h:=?_)))))))));refine Ft 8 12 rfl rfl ?_ ?_
    ·refine A8 (FJ w.s.spc.files f.file hsb.files) ?_;rintro r rfl;refine o_ (h:=?_);refine AE 9 (h:=BH 10 (h:=BH 11 (h:=?_)));refine c_ 12 rfl (Cb (by repeat constructor) ?_);refine o_ (h:=?_);refine B8 13 (h:=B9 14 (h:=z_ (h:=?_)));refine AR ?_;exact⟨_,rfl,Cr 4 0⟩
    refine Cb (by repeat constructor) ?_;refine o_ (h:=?_);refine c_ 8 rfl (A8 (FJ w.s.spc.files f.file hsb.files) ?_);rintro r rfl;refine o_ (h:=AE 9 (h:=BH 10 (h:=BH 11 (h:=?_))));refine B8 13 (h:=B9 14 (h:=z_ (h:=?_)));refine AR ?_;exact⟨_,rfl,Cr 4 0⟩
   rintro s rfl;refine D7 (h:=?_);refine BC (fun s=>s=⟨look [(0, .bp 0 0),(3, .bp 2 0),(4, .v (.int .i64 w.c.a0)),(5, .bp 3 0),(7, .v (.int .i64 (if CG w.c.a0 1=true then 4 else 0)))],⟨[WA w cap,IB w cap,Al f,AZ (Ag w.s.spc.files f.file)],[]⟩⟩) ?_ ?_
   ·skip
    refine Aa (h:=ES (h:=Bl (h:=?_)));refine A4 rfl (fun hb2 hc2=>?_) (fun hb2 hc2=>?_)
    ·have k0:CG w.c.a0 1=true:=by simpa[CG]using hc2
     refine Qx (h:=?_);refine⟨_,rfl,?_⟩
     (rw[if_pos k0];exact Cr 4 0)
    have k0:¬CG w.c.a0 1=true:=by simpa[CG]using hc2
    refine BG (AR (?_));refine⟨_,rfl,?_⟩
    first|(rw[if_pos k0];exact Cr 4 0)|(rw[if_neg k0];exact Cr 4 0)
   rintro s rfl;refine BC (fun s=>s=⟨look [(0, .bp 0 0),(3, .bp 2 0),(4, .v (.int .i64 w.c.a0)),(5, .bp 3 0),(7, .v (.int .i64 (MC w.c.a0)))],⟨[WA w cap,IB w cap,Al f,AZ (Ag w.s.spc.files f.file)],[]⟩⟩) ?_ ?_
   ·skip
    refine Aa (h:=ES (h:=Bl (h:=?_)));refine A4 rfl (fun hb3 hc3=>?_) (fun hb3 hc3=>?_)
    ·have k00:CG w.c.a0 18=true:=by simpa[CG]using hc3
     refine Qx (h:=?_);refine⟨_,rfl,?_⟩;unfold MC
     (rw[if_pos k00];exact Cr 4 0)
    have k00:¬CG w.c.a0 18=true:=by simpa[CG]using hc3
    refine BG (AR (?_));refine⟨_,rfl,?_⟩;unfold MC
    first|(rw[if_pos k00];exact Cr 4 0)|(rw[if_neg k00,Int.add_zero];exact Cr 4 0)
   rintro s rfl;refine BF (?_);refine BC (fun s=>s=⟨look [(0, .bp 0 0),(3, .bp 2 0),(4, .v (.int .i64 w.c.a0)),(5, .bp 3 0),(7, .v (.int .i64 (MC w.c.a0))),(48, .v (.bool (CG w.c.a0 4&&CG w.c.a0 8)))],⟨[WA w cap,IB w cap,Al f,AZ (Ag w.s.spc.files f.file)],[]⟩⟩) ?_ ?_
   ·skip
    refine C2 (h:=ES (h:=FD (h:=?_)));refine AJ true rfl rfl (fun hb4 hc4=>?_) (fun hb4 hc4=>?_)
    ·refine m_ (h:=ES (h:=Gd (h:=CD (h:=Cw (h:=?_)))));exact⟨_,rfl,Ah 4 0 rfl rfl rfl (by simp[AY,AT,AQ,Bq B5,BD,WA,IB,Cq,Al,AZ]) (by repeat (first|exact Sub.nil|refine Ai rfl rfl ?_|refine Ap ?_|refine Aq rfl ?_|refine Ar rfl ?_|(apply Sub.of;(focus exact rfl);(focus exact LeA.of_eq (vb (by simp[CG, *])));(focus exact rfl))))⟩
    refine Cu (h:=Cw (h:=?_));exact⟨_,rfl,Ah 4 0 rfl rfl rfl (by simp[AY,AT,AQ,Bq B5,BD,WA,IB,Cq,Al,AZ]) (by repeat (first|exact Sub.nil|refine Ai rfl rfl ?_|refine Ap ?_|refine Aq rfl ?_|refine Ar rfl ?_|(apply Sub.of;(focus exact rfl);(focus exact LeA.of_eq (vb (by simp[CG, *])));(focus exact rfl))))⟩
   rintro s rfl;refine A4 rfl (fun hb5 hc5=>?_) (fun hb5 hc5=>?_)
   ·have k1:CG w.c.a0 4=true∧CG w.c.a0 8=true:=by simpa using hc5
    refine CB (h:=?_);refine BU (r:= .v (.int .i64 (Cp w).2)) none (h5:=(by rw[Cp,if_pos hex,if_pos k1];exact A7 _)) (h6:=⟨rfl,rfl,?_⟩);rw[Cp,if_pos hex,if_pos k1];rfl
   have k1:¬(CG w.c.a0 4=true∧CG w.c.a0 8=true):=by simpa using hc5
   refine Ay (h:=EU (h:=?_));refine A4 rfl (fun hb6 hc6=>?_) (fun hb6 hc6=>?_)
   ·have k2:(Ag w.s.spc.files (B0 w 0).file).kind=3:=by rw[hfn];exact hc6
    refine CB (h:=?_);refine BU (r:= .v (.int .i64 (Cp w).2)) none (h5:=(by rw[Cp,if_pos hex,if_neg k1,if_pos k2];exact A7 _)) (h6:=⟨rfl,rfl,?_⟩);rw[Cp,if_pos hex,if_neg k1,if_pos k2];rfl
   have k2:¬(Ag w.s.spc.files (B0 w 0).file).kind=3:=by rw[hfn];exact hc6
   refine BC (fun s=>s=⟨look [(0, .bp 0 0),(3, .bp 2 0),(4, .v (.int .i64 w.c.a0)),(5, .bp 3 0),(7, .v (.int .i64 (MC w.c.a0))),(61, .v (.bool (decide ((Ag w.s.spc.files f.file).kind=2)&&CG w.c.a0 22)))],⟨[WA w cap,IB w cap,Al f,AZ (Ag w.s.spc.files f.file)],[]⟩⟩) ?_ ?_
   ·skip
    refine Aw (CN (h:=m_ (h:=?_)));refine AJ true rfl rfl (fun hb7 hc7=>?_) (fun hb7 hc7=>?_)
    ·refine m_ (h:=ES (h:=Gd (h:=CD (h:=Cw (h:=?_)))));exact⟨_,rfl,Ah 4 0 rfl rfl rfl (by simp[AY,AT,AQ,Bq B5,BD,WA,IB,Cq,Al,AZ]) (by repeat (first|exact Sub.nil|refine Ai rfl rfl ?_|refine Ap ?_|refine Aq rfl ?_|refine Ar rfl ?_|(apply Sub.of;(focus exact rfl);(focus exact LeA.of_eq (vb (by simp[CG, *])));(focus exact rfl))))⟩
    refine Cu (h:=Cw (h:=?_));exact⟨_,rfl,Ah 4 0 rfl rfl rfl (by simp[AY,AT,AQ,Bq B5,BD,WA,IB,Cq,Al,AZ]) (by repeat (first|exact Sub.nil|refine Ai rfl rfl ?_|refine Ap ?_|refine Aq rfl ?_|refine Ar rfl ?_|(apply Sub.of;(focus exact rfl);(focus exact LeA.of_eq (vb (by simp[CG, *])));(focus exact rfl))))⟩
   rintro s rfl;refine A4 rfl (fun hb8 hc8=>?_) (fun hb8 hc8=>?_)
   ·have k3:(Ag w.s.spc.files (B0 w 0).file).kind=2∧CG w.c.a0 22=true:=by rw[hfn];simpa using hc8
    refine CB (h:=?_);refine BU (r:= .v (.int .i64 (Cp w).2)) none (h5:=(by rw[Cp,if_pos hex,if_neg k1,if_neg k2,if_pos k3];exact A7 _)) (h6:=⟨rfl,rfl,?_⟩);rw[Cp,if_pos hex,if_neg k1,if_neg k2,if_pos k3];rfl
   have k3:¬((Ag w.s.spc.files (B0 w 0).file).kind=2∧CG w.c.a0 22=true):=by rw[hfn];simpa using hc8
   refine Aa (h:=AO (h:=m_ (h:=?_)));refine A3 rfl (Ds 1 rfl (.cons _ _ _ _ _ rfl (LeA.of_eq rfl) (.cons _ _ _ _ _ rfl (A7 _) (.cons _ _ _ _ _ rfl (A7 _) .nil))) (LG w .any f.file (MC w.c.a0) hsb) ?_);rintro r rfl;refine⟨rfl,?_⟩;refine Ck (h:=BO (h:=?_));refine A4 rfl (fun hb9 hc9=>?_) (fun hb9 hc9=>?_)
   ·have k4:CH w (B0 w 0).file (MC w.c.a0)=false:=by rw[hfn];simpa using hc9
    refine CB (h:=?_);refine BU (r:= .v (.int .i64 (Cp w).2)) none (h5:=(by rw[Cp,if_pos hex,if_neg k1,if_neg k2,if_neg k3,if_pos k4];exact A7 _)) (h6:=⟨rfl,rfl,?_⟩);rw[Cp,if_pos hex,if_neg k1,if_neg k2,if_neg k3,if_pos k4];rfl
   have k4:¬CH w (B0 w 0).file (MC w.c.a0)=false:=by rw[hfn];simpa using hc9
   refine BG (BA (AR (?_)));exact⟨_,⟨w,f,(by rw[Cp,if_pos hex,if_neg k1,if_neg k2,if_neg k3,if_neg k4,hfn]),htb,rfl⟩,Cr 3 0⟩
  have hex:¬(B0 w 0).ex=true:=by rw[hfn];simpa using hc1
  refine q_ (BF (Aa (h:=ES (h:=EU (h:=?_)))));refine A4 rfl (fun hb10 hc10=>?_) (fun hb10 hc10=>?_)
  ·have k1:CG w.c.a0 4=false:=by simp only[CG];simpa using hc10
   refine CB (h:=BN (?_));refine BU (r:= .v (.int .i64 (Cp w).2)) none (h5:=(by rw[Cp,if_neg hex,if_pos k1];exact A7 _)) (h6:=⟨rfl,rfl,?_⟩);rw[Cp,if_neg hex,if_pos k1];rfl
  have k1:¬CG w.c.a0 4=false:=by simp only[CG];simpa using hc10
  refine Ay (h:=BO (h:=?_));refine A4 rfl (fun hb11 hc11=>?_) (fun hb11 hc11=>?_)
  ·have k2:(B0 w 0).slash=true:=by rw[hfn];exact hc11
   refine CB (h:=BN (?_));refine BU (r:= .v (.int .i64 (Cp w).2)) none (h5:=(by rw[Cp,if_neg hex,if_neg k1,if_pos k2];exact A7 _)) (h6:=⟨rfl,rfl,?_⟩);rw[Cp,if_neg hex,if_neg k1,if_pos k2];rfl
  have k2:¬(B0 w 0).slash=true:=by rw[hfn];simpa using hc11
  refine Aa (h:=AO (h:=?_));refine A3 rfl (Ds 1 rfl (.cons _ _ _ _ _ rfl (LeA.of_eq rfl) (.cons _ _ _ _ _ rfl (A7 _) (.cons _ _ _ _ _ rfl (A7 _) .nil))) (LG w .any f.dir 2 hsb) ?_);rintro r rfl;refine⟨rfl,?_⟩;refine Ck (h:=BO (h:=?_));refine A4 rfl (fun hb12 hc12=>?_) (fun hb12 hc12=>?_)
  ·have k3:CH w (B0 w 0).dir 2=false:=by rw[hfn];simpa using hc12
   refine CB (h:=BN (?_));refine BU (r:= .v (.int .i64 (Cp w).2)) none (h5:=(by rw[Cp,if_neg hex,if_neg k1,if_neg k2,if_pos k3];exact A7 _)) (h6:=⟨rfl,rfl,?_⟩);rw[Cp,if_neg hex,if_neg k1,if_neg k2,if_pos k3];rfl
  have k3:¬CH w (B0 w 0).dir 2=false:=by rw[hfn];simpa using hc12
  refine BG (BA (t_ (De (h:=HQ (h:=f_ (h:=?_))))));refine A3 rfl (Bg (len:=4) (sz:=1) (n:=1) (by kernel_rfl) rfl rfl rfl rfl ?_);refine l_ (h:=?_);refine A3 rfl (H5 (y:= .agg (AZ (Kq w.c.a1))) (Du ⟨rfl,rfl⟩) ?_);refine A3 rfl (Bj [0,1] rfl (.cons _ _ _ _ _ rfl (A7 _) (.cons _ _ _ _ _ rfl (A7 _) (.cons _ _ _ _ _ rfl (A7 _) .nil))) (by decide) (.cons _ _ _ _ _ rfl rfl (.cons _ _ _ _ _ rfl (Dg B5 _ _ _) .nil)) (UV w cap 0 (Kq w.c.a1) f x hv.files hf hx hn (BE _) rfl) ?_);rintro r bc tc ⟨rfl,rfl,rfl⟩;refine⟨rfl,_,E8 rfl (D4 w 0 (Kq w.c.a1)).1 cap,?_⟩;refine Bt (h:=Bl (h:=?_));refine A4 rfl (fun hb13 hc13=>?_) (fun hb13 hc13=>?_)
  ·have k4:(D4 w 0 (Kq w.c.a1)).2≠0:=by simpa using hc13
   refine Aa (h:=Dd (h:=BN (?_)));refine BU (r:= .v (.int .i64 (Cp w).2)) none (h5:=(by rw[Cp,if_neg hex,if_neg k1,if_neg k2,if_neg k3,if_pos k4];exact A7 _)) (h6:=⟨rfl,rfl,?_⟩);rw[Cp,if_neg hex,if_neg k1,if_neg k2,if_neg k3,if_pos k4];rfl
  have k4:(D4 w 0 (Kq w.c.a1)).2=0:=by simpa using hc13
  obtain⟨c,hc⟩:=mH k4;have hrow2:((D4 w 0 (Kq w.c.a1)).1.r.changes.map Ek)[0]?=some (Ek c):=by rw[hc];rfl
  refine AG (C2 (h:=Dj (h:=?_)));refine A3 rfl (DE (n:=0) rfl rfl rfl hrow2 ?_);refine AO (h:=Jf (h:=?_))
  first|exact⟨_,⟨w,f,(by rw[Cp,if_pos hex,if_neg k1,if_neg k2,if_neg k3,if_neg k4,hfn]),htb,rfl⟩,Cr 3 0⟩|(obtain⟨q1,q2,q3⟩:=mJ w 0 (Kq w.c.a1);exact⟨_,⟨(D4 w 0 (Kq w.c.a1)).1,{f with file:=c.2.2.2},(by rw[Cp,if_neg hex,if_neg k1,if_neg k2,if_neg k3,if_neg (by simp[k4]),hc];rfl),by rw[q1];exact htb,rfl⟩,by rw[q3];exact Cr 3 0⟩)
 rintro s ⟨w2,F2,hop,htb2,rfl⟩;refine BC (fun s=>s=⟨look [(0, .bp 0 0),(9, .bp 3 0),(10, .v (.int .i64 (GW w2.s.tab w2.p.pid F2.file w2.c.a0).2.1)),(11, .v (.int .i64 (GW w2.s.tab w2.p.pid F2.file w2.c.a0).2.2))],⟨[WA w2 cap,IB w2 cap,Al F2,Ao (GW w2.s.tab w2.p.pid F2.file w2.c.a0).1],[]⟩⟩) ?_ ?_
 ·skip
  refine BR ([(0,WA w2 cap),(1,IB w2 cap),(2,Al F2)]) 22 (h:=AE 0 (h:=BL 1 (h:=AA 2 (h:=AA 3 (h:=A9 4 (h:=AE 5 (h:=BL 6 (h:=AA 7 (h:=AA 8 (h:=A9 9 (h:=AA 10 (h:=A9 11 (h:=AE 12 (h:=?_))))))))))))));refine Ft 13 18 rfl rfl ?_ ?_
  ·refine A8 (Yr w2.s.tab w2.p.pid F2.file w2.c.a0 htb2) ?_;rintro r rfl;refine o_ (h:=?_);refine AE 14 (h:=BH 15 (h:=BH 16 (h:=BH 17 (h:=?_))));refine c_ 18 rfl (Cb (by repeat constructor) ?_);refine o_ (h:=?_);refine B8 19 (h:=B9 20 (h:=B9 21 (h:=z_ (h:=?_))));refine AR ?_;exact⟨_,rfl,Cr 4 0⟩
  refine Cb (by repeat constructor) ?_;refine o_ (h:=?_);refine c_ 13 rfl (A8 (Yr w2.s.tab w2.p.pid F2.file w2.c.a0 htb2) ?_);rintro r rfl;refine o_ (h:=AE 14 (h:=BH 15 (h:=BH 16 (h:=BH 17 (h:=?_)))));refine B8 19 (h:=B9 20 (h:=B9 21 (h:=z_ (h:=?_))));refine AR ?_;exact⟨_,rfl,Cr 4 0⟩
 rintro s rfl;refine DA (h:=HQ (h:=DF (h:=Aa (h:=HA (h:=?_)))));refine A3 rfl (Bj [0,1] rfl (.cons _ _ _ _ _ rfl (A7 _) (.cons _ _ _ _ _ rfl (A7 _) (.cons _ _ _ _ _ rfl (A7 _) .nil))) (by decide) (.cons _ _ _ _ _ rfl rfl (.cons _ _ _ _ _ rfl (Dg B5 _ _ _) .nil)) (UT (Rh w2 (GW w2.s.tab w2.p.pid F2.file w2.c.a0).2.1) cap (GW w2.s.tab w2.p.pid F2.file w2.c.a0).1 (GW w2.s.tab w2.p.pid F2.file w2.c.a0).2.2) ?_);rintro r bc tc ⟨rfl,rfl,rfl⟩;refine⟨rfl,_,E8 rfl (LE w2 F2.file).1 cap,?_⟩;refine Az (h:=?_);refine BU (r:= .v (.int .i64 (Cp w).2)) none (h5:=(by rw[hop,LE,Li];exact A7 _)) (h6:=⟨rfl,rfl,?_⟩);rw[hop];rfl
end
theorem Yy{e:Int}{y x:AD}{c d:Bool}:(decide (e=0)&& !decide ((y.1,y.2)=(x.1,x.2))&&c&&d)=true↔(e=0∧y≠x∧c=true∧d=true):=by
 have:decide ((y.1,y.2)=(x.1,x.2))=decide (y=x):=rfl;rw[this];simp[and_assoc]
theorem Yz{w:Wrk}{R:FH}{x:AD}(h:(decide (R.2.2=0)&&decide (0<(R.2.1.length:Int)))=true):Le w R x=(Ko (Jr (BZ w R).1 0 3) 1 x,R.2.2):=by
 rw[Bool.and_eq_true]at h;have h1:=of_decide_eq_true h.1;unfold Le;rw[if_neg (by simp[h1]),if_pos (of_decide_eq_true h.2),h1]
theorem Z0{w:Wrk}{R:FH}{x:AD}(h:(decide (R.2.2=0)&&decide (0<(R.2.1.length:Int)))=false):Le w R x=((BZ w R).1,R.2.2):=by
 unfold Le;by_cases h0:R.2.2=0
 ·rw[if_neg (by simp[h0]),if_neg (by simpa[h0]using h),h0]
 rw[if_pos h0,Rl h0]
theorem Z1(w:Wrk)(i:Nat)(r:Int)(cap:Nat):WA (Jr w i r) cap=WA w cap:=by
 unfold WA Jr;simp only[List.length_modify];rfl
theorem Z2{w:Wrk}{i:Nat}{x:Itm}(hx:w.r.items[i]?=some x)(r:Int)(cap:Nat):IB (Jr w i r) cap=LB 13 CZ (w.r.items.set i {x with role:=r}) cap:=by
 unfold IB Jr;rw[Yw hx]
section
theorem mL(w:Wrk)(cap:Nat)(f g:Fnd)(x0 x1:Itm)(hv:SpcV w.s.spc)(hm:w.s.spc.mounts.length≤1000)(hps:w.s.tab.ps.length≤1000)(hf:w.found[0]?=some f)(hg:w.found[1]?=some g)(hx0:w.r.items[0]?=some x0)(hx1:w.r.items[1]?=some x1)(hn:f.name.size≤100000)(hn2:g.name.size≤100000):ACall prog 148 [.bp 0 0] [WA w cap,IB w cap] (fun r b t=>t=[]∧r= .v (.int .i64 (G9 w).2)∧b=[WA (G9 w).1 cap,IB (G9 w).1 cap]):=by
 have hsb:=hv.b hm;have hrow0:(w.found.map Al)[0]?=some (Al f):=by rw[List.getElem?_map,hf];rfl
 have hrow1:(w.found.map Al)[1]?=some (Al g):=by rw[List.getElem?_map,hg];rfl
 have hfn:B0 w 0=f:=by unfold B0;rw[hf];rfl
 have hgn:B0 w 1=g:=by unfold B0;rw[hg];rfl
 have hil:0<w.r.items.length:=(Af.1 hx0).1;obtain⟨R,hR⟩:∃R,R=G6 w.s.spc.files f.dir f.name g.dir g.name:=⟨_,rfl⟩;have hok:=Xm hv.files f.dir f.name g.dir g.name;rw[←hR]at hok;have hcall:AFn prog 175 [.agg (Au w.s.spc.files), .agg (AB f.dir), .v (.string f.name), .agg (AB g.dir), .v (.string g.name)] (fun r=>r=Ch R):=by rw[hR];exact iE _ _ _ _ _ hv.files hn hn2
 obtain⟨x,hxd⟩:∃x,x=(AM w.s.spc.files f.dir f.name).1:=⟨_,rfl⟩;obtain⟨y,hyd⟩:∃y,y=(AM w.s.spc.files g.dir g.name).1:=⟨_,rfl⟩;have hl1:AFn prog 134 [.agg (Au w.s.spc.files), .agg (AB f.dir), .v (.string f.name)] (fun r=>r= .tup [.agg (AB x), .v (.int .i64 (AM w.s.spc.files f.dir f.name).2)]):=by rw[hxd];exact L4 _ _ _ hsb.files
 have hl2:AFn prog 134 [.agg (Au w.s.spc.files), .agg (AB g.dir), .v (.string g.name)] (fun r=>r= .tup [.agg (AB y), .v (.int .i64 (AM w.s.spc.files g.dir g.name).2)]):=by rw[hyd];exact L4 _ _ _ hsb.files
 obtain⟨e2,he2⟩:∃e,e=(AM w.s.spc.files g.dir g.name).2:=⟨_,rfl⟩;rw[←he2]at hl2
 have hren:G9 w=if f.ex=false then(w,2)else if f.name=⟨#[]⟩∨g.name=⟨#[]⟩then(w,16)else if g.slash=true∧Ac w.s.spc.files f.file=false then(w,20)else if f.dir.1≠g.dir.1 then(w,18)else if CH w f.dir 2=false∨CH w g.dir 2=false then(w,13)else if e2=0∧y≠x∧Ac w.s.spc.files y=true∧Jq w y=true then(w,16)else Le w R x:=by
  unfold G9 Kn;rw[hfn,hgn,←hxd,←hyd,←he2,←hR]
 clear hxd hyd he2 hR;refine enter Tryz.func148 rfl rfl rfl rfl rfl 2 rfl ?_;refine D7 (h:=?_);refine BC (fun s=>s=⟨look [(0, .bp 0 0),(3, .bp 2 0),(4, .bp 3 0)],⟨[WA w cap,IB w cap,Al f,Al g],[]⟩⟩) ?_ ?_
 ·skip
  refine BR ([(0,WA w cap)]) 16 (h:=AE 0 (h:=BL 1 (h:=AA 2 (h:=A9 3 (h:=?_)))));refine C5 4 rfl (fun _ hS=>DE (n:=0) rfl rfl rfl hrow0 ⟨rfl,rfl⟩) ?_;refine A9 5 (h:=AE 6 (h:=BL 7 (h:=AA 8 (h:=A9 9 (h:=?_)))));refine C5 10 rfl (fun _ hS=>DE (n:=1) rfl rfl rfl hrow1 ⟨rfl,rfl⟩) ?_;refine A9 11 (h:=?_);refine Ft 12 13 rfl rfl ?_ ?_
  ·refine Cb (by repeat constructor) ?_;refine o_ (h:=?_);refine c_ 13 rfl (Cb (by repeat constructor) ?_);refine o_ (h:=?_);refine B8 14 (h:=?_);refine B8 15 (h:=z_ (h:=?_));refine AR ?_;exact⟨_,rfl,Cr 4 0⟩
  refine Cb (by repeat constructor) ?_;refine o_ (h:=?_);refine c_ 12 rfl (Cb (by repeat constructor) ?_);refine o_ (h:=?_);refine B8 14 (h:=?_);refine B8 15 (h:=z_ (h:=?_));refine AR ?_
  first|exact⟨_,rfl,Cr 4 0⟩|exact⟨_,rfl,Ga [0,1,3,2] RQ (by decide) (.cons _ _ _ _ _ rfl rfl (.cons _ _ _ _ _ rfl (MD B5 _ _ _) (.cons _ _ _ _ _ rfl rfl (.cons _ _ _ _ _ rfl rfl .nil)))) (by repeat (first|exact SubK.nil|refine SubK.cons _ _ _ _ rfl (A7 _) ?_))⟩
 rintro s rfl;refine q_ (BF (Ay (h:=Ck (h:=BO (h:=?_)))));refine A4 rfl (fun hb1 hc1=>?_) (fun hb1 hc1=>?_)
 ·have k1:f.ex=false:=by simpa using hc1
  refine CB (h:=?_);refine BU (r:= .v (.int .i64 (G9 w).2)) none (h5:=(by rw[hren,if_pos k1];exact A7 _)) (h6:=⟨rfl,rfl,?_⟩);rw[hren,if_pos k1];rfl
 have k1:¬f.ex=false:=by simpa using hc1
 refine BC (fun s=>s=⟨look [(0, .bp 0 0),(3, .bp 2 0),(4, .bp 3 0),(26, .v (.bool (decide (f.name=⟨#[]⟩)||decide (g.name=⟨#[]⟩))))],⟨[WA w cap,IB w cap,Al f,Al g],[]⟩⟩) ?_ ?_
 ·skip
  refine Aw (CN (h:=m_ (h:=?_)));refine AJ false rfl rfl (fun hb2 hc2=>?_) (fun hb2 hc2=>?_)
  ·refine Fu (h:=Cw (h:=?_));exact⟨_,rfl,CM 4 0 (by simp[AY,AT,AQ,Bq B5,BD,WA,IB,Cq,Al])⟩
  refine CN (h:=Bh (h:=Cw (h:=?_)));exact⟨_,rfl,CM 4 0 (by simp[AY,AT,AQ,Bq B5,BD,WA,IB,Cq,Al])⟩
 rintro s rfl;refine A4 rfl (fun hb3 hc3=>?_) (fun hb3 hc3=>?_)
 ·have k2:f.name=⟨#[]⟩∨g.name=⟨#[]⟩:=by simpa using hc3
  refine CB (h:=?_);refine BU (r:= .v (.int .i64 (G9 w).2)) none (h5:=(by rw[hren,if_neg k1,if_pos k2];exact A7 _)) (h6:=⟨rfl,rfl,?_⟩);rw[hren,if_neg k1,if_pos k2];rfl
 have k2:¬(f.name=⟨#[]⟩∨g.name=⟨#[]⟩):=by simpa using hc3
 refine BC (fun s=>s=⟨look [(0, .bp 0 0),(3, .bp 2 0),(4, .bp 3 0),(35, .v (.bool (g.slash&& !Ac w.s.spc.files f.file)))],⟨[WA w cap,IB w cap,Al f,Al g],[]⟩⟩) ?_ ?_
 ·skip
  refine Aw (AO (h:=m_ (h:=?_)));refine AJ true rfl rfl (fun hb4 hc4=>?_) (fun hb4 hc4=>?_)
  ·refine m_ (h:=?_);refine As (Ds 1 rfl (.cons _ _ _ _ _ rfl (LeA.of_eq rfl) (.cons _ _ _ _ _ rfl (A7 _) .nil)) (Mx w .any 0 f hsb hf) ?_);rintro r rfl;refine⟨rfl,?_⟩;refine Ck (h:=CD (h:=Cw (h:=?_)));exact⟨_,rfl,CM 4 0 (by simp[AY,AT,AQ,Bq B5,BD,WA,IB,Cq,Al])⟩
  refine Cu (h:=Cw (h:=?_));exact⟨_,rfl,CM 4 0 (by simp[AY,AT,AQ,Bq B5,BD,WA,IB,Cq,Al])⟩
 rintro s rfl;refine A4 rfl (fun hb5 hc5=>?_) (fun hb5 hc5=>?_)
 ·have k3:g.slash=true∧Ac w.s.spc.files f.file=false:=by simpa using hc5
  refine CB (h:=?_);refine BU (r:= .v (.int .i64 (G9 w).2)) none (h5:=(by rw[hren,if_neg k1,if_neg k2,if_pos k3];exact A7 _)) (h6:=⟨rfl,rfl,?_⟩);rw[hren,if_neg k1,if_neg k2,if_pos k3];rfl
 have k3:¬(g.slash=true∧Ac w.s.spc.files f.file=false):=by simpa using hc5
 refine FZ (h:=Hn (h:=Gd (h:=BO (h:=?_))));refine A4 rfl (fun hb6 hc6=>?_) (fun hb6 hc6=>?_)
 ·have k4:f.dir.1≠g.dir.1:=by simpa using hc6
  refine CB (h:=?_);refine BU (r:= .v (.int .i64 (G9 w).2)) none (h5:=(by rw[hren,if_neg k1,if_neg k2,if_neg k3,if_pos k4];exact A7 _)) (h6:=⟨rfl,rfl,?_⟩);rw[hren,if_neg k1,if_neg k2,if_neg k3,if_pos k4];rfl
 have k4:¬f.dir.1≠g.dir.1:=by simpa using hc6
 refine BC (fun s=>s=⟨look [(0, .bp 0 0),(3, .bp 2 0),(4, .bp 3 0),(51, .v (.bool (!CH w f.dir 2|| !CH w g.dir 2)))],⟨[WA w cap,IB w cap,Al f,Al g],[]⟩⟩) ?_ ?_
 ·skip
  refine C2 (h:=AO (h:=?_));refine A3 rfl (Ds 1 rfl (.cons _ _ _ _ _ rfl (LeA.of_eq rfl) (.cons _ _ _ _ _ rfl (A7 _) (.cons _ _ _ _ _ rfl (A7 _) .nil))) (LG w .any f.dir 2 hsb) ?_);rintro r rfl;refine⟨rfl,?_⟩;refine EH (h:=?_);refine AJ false rfl rfl (fun hb7 hc7=>?_) (fun hb7 hc7=>?_)
  ·refine BY (h:=Fu (h:=Cw (h:=?_)));exact⟨_,rfl,CM 4 0 (by simp[AY,AT,AQ,Bq B5,BD,WA,IB,Cq,Al])⟩
  refine m_ (h:=AO (h:=?_));refine As (Ds 1 rfl (.cons _ _ _ _ _ rfl (LeA.of_eq rfl) (.cons _ _ _ _ _ rfl (A7 _) (.cons _ _ _ _ _ rfl (A7 _) .nil))) (LG w .any g.dir 2 hsb) ?_);rintro r rfl;refine⟨rfl,?_⟩;refine Ck (h:=Bh (h:=Cw (h:=?_)));exact⟨_,rfl,CM 4 0 (by simp[AY,AT,AQ,Bq B5,BD,WA,IB,Cq,Al])⟩
 rintro s rfl;refine A4 rfl (fun hb8 hc8=>?_) (fun hb8 hc8=>?_)
 ·have k5:CH w f.dir 2=false∨CH w g.dir 2=false:=by simpa using hc8
  refine CB (h:=?_);refine BU (r:= .v (.int .i64 (G9 w).2)) none (h5:=(by rw[hren,if_neg k1,if_neg k2,if_neg k3,if_neg k4,if_pos k5];exact A7 _)) (h6:=⟨rfl,rfl,?_⟩);rw[hren,if_neg k1,if_neg k2,if_neg k3,if_neg k4,if_pos k5];rfl
 have k5:¬(CH w f.dir 2=false∨CH w g.dir 2=false):=by simpa using hc8
 refine BG (BA (t_ (?_)));refine BC (fun s=>s=⟨look [(0, .bp 0 0),(3, .bp 2 0),(4, .bp 3 0),(5, .bp 4 0)],⟨[WA w cap,IB w cap,Al f,Al g,AB x],[]⟩⟩) ?_ ?_
 ·skip
  refine BR ([(0,WA w cap),(1,IB w cap),(2,Al f),(3,Al g)]) 17 (h:=AE 0 (h:=BL 1 (h:=AA 2 (h:=AA 3 (h:=AA 4 (h:=A9 5 (h:=AA 6 (h:=A9 7 (h:=AA 8 (h:=A9 9 (h:=?_)))))))))));refine Ft 10 14 rfl rfl ?_ ?_
  ·refine A8 (hl1) ?_;rintro r rfl;refine o_ (h:=?_);refine AE 11 (h:=BH 12 (h:=BH 13 (h:=?_)));refine c_ 14 rfl (Cb (by repeat constructor) ?_);refine o_ (h:=?_);refine B8 15 (h:=B9 16 (h:=z_ (h:=?_)));refine AR ?_;exact⟨_,rfl,Cr 5 0⟩
  refine Cb (by repeat constructor) ?_;refine o_ (h:=?_);refine c_ 10 rfl (A8 (hl1) ?_);rintro r rfl;refine o_ (h:=AE 11 (h:=BH 12 (h:=BH 13 (h:=?_))));refine B8 15 (h:=B9 16 (h:=z_ (h:=?_)));refine AR ?_;exact⟨_,rfl,Cr 5 0⟩
 rintro s rfl;refine q_ (?_);refine BC (fun s=>s=⟨look [(0, .bp 0 0),(3, .bp 2 0),(4, .bp 3 0),(5, .bp 4 0),(7, .bp 5 0),(8, .v (.int .i64 e2))],⟨[WA w cap,IB w cap,Al f,Al g,AB x,AB y],[]⟩⟩) ?_ ?_
 ·skip
  refine BR ([(0,WA w cap),(1,IB w cap),(2,Al f),(3,Al g),(4,AB x)]) 17 (h:=AE 0 (h:=BL 1 (h:=AA 2 (h:=AA 3 (h:=AA 4 (h:=A9 5 (h:=AA 6 (h:=A9 7 (h:=AA 8 (h:=A9 9 (h:=?_)))))))))));refine Ft 10 14 rfl rfl ?_ ?_
  ·refine A8 (hl2) ?_;rintro r rfl;refine o_ (h:=?_);refine AE 11 (h:=BH 12 (h:=BH 13 (h:=?_)));refine c_ 14 rfl (Cb (by repeat constructor) ?_);refine o_ (h:=?_);refine B8 15 (h:=B9 16 (h:=z_ (h:=?_)));refine AR ?_;exact⟨_,rfl,Cr 6 0⟩
  refine Cb (by repeat constructor) ?_;refine o_ (h:=?_);refine c_ 10 rfl (A8 (hl2) ?_);rintro r rfl;refine o_ (h:=AE 11 (h:=BH 12 (h:=BH 13 (h:=?_))));refine B8 15 (h:=B9 16 (h:=z_ (h:=?_)));refine AR ?_;exact⟨_,rfl,Cr 6 0⟩
 rintro s rfl;refine BC (fun s=>s=⟨look [(0, .bp 0 0),(3, .bp 2 0),(4, .bp 3 0),(5, .bp 4 0),(113, .v (.bool (decide (e2=0)&& !decide ((y.1,y.2)=(x.1,x.2))&&Ac w.s.spc.files y&&Jq w y)))],⟨[WA w cap,IB w cap,Al f,Al g,AB x],[]⟩⟩) ?_ ?_
 ·skip
  refine Ct 22 (h:=AE 0 (h:=JF 1 (h:=AE 2 (h:=?_))));refine GD (j:=2) rfl (fun hb9=>?_) (fun hb9=>?_)
  ·have hc9:=bp hb9;refine A9 3 (h:=A9 4 (h:=?_));refine F9 (i:=5) rfl (GF rfl rfl (by repeat constructor) (by repeat constructor) (fun w=>T4 _ _ _ _ w) (by kernel_rfl) ⟨rfl,rfl⟩) ?_;refine Hk 6 (h:=AE 7 (h:=?_));refine GD (j:=7) rfl (fun hb10=>?_) (fun hb10=>?_)
   ·have hc10:=bp hb10;refine AE 8 (h:=BL 9 (h:=AA 10 (h:=AA 11 (h:=AA 12 (h:=A9 13 (h:=A9 14 (h:=?_)))))));refine c_ 15 rfl (A8 (L3 w.s.spc.files y hsb.files) ?_);rintro r rfl;refine o_ (h:=Hk 16 (h:=AE 17 (h:=?_)));refine GD (j:=17) rfl (fun hb11=>?_) (fun hb11=>?_)
    ·have hc11:=bp hb11;refine AE 18 (h:=A9 19 (h:=?_));refine c_ 20 rfl (Ds 1 rfl (.cons _ _ _ _ _ rfl (LeA.of_eq rfl) (.cons _ _ _ _ _ rfl (A7 _) .nil)) (Yt w .any y hsb hps) ?_);rintro r rfl;refine⟨rfl,?_⟩;refine o_ (h:=Hk 21 (h:=z_ (h:=?_)));refine AR ?_;exact⟨_,rfl,Ah 5 0 rfl rfl rfl (by simp[AY,AT,AQ,Bq B5,BD,WA,IB,Cq,Al,AB]) (by repeat (first|exact Sub.nil|refine Ai rfl rfl ?_|refine Ap ?_|refine Aq rfl ?_|refine Ar rfl ?_|(apply Sub.of;(focus exact rfl);(focus exact LeA.of_eq (vb (by first|(simp[*];done)|(simp only[*,decide_true,decide_false,Bool.not_true,Bool.not_false,Bool.true_and,Bool.and_true,Bool.false_and,Bool.and_false]))));(focus exact rfl))))⟩
    have hc11:=bp hb11;refine Aj 18 (h:=Aj 19 (h:=Aj 20 (h:=FB 21 (h:=z_ (h:=?_)))));refine AR ?_;exact⟨_,rfl,Ah 5 0 rfl rfl rfl (by simp[AY,AT,AQ,Bq B5,BD,WA,IB,Cq,Al,AB]) (by repeat (first|exact Sub.nil|refine Ai rfl rfl ?_|refine Ap ?_|refine Aq rfl ?_|refine Ar rfl ?_|(apply Sub.of;(focus exact rfl);(focus exact LeA.of_eq (vb (by first|(simp[*];done)|(simp only[*,decide_true,decide_false,Bool.not_true,Bool.not_false,Bool.true_and,Bool.and_true,Bool.false_and,Bool.and_false]))));(focus exact rfl))))⟩
   have hc10:=bp hb10;refine Aj 8 (h:=Aj 9 (h:=Aj 10 (h:=Aj 11 (h:=Aj 12 (h:=Aj 13 (h:=Aj 14 (h:=Aj 15 (h:=FB 16 (h:=AE 17 (h:=Aj 18 (h:=Aj 19 (h:=Aj 20 (h:=FB 21 (h:=z_ (h:=?_)))))))))))))));refine AR ?_;exact⟨_,rfl,Ah 5 0 rfl rfl rfl (by simp[AY,AT,AQ,Bq B5,BD,WA,IB,Cq,Al,AB]) (by repeat (first|exact Sub.nil|refine Ai rfl rfl ?_|refine Ap ?_|refine Aq rfl ?_|refine Ar rfl ?_|(apply Sub.of;(focus exact rfl);(focus exact LeA.of_eq (vb (by first|(simp[*];done)|(simp only[*,decide_true,decide_false,Bool.not_true,Bool.not_false,Bool.true_and,Bool.and_true,Bool.false_and,Bool.and_false]))));(focus exact rfl))))⟩
  have hc9:=bp hb9;refine Aj 3 (h:=Aj 4 (h:=Aj 5 (h:=FB 6 (h:=AE 7 (h:=Aj 8 (h:=Aj 9 (h:=Aj 10 (h:=Aj 11 (h:=Aj 12 (h:=Aj 13 (h:=Aj 14 (h:=Aj 15 (h:=FB 16 (h:=AE 17 (h:=Aj 18 (h:=Aj 19 (h:=Aj 20 (h:=FB 21 (h:=z_ (h:=?_))))))))))))))))))));refine AR ?_;exact⟨_,rfl,Ah 5 0 rfl rfl rfl (by simp[AY,AT,AQ,Bq B5,BD,WA,IB,Cq,Al,AB]) (by repeat (first|exact Sub.nil|refine Ai rfl rfl ?_|refine Ap ?_|refine Aq rfl ?_|refine Ar rfl ?_|(apply Sub.of;(focus exact rfl);(focus exact LeA.of_eq (vb (by first|(simp[*];done)|(simp only[*,decide_true,decide_false,Bool.not_true,Bool.not_false,Bool.true_and,Bool.and_true,Bool.false_and,Bool.and_false]))));(focus exact rfl))))⟩
 rintro s rfl;refine A4 rfl (fun hb12 hc12=>?_) (fun hb12 hc12=>?_)
 ·have k6:=Yy.1 hb12;refine BK (h:=?_);refine BU (r:= .v (.int .i64 (G9 w).2)) none (h5:=(by rw[hren,if_neg k1,if_neg k2,if_neg k3,if_neg k4,if_neg k5,if_pos k6];exact A7 _)) (h6:=⟨rfl,rfl,?_⟩);rw[hren,if_neg k1,if_neg k2,if_neg k3,if_neg k4,if_neg k5,if_pos k6];rfl
 have k6:¬(e2=0∧y≠x∧Ac w.s.spc.files y=true∧Jq w y=true):=fun h=>by rw[Yy.2 h]at hb12;cases hb12
 refine AG (q_ (BR ([(0,WA w cap),(1,IB w cap),(2,Al f),(3,Al g)]) 19 (h:=AE 0 (h:=AE 1 (h:=BL 2 (h:=AA 3 (h:=AA 4 (h:=AA 5 (h:=A9 6 (h:=AA 7 (h:=A9 8 (h:=AA 9 (h:=A9 10 (h:=AA 11 (h:=A9 12 (h:=AA 13 (h:=A9 14 (h:=?_))))))))))))))))));refine c_ 15 rfl (A8 (hcall) ?_);rintro r rfl;refine o_ (h:=BH 16 (h:=BH 17 (h:=BH 18 (h:=?_))));refine c_ 19 rfl (Bj [0,1] rfl (.cons _ _ _ _ _ rfl (A7 _) (.cons _ _ _ _ _ rfl (A7 _) (.cons _ _ _ _ _ rfl (A7 _) (.cons _ _ _ _ _ rfl (A7 _) .nil)))) (by decide) (.cons _ _ _ _ _ rfl rfl (.cons _ _ _ _ _ rfl (Dg B5 _ _ _) .nil)) (OZ w cap R.1 R.2.1 R.2.2) ?_);rintro r bc tc ⟨rfl,rfl,rfl⟩;refine⟨rfl,_,E8 rfl (BZ w R).1 cap,?_⟩;refine o_ (h:=?_);refine c_ 20 rfl (J9 rfl ?_);refine HG (h:=t_ (q_ (?_)));refine BC (fun s=>s=⟨look [(0, .bp 0 0),(5, .bp 4 0),(9, .v (.int .i64 R.2.2)),(144, .v (.bool (decide (R.2.2=0)&&decide (0<(R.2.1.length:Int)))))],⟨[WA (BZ w R).1 cap,IB (BZ w R).1 cap,Al f,Al g,AB x],[]⟩⟩) ?_ ?_
 ·skip
  refine C2 (h:=E4 (h:=?_));refine AJ true rfl rfl (fun hb13 hc13=>?_) (fun hb13 hc13=>?_)
  ·have hch:(BZ w R).1.r.changes=R.2.1:=by rw[MH hc13]
   refine m_ (h:=Dj (h:=FW (h:=FE (h:=?_))));exact⟨_,rfl,CM 5 0 (by simp[AY,AT,AQ,Bq B5,BD,WA,IB,Cq,Al,AB])⟩
  refine BB (h:=Cu (h:=GH (h:=?_)));exact⟨_,rfl,CM 5 0 (by simp[AY,AT,AQ,Bq B5,BD,WA,IB,Cq,Al,AB])⟩
 rintro s rfl;refine A4 rfl (fun hb14 hc14=>?_) (fun hb14 hc14=>?_)
 ·have h0:R.2.2=0:=of_decide_eq_true ((Bool.and_eq_true _ _).mp hb14).1;have hfb:FlsB (Jr (BZ w R).1 0 3).s.spc.files:=by rw[MH h0];exact(hok h0).1.b
  have hit:(BZ w R).1.r.items=w.r.items:=by rw[MH h0]
  have hxa:(BZ w R).1.r.items[0]?=some x0:=by rw[hit];exact hx0
  have hil1:0<(BZ w R).1.r.items.length:=by rw[hit];exact hil
  have hxr:(Jr (BZ w R).1 0 3).r.items[1]?=some x1:=by
   show((BZ w R).1.r.items.modify 0 _)[1]?=_;rw[hit,List.getElem?_modify];simp[hx1]
  refine BC (fun s=>s=⟨look [(0, .bp 0 0),(5, .bp 4 0),(9, .v (.int .i64 R.2.2))],⟨[WA (Jr (BZ w R).1 0 3) cap,IB (Jr (BZ w R).1 0 3) cap,Al f,Al g,AB x],[]⟩⟩) ?_ ?_
  ·skip
   refine C2 (h:=Dj (h:=?_));refine A3 rfl (E1 (m:=0) rfl rfl rfl hil1 ?_);refine f_ (h:=?_);refine Mc (Ep rfl rfl rfl rfl rfl rfl (ME B5 (x':={x0 with role:=3}) hxa (by repeat constructor) (List.cons_ne_nil _ _)) (by repeat constructor) ?_);refine GH (h:=?_);refine⟨_,rfl,?_⟩;rw[Z1,Z2 hxa];exact Cr 5 0
  rintro s rfl;refine C2 (h:=l_ (h:=?_));refine A3 rfl (Bj [0,1] rfl (.cons _ _ _ _ _ rfl (A7 _) (.cons _ _ _ _ _ rfl (A7 _) (.cons _ _ _ _ _ rfl (A7 _) .nil))) (by decide) (.cons _ _ _ _ _ rfl rfl (.cons _ _ _ _ _ rfl (Dg B5 _ _ _) .nil)) (UU (Jr (BZ w R).1 0 3) cap 1 x x1 hfb hxr) ?_);rintro r bc tc ⟨rfl,rfl,rfl⟩;refine⟨rfl,_,E8 rfl (Ko (Jr (BZ w R).1 0 3) 1 x) cap,?_⟩;refine e_ (Dv (h:=?_));refine BU (r:= .v (.int .i64 (G9 w).2)) none (h5:=(by rw[hren,if_neg k1,if_neg k2,if_neg k3,if_neg k4,if_neg k5,if_neg k6,Yz hb14];exact A7 _)) (h6:=⟨rfl,rfl,?_⟩);rw[hren,if_neg k1,if_neg k2,if_neg k3,if_neg k4,if_neg k5,if_neg k6,Yz hb14];rfl
 refine AG (Dv (h:=?_));refine BU (r:= .v (.int .i64 (G9 w).2)) none (h5:=(by rw[hren,if_neg k1,if_neg k2,if_neg k3,if_neg k4,if_neg k5,if_neg k6,Z0 hb14];exact A7 _)) (h6:=⟨rfl,rfl,?_⟩);rw[hren,if_neg k1,if_neg k2,if_neg k3,if_neg k4,if_neg k5,if_neg k6,Z0 hb14];rfl
end
end Go.Proofs.YtbgnigjfkbmceaaGreatDoor
