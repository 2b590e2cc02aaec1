/- Part 6 of the proof of FilterBehindP. -/
import Derived.Test.YtbgnigjfkbmceaaGreatDoorQj5
open Go.Proofs.Tryz (prog)
set_option maxRecDepth 10000
set_option maxHeartbeats 4000000
set_option linter.unusedVariables false
set_option linter.unusedSimpArgs false
namespace Go.Proofs.YtbgnigjfkbmceaaGreatDoor
open Go.RowKit
theorem b6:∀(l:List Dsc) (k:Nat),Ge k l<=k+l.length
 |[],k=>As _
 |d::l,k=>by
   unfold Ge;split
   ·have:=b6 l (k+1);simp only[List.length_cons];omega
   omega
theorem sG{α:Type}{l:List α}{j:Nat}{x:α}(h:l[j]?=some x):l.drop j=x::l.drop (j+1):=by
 obtain⟨hl,rfl⟩:=AZ.1 h;exact List.drop_eq_getElem_cons hl
def b7(p:Prc)(x:AV):List AV:=[.v (.int .i64 p.pid), .v (.int .i64 p.ppid), .v (.int .i64 p.uid), .v (.int .i64 p.euid), .v (.int .i64 p.gid), .v (.int .i64 p.egid), .v (.int .i64 p.auid), .v (.int .i64 p.ses), .v (.int .i64 p.cwd.1), .v (.int .i64 p.cwd.2), .v (.string p.comm), .v (.string p.exe),x, .v (.bool p.audited)]
theorem b8(p:Prc)(rows:List (List AV))(g:Option Nat)(l:List Dsc)(h:rows=l.map Hj):LeA (.agg (b7 p (.sl 4 rows g))) (.agg (Ar {p with opens:=l})):=by
 subst h;unfold b7 Ar
 repeat (first|exact A6 _|exact LeA.tok _ _ _|refine LeA.agg ?_|exact LeL.nil|refine LeL.cons ?_ ?_)
def D9(R:Tab×Int):AV:= .tup [.agg (Ao R.1), .v (.int .i64 R.2)]
def Mg(R:Tab×Int×Int):AV:= .tup [.agg (Ao R.1), .v (.int .i64 R.2.1), .v (.int .i64 R.2.2)]
theorem Gi(e:Int):LeA (.tup [.agg Dq, .v (.int .i64 e)]) (D9 (EZ,e)):=(by repeat (first|exact A6 _|exact LeA.nil _|exact LeL.refl _|refine LeA.agg ?_|refine LeA.tup ?_|exact LeL.nil|refine LeL.cons ?_ ?_|exact LeA.any _))
theorem Qb(n e:Int):LeA (.tup [.agg Dq, .v (.int .i64 n), .v (.int .i64 e)]) (Mg (EZ,n,e)):=(by repeat (first|exact A6 _|exact LeA.nil _|exact LeL.refl _|refine LeA.agg ?_|refine LeA.tup ?_|exact LeL.nil|refine LeL.cons ?_ ?_|exact LeA.any _))
def SX(R:Syst×Int):AV:= .tup [.agg (Cb R.1), .v (.int .i64 R.2)]
def DA(w:Wrk):AV:= .sl 8 (w.found.map Ah) none
section
theorem bA(t:Tab)(pid:Int)(a:A8)(flags:Int)(ht:TabB t):AFn prog 199 [.agg (Ao t), .v (.int .i64 pid), .agg (AB a), .v (.int .i64 flags)] (fun r=>r=Mg (Gz t pid a flags)):=by
 have h8:=KC ht pid;have hol:((AP t pid).opens.map Hj).length=(AP t pid).opens.length:=List.length_map _;have hfl:Ge 0 (AP t pid).opens<=(AP t pid).opens.length:=by have:=b6 (AP t pid).opens 0;omega
 refine enter Tryz.func199 rfl rfl rfl rfl rfl 0 rfl ?_;refine Ef (h:=a_ (h:=Ay (h:=Fy (h:=?_))));refine AK (Kk t pid ht) ?_;refine HQ (h:=?_);refine A3 rfl (fun kd ka=>?_) (fun kd ka=>?_)
 ·refine Fh (h:=?_);refine AO (r:=Mg (Gz t pid a flags)) none (h5:=?_) (h6:=⟨rfl,rfl,rfl⟩);rw[Gz,if_pos (by simpa using ka)];exact Qb _ _
 have ym:Ca t pid=true:=by simpa using ka
 refine DF (h:=n_ (h:=Dt (h:=e_ (?_))));refine A3 rfl (fun ke kc=>?_) (fun ke kc=>?_)
 ·refine Fh (h:=?_);refine AO (r:=Mg (Gz t pid a flags)) none (h5:=?_) (h6:=⟨rfl,rfl,rfl⟩);rw[Gz,if_neg (by simp[ym]),if_pos (by omega)];exact Qb _ _
 refine AG (DZ (h:=?_));refine BD (fun s=>s=⟨look [(3, .v (.int .i64 flags)),(4, .bp 0 0),(6, .bp 1 0),(8, .bp 2 0),(11, .bp 3 0),(13, .v (.int .i64 (Ge 0 (AP t pid).opens:Nat)))],⟨[Ao t,AB a,Dq,Ar (AP t pid)],[]⟩⟩) ?_ ?_
 ·refine BF (?_);refine BL (fun m s=>∃j:Nat,j<=(AP t pid).opens.length/\m=(AP t pid).opens.length - j/\Ge 0 (AP t pid).opens=Ge j ((AP t pid).opens.drop j)/\s=⟨look [(3, .v (.int .i64 flags)),(4, .bp 0 0),(6, .bp 1 0),(8, .bp 2 0),(11, .bp 3 0),(13, .v (.int .i64 (j:Int)))],⟨[Ao t,AB a,Dq,Ar (AP t pid)],[]⟩⟩) ((AP t pid).opens.length) ((wk 4 0)) (⟨0,BG _,rfl,rfl,rfl⟩) ?_;rintro m s ⟨j,hj,rfl,hfd,rfl⟩;refine Tn (h:=EG (h:=?_));refine AF true rfl rfl (fun kh kf=>?_) (fun kh kf=>?_)
  ·obtain⟨hlt,d,hy,ya, -⟩:=Bx Hj kf;have hdr:=sG hy;refine Eu (h:=i_ (h:=Ac (h:=EJ (h:=Bm (h:=e_ (?_))))));refine A3 rfl (fun kl kg=>?_) (fun kl kg=>?_)
   ·have heq:d.fd=(j:Int):=by simpa using kg
    refine AG (BF (Nj (h:=Bz (AT (?_)))));refine⟨_,_,?_,⟨j+1,by omega,rfl,by rw[hfd,hdr,Ge,if_pos heq],rfl⟩,(wk 4 0)⟩;omega
   have hend:Ge 0 (AP t pid).opens=j:=by rw[hfd,hdr,Ge,if_neg (by simpa using kg)]
   refine LS (h:=AT (?_));refine⟨_,rfl,?_⟩;rw[hend];exact(wk 4 0)
  have hend:Ge 0 (AP t pid).opens=j:=by rw[hfd,CA Hj hj kf,List.drop_length];rfl
  refine CO (h:=CO (h:=GC (h:=LS (h:=AT (?_)))));refine⟨_,rfl,?_⟩;rw[hend];exact(wk 4 0)
 rintro s rfl;refine F8 (h:=?_);refine A7 (TJ (k:=Ge 0 (AP t pid).opens) rfl rfl rfl (by omega) ?_);refine A7 (N0 rfl rfl (by simp;omega) (by repeat constructor) ?_);refine Cl (h:=m_ (h:=GD (h:=Bd (h:=BT (h:=?_)))));refine A7 (G7 rfl rfl rfl (by simp;omega) (by repeat constructor) ?_);refine Cl (h:=Eu (h:=?_));refine A7 (TK (l:=Ge 0 (AP t pid).opens) rfl rfl rfl (by omega) ?_);refine A7 (G7 rfl rfl rfl (by simp;omega) (by repeat constructor) ?_);refine Cg (h:=Bw (h:=?_));refine A7 (JC (y:= .agg (Ar {AP t pid with opens:=Ox (AP t pid).opens (Ge 0 (AP t pid).opens) ⟨(Ge 0 (AP t pid).opens:Nat),a,flags⟩})) (Kv rfl rfl rfl ⟨rfl,rfl⟩) (b8 _ _ _ _ (by simp[Ox,Hj];rfl)) ?_);refine AK (O9 t {AP t pid with opens:=Ox (AP t pid).opens (Ge 0 (AP t pid).opens) ⟨(Ge 0 (AP t pid).opens:Nat),a,flags⟩} ht (NL ym) (by simp[Ox];omega)) ?_;refine m_ (h:=s_ (h:=a_ (h:=BW (h:=?_))));refine A4 ?_;rw[Gz,if_neg (by simp[ym]),if_neg (by omega)];rfl
theorem sH(a:A8):AFn prog 111 [.agg (AB a)] (fun r=>r= .agg (Ao (Ov a))):=by
 refine enter Tryz.func111 rfl rfl rfl rfl rfl 0 rfl ?_;refine E5 (h:=e_ (Bw (h:=?_)));refine A7 (Hr (y:= .agg (Ar ⟨1,0,0,0,0,0,4294967295,4294967295,a,⟨#[105,110,105,116]⟩,⟨#[47,105,110,105,116]⟩,[],true⟩)) (E3 ⟨rfl,rfl⟩) ?_);refine BT (h:=GR (h:=e_ (BH (?_))));refine A4 ?_;rfl
theorem bB(n:Int):AFn prog 60 [.v (.int .i64 n)] (fun r=>r=SX (Ki n)):=by
 refine enter Tryz.func60 rfl rfl rfl rfl rfl 0 rfl ?_;refine w_ (Ck (h:=Cl (h:=?_)));refine AK (iQ n) ?_;refine Js (h:=?_);refine A3 rfl (fun kd ka=>?_) (fun kd ka=>?_)
 ·refine w_ (Jt (h:=?_));refine AO (r:=SX (Ki n)) none (h5:=?_) (h6:=⟨rfl,rfl,rfl⟩);rw[Ki,if_pos (by simpa using ka)];exact(by repeat (first|exact A6 _|exact LeA.nil _|exact LeL.refl _|refine LeA.agg ?_|refine LeA.tup ?_|exact LeL.nil|refine LeL.cons ?_ ?_|exact LeA.any _))
 refine AG (q_ (BJ ([(1,Ap (Gu n).1)]) 7 (h:=A9 0 (h:=Kz 1 (h:=Kz 2 (h:=?_))))));refine c_ 3 rfl (AX (sH (0,1)) ?_);rintro r rfl;refine o_ (h:=Kz 4 (h:=?_));refine Ax 5 (h:=B8 6 (h:=z_ (h:=t_ (BH (?_)))));refine AO (r:=SX (Ki n)) none (h5:=?_) (h6:=⟨rfl,rfl,rfl⟩);rw[Ki,if_neg (by simpa using ka)];exact(by repeat (first|exact A6 _|exact LeA.nil _|exact LeL.refl _|refine LeA.agg ?_|refine LeA.tup ?_|exact LeL.nil|refine LeL.cons ?_ ?_|exact LeA.any _))
theorem NM(s:Syst)(hs:SpcB s.spc)(ht:TabB s.tab):AFn prog 94 [.agg (Cb s)] (fun r=>r= .agg (Cb s)):=by
 refine enter Tryz.func94 rfl rfl rfl rfl rfl 0 rfl ?_;refine w_ (b_ (h:=Ck (h:=e_ (q_ (BJ ([(0,Cb s)]) 7 (h:=AA 0 (h:=?_)))))));refine A9 1 (h:=?_);refine AA 3 (h:=?_);refine A9 4 (h:=?_);refine c_ 2 rfl (AX (qG s.spc hs) ?_);rintro r rfl;refine o_ (h:=c_ 5 rfl (AX (Zm s.tab ht) ?_));rintro r rfl;refine o_ (h:=Kz 6 (h:=?_));refine Ax 7 (h:=z_ (h:=t_ (BH (?_))));refine A4 ?_;rfl
theorem sK(s:Spc)(given:AD)(perm:Int)(f:Fnd)(hs:SpcB s):AFn prog 143 [.agg (AQ s), .v (.string given), .v (.int .i64 perm), .agg (Ah f)] (fun r=>r= .agg (Cn (VP s given perm f))):=by
 refine enter Tryz.func143 rfl rfl rfl rfl rfl 0 rfl ?_;refine Ef (h:=e_ (H8 (h:=?_)));refine AK (G0 s.files f.file hs.files) ?_;refine EU (h:=Cl (h:=Je (h:=Je (h:=Je (h:=Ac (h:=f_ (h:=?_)))))));refine GD (h:=GR (h:=e_ (BH (?_))));refine A4 ?_;rfl
theorem Li(w:Wrk)(its:AV)(a:A8)(want:Int)(hs:SpcB w.s.spc):AFn prog 197 [.fp (Dn w (DA w) its), .agg (AB a), .v (.int .i64 want)] (fun r=>r= .v (.bool (CU w a want))):=by
 refine enter Tryz.func197 rfl rfl rfl rfl rfl 0 rfl ?_;refine w_ (b_ (h:=a_ (h:=e_ (q_ (BJ ([(0,AB a)]) 14 (h:=AE 0 (h:=BA 1 (h:=AA 2 (h:=AA 3 (h:=AA 4 (h:=A9 5 (h:=A9 6 (h:=?_)))))))))))));refine Ed 7 11 rfl rfl ?_ ?_
 ·refine AX (G0 w.s.spc.files a hs.files) ?_;rintro r rfl;refine o_ (h:=AE 8 (h:=B6 9 (h:=B6 10 (h:=?_))));refine c_ 11 rfl (Bn (by repeat constructor) ?_);refine o_ (h:=Ax 12 (h:=B8 13 (h:=z_ (h:=t_ (q_ (E0 14 (h:=A9 0 (h:=AE 1 (h:=BA 2 (h:=AA 3 (h:=AA 4 (h:=A9 5 (h:=AE 6 (h:=BA 7 (h:=AA 8 (h:=AA 9 (h:=A9 10 (h:=AE 11 (h:=?_)))))))))))))))))));refine c_ 12 rfl (AX (Zp (AY w.s.spc.files a) w.p.euid w.p.egid want) ?_);rintro r rfl;refine o_ (h:=B8 13 (h:=z_ (h:=t_ (BH (?_)))));refine A4 ?_;rfl
 refine Bn (by repeat constructor) ?_;refine o_ (h:=c_ 7 rfl (AX (G0 w.s.spc.files a hs.files) ?_));rintro r rfl;refine o_ (h:=AE 8 (h:=B6 9 (h:=B6 10 (h:=?_))));refine Ax 12 (h:=B8 13 (h:=z_ (h:=t_ (q_ (E0 14 (h:=A9 0 (h:=AE 1 (h:=BA 2 (h:=AA 3 (h:=AA 4 (h:=A9 5 (h:=AE 6 (h:=BA 7 (h:=AA 8 (h:=AA 9 (h:=A9 10 (h:=AE 11 (h:=?_))))))))))))))))));refine c_ 12 rfl (AX (Zp (AY w.s.spc.files a) w.p.euid w.p.egid want) ?_);rintro r rfl;refine o_ (h:=B8 13 (h:=z_ (h:=t_ (BH (?_)))));refine A4 ?_;rfl
theorem NN(w:Wrk)(its:AV)(i:Nat)(f:Fnd)(hs:SpcB w.s.spc)(hf:w.found[i]?=some f):AFn prog 201 [.fp (Dn w (DA w) its), .v (.int .i64 (i:Int))] (fun r=>r= .v (.bool (AU w.s.spc.files f.file))):=by
 have ya:(w.found.map Ah)[i]?=some (Ah f):=by rw[List.getElem?_map,hf];rfl
 refine enter Tryz.func201 rfl rfl rfl rfl rfl 0 rfl ?_;refine w_ (a_ (h:=e_ (q_ (E0 16 (h:=AE 0 (h:=BA 1 (h:=AA 2 (h:=AA 3 (h:=AA 4 (h:=A9 5 (h:=AE 6 (h:=BA 7 (h:=AA 8 (h:=A9 9 (h:=AE 10 (h:=E1 11 (h:=AA 12 (h:=A9 13 (h:=?_)))))))))))))))))));refine c_ 14 rfl (AX (LT w.s.spc.files f.file hs.files) ?_);rintro r rfl;refine o_ (h:=B8 15 (h:=z_ (h:=t_ (BH (?_)))));refine A4 ?_;rfl
theorem bC(w:Wrk)(its:AV)(a:A8)(hs:SpcB w.s.spc)(hp:w.s.tab.ps.length<=1000):AFn prog 204 [.fp (Dn w (DA w) its), .agg (AB a)] (fun r=>r= .v (.bool (K8 w a))):=by
 refine enter Tryz.func204 rfl rfl rfl rfl rfl 0 rfl ?_;refine w_ (b_ (h:=a_ (h:=e_ (q_ (q_ (E0 7 (h:=AE 0 (h:=BA 1 (h:=AA 2 (h:=AA 3 (h:=A9 4 (h:=A9 5 (h:=?_)))))))))))));refine c_ 6 rfl (AX (Xc w.s.spc a hs) ?_);rintro r rfl;refine J1 (h:=t_ (?_));refine A3 rfl (fun kd ka=>?_) (fun kd ka=>?_)
 ·refine BC (h:=?_);refine A4 ?_;exact vb (by simp[K8, *])
 refine AG (Cz (h:=?_));refine BL (fun m s=>∃j:Nat,j<=w.s.tab.ps.length/\m=w.s.tab.ps.length - j/\(∀i y,i<j->w.s.tab.ps[i]?=some y->decide (y.cwd=a)=false)/\s=⟨look [(0, .fp (Dn w (DA w) its)),(3, .bp 0 0),(5, .v (.int .i64 (j:Int)))],⟨[AB a],[]⟩⟩) (w.s.tab.ps.length) ((wk 1 0)) (⟨0,BG _,rfl,fun i y hi=>by omega,rfl⟩) ?_;rintro m s ⟨j,hj,rfl,ha,rfl⟩;refine EH (h:=J3 (h:=E4 (h:=JD (h:=?_))));refine A3 rfl (fun ke kc=>?_) (fun ke kc=>?_)
 ·obtain⟨hlt,p,hy,ya, -⟩:=Bx Ar kc;refine AG (q_ (BF (q_ (E0 12 (h:=AE 0 (h:=BA 1 (h:=AA 2 (h:=AA 3 (h:=AA 4 (h:=A9 5 (h:=AE 6 (h:=E1 7 (h:=AA 8 (h:=A9 9 (h:=A9 10 (h:=?_))))))))))))))));refine Hm (i:=11) rfl (Jk rfl rfl (by repeat constructor) (by repeat constructor) (fun w=>OZ _ _ _ _ w) (by kernel_rfl) ⟨rfl,rfl⟩) ?_;refine z_ (h:=t_ (?_));refine A3 rfl (fun kh kf=>?_) (fun kh kf=>?_)
  ·have hany:(w.s.tab.ps.any fun p=>decide (p.cwd=a))=true:=Nt hy (decide_eq_true kf);refine BR (h:=C1 (h:=?_));refine A4 ?_;exact vb (by simp[K8, *])
  have hne:decide (p.cwd=a)=false:=decide_eq_false kf;refine Dg (h:=?_);refine⟨_,_,?_,⟨j+1,by omega,rfl,GX hy ha hne,rfl⟩,(wk 1 0)⟩;omega
 have e:=CA Ar hj kc;have hany:(w.s.tab.ps.any fun p=>decide (p.cwd=a))=false:=Oe (by rw[<-e];exact ha);refine Hv (h:=?_);refine A4 ?_;exact vb (by simp[K8, *])
end
theorem sL{α:Type}{sz:Nat}{F:α->List AV}(hF:RowF sz F){l:List α}{j cap:Nat}{x x':α}(h:l.length=j):SetAt (LB sz F (l++[x]) cap) (0+j * sz) (F x') (LB sz F (l++[x']) cap):=by
 have h1:(l++[x])[j]?=some x:=by rw[<-h];simp
 have h2:(l++[x]).set j x'=l++[x']:=by rw[<-h];simp
 have key:=Ze hF (cap:=cap) (x':=x') h1
 rwa [h2]at key
theorem bD{is:List Nat}:∀i,i<1->(0::is)[i]?=some i:=by
 intro i hi;obtain rfl:i=0:=by omega
 rfl
theorem bF{f:Nat->Option AV}{bx:List (List AV)}{tk:List Cj}{N:Dim}(i:Nat){row row':List AV}(hi:bx[i]?=some row)(hle:LeL row row'):Weak N ⟨f,⟨bx,tk⟩⟩ ⟨f,⟨bx.set i row',tk⟩⟩:=by
 rintro E a w ⟨G,h1,h2,h3⟩;exact⟨G,h1.boxLe hi (fun us hu=>hle G w us hu),h2,h3⟩
theorem sM(w:Wrk)(rows:List (List AV))(g:Option Nat)(I:AV):LeL (Dn w (.sl 8 rows g) I) (Dn w (.sl 8 rows none) I):=by
 unfold Dn
 repeat (first|exact LeL.nil|refine LeL.cons (A6 _) ?_|refine LeL.cons (LeA.tok _ _ _) ?_)
theorem BN{n m:Nat}(w:Wrk)(F I:AV):Af n m (Dn w F I)=(Aa n m F&&Aa n m I):=by
 simp[Dn,Af,Aa]
def KE(l:List Fnd):AV:= .sl 8 (l.map Ah) (some 0)
def P7(w:Wrk)(e:Int)(j:Nat):List Itm×List Fnd×Int:=M6 w.s.spc w.p.cwd (FJ w.c) ((w.c.paths.zip (DS w.c)).take j) e
def LK(w:Wrk)(e:Int):List Itm×List Fnd×Int:=M6 w.s.spc w.p.cwd (FJ w.c) (w.c.paths.zip (DS w.c)) e
theorem sN{w:Wrk}{e:Int}{j:Nat}{g:AD×Int}(h:(w.c.paths.zip (DS w.c))[j]?=some g):P7 w e (j+1)=Kf w.s.spc w.p.cwd (FJ w.c) (P7 w e j) g:=by
 unfold P7 M6;rw[List.take_add_one,h,List.foldl_append];rfl
theorem sO{w:Wrk}{e:Int}{j:Nat}(h:(w.c.paths.zip (DS w.c)).length<=j):P7 w e j=LK w e:=by
 unfold P7 LK;rw[List.take_of_length_le h]
def WA(w:Wrk)(cap:Nat):List AV:=Dn w (DA w) (.bs 1 0 13 w.r.items.length cap)
def IB(w:Wrk)(cap:Nat):List AV:=LB 13 Cn w.r.items cap
theorem EO{bx:List (List AV)}{a b:List AV}{rest:List (List AV)}(hb:bx=a::b::rest)(w:Wrk)(cap:Nat):Back bx [0,1] [WA w cap,IB w cap] (WA w cap::IB w cap::rest):=by
 subst hb;have:=QX (bx:=a::b::rest) (is:=[0,1]) (bc:=[WA w cap,IB w cap]) (by simp) (by simp) (by simp);have e1:ES (FM [0,1] (a::b::rest).length) (WA w cap)=WA w cap:=rfl;have e2:ES (FM [0,1] (a::b::rest).length) (IB w cap)=IB w cap:=Dp B9 _ _ _
 have hb:ED (a::b::rest) (FM [0,1] (a::b::rest).length) [0,1] [WA w cap,IB w cap]=WA w cap::IB w cap::rest:=by
  unfold ED;rw[e1];unfold ED;rw[e2];simp[ED]
 rw[hb]at this;exact this
section
theorem sP(w:Wrk)(e:Int)(hv:SpcV w.s.spc)(hm:w.s.spc.mounts.length<=1000)(hp:w.c.paths.length=(DS w.c).length)(hpl:w.c.paths.length<=1000)(h0:0<w.c.paths.length)(hps:∀p∈w.c.paths,p.size<=100000):
    ACall prog 96 [.bp 0 0, .v (.int .i64 e)] [Dn w (.v (.slice none 0 0)) (.v (.slice none 0 0))] (fun r b t=>t=[]/\∃cap,(LK w e).1.length<=cap/\r= .v (.int .i64 (LK w e).2.2)/\b=[Dn w (.sl 8 ((LK w e).2.1.map Ah) none) (.bs 1 0 13 (LK w e).1.length cap),LB 13 Cn (LK w e).1 cap]):=by
 have hsb:=hv.b hm;have hsn:=hv.n hm;refine enter Tryz.func96 rfl rfl rfl rfl rfl 2 rfl ?_;refine FB (h:=k_ (h:=Ac (h:=?_)));refine AK (Zt w.c) ?_;refine Ay (h:=?_);refine BD (fun s=>∃cap,(LK w e).1.length<=cap/\s=⟨look [(1, .v (.int .i64 (LK w e).2.2))],⟨[Dn w (.sl 8 ((LK w e).2.1.map Ah) none) (.bs 1 0 13 (LK w e).1.length cap),LB 13 Cn (LK w e).1 cap],[]⟩⟩) ?_ ?_
 ·refine OV (h:=?_);refine MN 0 26 200 8 rfl rfl (by repeat constructor) (by repeat constructor) (by repeat constructor) ?_;refine BL (fun m s=>∃(j:Nat) (X:List Itm×List Fnd×Int) (Y:AV) (Z:List (List AV)),j<=w.c.paths.length/\m=w.c.paths.length - j/\P7 w e j=X/\X.1.length=j/\X.2.1.length=j/\((Y= .v (.slice none 0 0)/\Z=[]/\X.1=[])\/∃cap,X.1.length<=cap/\Y= .bs 1 0 13 X.1.length cap/\Z=[LB 13 Cn X.1 cap])/\s=⟨look [(0, .bp 0 0),(1, .v (.int .i64 X.2.2)),(5, .sl 1 ((DS w.c).map Cc) none),(6, .v (.int .i64 (j:Int)))],⟨Dn w (KE X.2.1) Y::Z,[(200,8,X.2.1.map Ah)]⟩⟩) (w.c.paths.length) ((wk 1 1)) (⟨0,([],[],e),_,_,BG _,rfl,rfl,rfl,rfl, .inl ⟨rfl,rfl,rfl⟩,rfl⟩) ?_;rintro m s ⟨j,X,Y,Z,hj,rfl,hX,hl1,hl2,hYZ,rfl⟩;refine EH (h:=Dw (h:=JD (h:=?_)));refine A3 rfl (fun kd ka=>?_) (fun kd ka=>?_)
  ·obtain⟨hlt,y,hy,ya, -⟩:=Bx DV ka;obtain⟨pj,hpj⟩:∃z,(DS w.c)[j]?=some z:=⟨_,B7 (by omega)⟩;have mo:((DS w.c).map Cc)[j]?=some (Cc pj):=by rw[List.getElem?_map,hpj];rfl
   have hz:(w.c.paths.zip (DS w.c))[j]?=some (y,pj):=List.getElem?_zip_eq_some.2 ⟨hy,hpj⟩;have hk:=sN (e:=e) hz;rw[hX]at hk;have hys:=hps y (Aj hy);refine Bq (h:=?_);refine BD (fun s=>∃cap,X.1.length+1<=cap/\s=⟨look [(0, .bp 0 0),(1, .v (.int .i64 X.2.2)),(5, .sl 1 ((DS w.c).map Cc) none),(6, .v (.int .i64 (j:Int)))],⟨[Dn w (KE X.2.1) (.bs 1 0 13 (X.1.length+1) cap),LB 13 Cn (X.1++[Ke y pj]) cap],[(200,8,X.2.1.map Ah)]⟩⟩) ?_ ?_
   ·rcases hYZ with⟨rfl,rfl,hX0⟩|⟨cap,hcp,rfl,rfl⟩
    ·refine BJ ([(0,Dn w (KE X.2.1) (.v (.slice none 0 0)))]) 24 (h:=AE 0 (h:=AE 1 (h:=BA 2 (h:=AA 3 (h:=AA 4 (h:=A9 5 (h:=AE 6 (h:=BA 7 (h:=AA 8 (h:=AA 9 (h:=A9 10 (h:=AE 11 (h:=E1 12 (h:=A9 13 (h:=AE 14 (h:=AE 15 (h:=E1 16 (h:=A9 17 (h:=?_)))))))))))))))))));refine CE 18 rfl (fun _ hS=>JC (y:= .agg (Cn (Ke y pj))) (E3 ⟨rfl,rfl⟩) (A6 _) ⟨rfl,rfl⟩) ?_;refine KR 19 (h:=?_);refine c_ 20 rfl (Rj rfl rfl Ma (by omega) (by omega) ?_);rintro cap2 k bx2 hcp hs;rw[show Cf (.agg (Cn (Ke y pj)))++List.replicate ((cap2 - 1) * 13) AV.any=LB 13 Cn [Ke y pj] cap2 from Zf B9 _ cap2]at hs;obtain⟨rfl,rfl⟩:k=1/\bx2=[_,_]:=hs.eq;refine o_ (h:=BA 21 (h:=AA 22 (h:=AA 23 (h:=?_))));refine Ax 24 (h:=z_ (h:=?_));refine AT ?_;refine⟨_,⟨cap2,by rw[hX0];exact hcp,rfl⟩,?_⟩;rw[hX0];exact CF 2 1 (by simp[Am,Af,Aa,C7 B9,BN,KE])
    skip
    refine BJ ([(0,Dn w (KE X.2.1) (.bs 1 0 13 X.1.length cap))]) 24 (h:=AE 0 (h:=AE 1 (h:=BA 2 (h:=AA 3 (h:=AA 4 (h:=A9 5 (h:=AE 6 (h:=BA 7 (h:=AA 8 (h:=AA 9 (h:=A9 10 (h:=AE 11 (h:=E1 12 (h:=A9 13 (h:=AE 14 (h:=AE 15 (h:=E1 16 (h:=A9 17 (h:=?_)))))))))))))))))));refine CE 18 rfl (fun _ hS=>JC (y:= .agg (Cn (Ke y pj))) (E3 ⟨rfl,rfl⟩) (A6 _) ⟨rfl,rfl⟩) ?_;refine KR 19 (h:=?_);refine c_ 20 rfl (OS rfl rfl rfl (by rw[SO B9 hcp];omega) Ma (by omega) (by omega) ?_ ?_)
    ·rintro hg row2 bx2 hs hb;obtain rfl:=VS B9 hs hg;obtain rfl:bx2=[_,_]:=hb.one.2;refine o_ (h:=BA 21 (h:=AA 22 (h:=AA 23 (h:=?_))));refine Ax 24 (h:=z_ (h:=?_));refine AT ?_;exact⟨_,⟨cap,hg,rfl⟩,CF 2 1 (by simp[Am,Af,Aa,C7 B9,BN,KE])⟩
    rintro hg cap3 k bx2 mz hs;rw[show((LB 13 Cn X.1 cap).drop 0).take (X.1.length * 13)++Cf (.agg (Cn (Ke y pj)))++List.replicate ((cap3 - (X.1.length+1)) * 13) AV.any=LB 13 Cn (X.1++[Ke y pj]) cap3 from VR B9 X.1 _ cap cap3]at hs;obtain⟨rfl,rfl⟩:k=2/\bx2=[_,_,_]:=hs.eq;refine o_ (h:=BA 21 (h:=AA 22 (h:=AA 23 (h:=?_))));refine Ax 24 (h:=z_ (h:=?_));refine AT ?_;exact⟨_,⟨cap3,mz,rfl⟩,JZ [0,2] bD (by decide) (.cons _ _ _ _ _ rfl rfl (.cons _ _ _ _ _ rfl (Me B9 _ _ _) .nil)) (by repeat (first|exact SubK.nil|refine SubK.cons _ _ _ _ rfl (A6 _) ?_))⟩
   rintro s ⟨cap,hcp,rfl⟩;refine w_ (Ck (h:=e_ (?_)));refine BD (fun s=>∃(it:Itm) (F:Fnd) (e2:Int),Kf w.s.spc w.p.cwd (FJ w.c) X (y,pj)=(X.1++[it],X.2.1++[F],e2)/\s=⟨look [(0, .bp 0 0),(1, .v (.int .i64 e2)),(5, .sl 1 ((DS w.c).map Cc) none),(6, .v (.int .i64 (j:Int))),(7, .bp 2 0)],⟨[Dn w (KE X.2.1) (.bs 1 0 13 (X.1.length+1) cap),LB 13 Cn (X.1++[it]) cap,Ah F],[(200,8,X.2.1.map Ah)]⟩⟩) ?_ ?_
   ·refine Ab (h:=BO (h:=?_));refine A3 rfl (fun ke kc=>?_) (fun ke kc=>?_)
    ·have he0:X.2.2=0:=by simpa using kc
     refine q_ (BJ ([(0,Dn w (KE X.2.1) (.bs 1 0 13 (X.1.length+1) cap)),(1,LB 13 Cn (X.1++[Ke y pj]) cap)]) 29 (h:=AE 0 (h:=BA 1 (h:=AA 2 (h:=AA 3 (h:=A9 4 (h:=AE 5 (h:=BA 6 (h:=AA 7 (h:=AA 8 (h:=A9 9 (h:=AE 10 (h:=BA 11 (h:=AA 12 (h:=AA 13 (h:=A9 14 (h:=AE 15 (h:=E1 16 (h:=A9 17 (h:=AE 18 (h:=BA 19 (h:=AA 20 (h:=A9 21 (h:=?_))))))))))))))))))))))));refine c_ 22 rfl (AX (pL w.c) ?_);rintro r rfl;refine o_ (h:=c_ 23 rfl (AX (aZ w.s.spc w.p.cwd y (FJ w.c) hsn hv hys) ?_));rintro r rfl;refine o_ (h:=AE 24 (h:=B6 25 (h:=B6 26 (h:=?_))));refine Ax 27 (h:=B8 28 (h:=z_ (h:=t_ (w_ (m_ (h:=Df (h:=e_ (?_))))))));refine A3 rfl (fun kh kf=>?_) (fun kh kf=>?_)
     ·have hf0:(CW w.s.spc w.p.cwd y (FJ w.c)).2=0:=by simpa using kf
      refine BJ ([(0,Dn w (KE X.2.1) (.bs 1 0 13 (X.1.length+1) cap)),(1,LB 13 Cn (X.1++[Ke y pj]) cap),(2,Ah (CW w.s.spc w.p.cwd y (FJ w.c)).1)]) 26 (h:=AE 0 (h:=BA 1 (h:=AA 2 (h:=AA 3 (h:=A9 4 (h:=AE 5 (h:=AE 6 (h:=BA 7 (h:=AA 8 (h:=AA 9 (h:=A9 10 (h:=AE 11 (h:=BA 12 (h:=AA 13 (h:=AA 14 (h:=A9 15 (h:=AE 16 (h:=E1 17 (h:=A9 18 (h:=AE 19 (h:=AE 20 (h:=E1 21 (h:=A9 22 (h:=?_))))))))))))))))))))))));refine A9 23 (h:=?_);refine c_ 24 rfl (AX (sK w.s.spc y pj (CW w.s.spc w.p.cwd y (FJ w.c)).1 hsb) ?_);rintro r rfl;refine o_ (h:=CE 25 rfl (fun _ hS=>EF (m:=j) rfl rfl rfl (by omega) ⟨rfl,rfl⟩) ?_);refine H7 26 rfl (Es rfl rfl rfl rfl rfl rfl (sL B9 hl1) (by repeat constructor) ?_);refine J1 (h:=?_);refine AT ?_;exact⟨_,⟨VP w.s.spc y pj (CW w.s.spc w.p.cwd y (FJ w.c)).1,(CW w.s.spc w.p.cwd y (FJ w.c)).1,(CW w.s.spc w.p.cwd y (FJ w.c)).2,(by rw[Kf,if_pos he0,if_pos hf0,hf0]),rfl⟩,CF 3 1 (by simp[Am,Af,Aa,C7 B9,BN,KE,Ah])⟩
     have hf0:¬(CW w.s.spc w.p.cwd y (FJ w.c)).2=0:=by simpa using kf
     refine Ci (AT (?_));exact⟨_,⟨Ke y pj,(CW w.s.spc w.p.cwd y (FJ w.c)).1,(CW w.s.spc w.p.cwd y (FJ w.c)).2,(by rw[Kf,if_pos he0,if_neg hf0]),rfl⟩,CF 3 1 (by simp[Am,Af,Aa,C7 B9,BN,KE,Ah])⟩
    have he0:¬X.2.2=0:=by simpa using kc
    refine Ci (AT (?_));exact⟨_,⟨Ke y pj,Ep,X.2.2,(by rw[Kf,if_neg he0]),rfl⟩,CF 3 1 (by simp[Am,Af,Aa,C7 B9,BN,KE,Ah])⟩
   rintro s ⟨it,F,e2,hlk,rfl⟩;refine BJ ([(0,Dn w (KE X.2.1) (.bs 1 0 13 (X.1.length+1) cap)),(2,Ah F)]) 10 (h:=AE 0 (h:=AE 1 (h:=BA 2 (h:=AA 3 (h:=A9 4 (h:=A9 5 (h:=KR 6 (h:=?_))))))));refine c_ 7 rfl (G7 rfl rfl rfl (by simp;omega) (by repeat constructor) ?_);refine o_ (h:=BA 8 (h:=AA 9 (h:=?_)));refine Ax 10 (h:=z_ (h:=Bz (t_ (Aq (m_ (h:=Ez (h:=a_ (h:=Bu (AT (?_))))))))));refine⟨w.c.paths.length - (j+1),_,by omega,⟨j+1,(X.1++[it],X.2.1++[F],e2), .bs 1 0 13 (X.1++[it]).length cap,[LB 13 Cn (X.1++[it]) cap],by omega,rfl,by rw[hk,hlk],by simp;omega,by simp;omega, .inr ⟨cap,by simpa using hcp,rfl,rfl⟩,rfl⟩,?_⟩;rw[List.length_append];unfold KE;rw[List.map_append];exact CF 2 1 (by simp[Am,Af,Aa,C7 B9,BN])
  have e3:=CA DV hj ka;rcases hYZ with⟨_,_,hX0⟩|⟨cap,hcp,rfl,rfl⟩
  ·exfalso;rw[hX0]at hl1;simp at hl1;omega
  have mn:LK w e=X:=by rw[<-hX];exact(sO (by rw[List.length_zip];omega)).symm
  refine LS (h:=AT (?_));refine⟨_,⟨cap,by rw[mn];exact hcp,rfl⟩,?_⟩;rw[mn];exact(bF 0 rfl (sM w _ _ _)).trans (CF 2 0 (by simp[Am,Af,Aa,C7 B9,BN]))
 rintro s ⟨cap,hcp,rfl⟩;refine EW (h:=?_);refine AO (r:= .v (.int .i64 (LK w e).2.2)) none (h4:=(by simp[Am,Af,Aa,C7 B9,BN])) (h5:=(A6 _)) (h6:=⟨rfl,cap,hcp,rfl,rfl⟩)
theorem P8(w:Wrk)(cap:Nat)(f:AR)(l:List MQ)(e:Int):ACall prog 202 [.bp 0 0, .agg (Ap f), .sl 7 (l.map FE) none, .v (.int .i64 e)] [WA w cap,IB w cap] (fun r b t=>t=[]/\r= .v (.int .i64 e)/\b=[WA (Bf w (f,l,e)).1 cap,IB (Bf w (f,l,e)).1 cap]):=by
 refine enter Tryz.func202 rfl rfl rfl rfl rfl 2 rfl ?_;refine Ee (h:=Du (h:=BO (h:=?_)));refine A3 rfl (fun kd ka=>?_) (fun kd ka=>?_)
 ·refine Ab (h:=l_ (h:=J3 (h:=f_ (h:=Cg (h:=HU (h:=J3 (h:=Cg (h:=EW (h:=?_)))))))));refine AO (r:= .v (.int .i64 e)) none (h4:=(by simp[Am,Af,Aa,C7 B9,IB,DA])) (h5:=(A6 _)) (h6:=⟨rfl,rfl,?_⟩);rw[Bf,if_pos ka];rfl
 refine AG (EW (h:=?_));refine AO (r:= .v (.int .i64 e)) none (h4:=(by simp[Am,Af,Aa,C7 B9,BN,WA,IB,DA])) (h5:=(A6 _)) (h6:=⟨rfl,rfl,?_⟩);rw[Bf,if_neg ka];rfl
theorem Ve(w:Wrk)(cap:Nat)(t:Tab)(e:Int):ACall prog 200 [.bp 0 0, .agg (Ao t), .v (.int .i64 e)] [WA w cap,IB w cap] (fun r b tk=>tk=[]/\r= .v (.int .i64 e)/\b=[WA (CV w (t,e)).1 cap,IB (CV w (t,e)).1 cap]):=by
 refine enter Tryz.func200 rfl rfl rfl rfl rfl 2 rfl ?_;refine Ee (h:=Du (h:=BO (h:=?_)));refine A3 rfl (fun kd ka=>?_) (fun kd ka=>?_)
 ·refine BU (h:=l_ (h:=J3 (h:=Cg (h:=EW (h:=?_)))));refine AO (r:= .v (.int .i64 e)) none (h4:=(by simp[Am,Af,Aa,C7 B9,IB,DA])) (h5:=(A6 _)) (h6:=⟨rfl,rfl,?_⟩);rw[CV,if_pos ka];rfl
 refine AG (EW (h:=?_));refine AO (r:= .v (.int .i64 e)) none (h4:=(by simp[Am,Af,Aa,C7 B9,BN,WA,IB,DA])) (h5:=(A6 _)) (h6:=⟨rfl,rfl,?_⟩);rw[CV,if_neg ka];rfl
end
section
variable {P:Program}{rs:List ResultVar}{n:Nat}{R:AV->List (List AV)->List Cj->Prop}{s:AS}{xs:List AV}{r:AV}
theorem BV(g:Option Nat){tk':List Cj}(h1:ResA P s rs xs:=by repeat (first|exact ResA.nil|(apply ResA.tmp;(focus exact rfl))|(apply ResA.cellN;(focus exact inferInstance);(focus exact rfl);(focus exact rfl);(focus exact rfl))|(apply ResA.cell1;(focus exact inferInstance);(focus exact rfl);(focus exact rfl);(focus exact rfl))))(h2:Mv s.h.tk g=some tk':=by rfl)(h3:Aa n 1 (Ec g (Gm xs))=true:=by rfl)(h4:Am n 0 (s.h.bx.take n)=true:=by simp[Am,Af,Aa,C7 B9,BN,WA,IB,DA,Ah,Al,AB,Ao,AQ,Ap])(h5:LeA (Ec g (Gm xs)) r)(h6:R r (s.h.bx.take n) tk'):Mw P rs n R .ret s:=RK g h1 h2 h3 h4 h5 h6
end
theorem Ds{f:Nat->Option AV}{bx:List (List AV)}{tk:List (Nat×Nat×List (List AV))}{l:List (Nat×AV)}{N:Dim}(n m:Nat){bx':List (List AV)}{tk':List (Nat×Nat×List (List AV))}(hn:Nat.ble N.ni n=true:=by rfl)(hb:bx.take n=bx':=by rfl)(ht:tk.take m=tk':=by rfl)(hbp:Am n m bx'=true:=by simp[Am,Af,Aa,C7 B9,BN,WA,IB,DA,Ah,Al,AB,Ao,AQ,Ap])(hl:Sub n m f l:=by repeat (first|exact Sub.nil|refine Sub.cons _ _ _ rfl rfl ?_|refine Sub.any _ _ ?_|refine Sub.sl _ _ _ _ _ rfl ?_|refine Sub.slnil _ _ _ rfl ?_)):Weak N ⟨f,⟨bx,tk⟩⟩ ⟨look l,⟨bx',tk'⟩⟩:=At n m hn hb ht hbp hl
theorem bG{α:Type}{l:List α}{i:Nat}{x:α}(h:l[i]?=some x)(f:α->α):l.modify i f=l.set i (f x):=by
 apply List.ext_getElem?;intro k;rw[List.getElem?_modify,List.getElem?_set];obtain⟨hl,rfl⟩:=AZ.1 h;by_cases e:i=k
 ·subst e;simp[hl]
 simp[e]
theorem sQ(w:Wrk)(R:Fj):(Bf w R).2=R.2.2:=by
 unfold Bf;split
 ·rename_i h;exact h.symm
 rfl
theorem MC(w:Wrk)(R:Tab×Int):(CV w R).2=R.2:=by
 unfold CV;split
 ·rename_i h;exact h.symm
 rfl
theorem Mh{w:Wrk}{R:Fj}(h:R.2.2=0):(Bf w R).1={w with s:=⟨⟨R.1,w.s.spc.mounts⟩,w.s.tab⟩,r:={w.r with changes:=R.2.1}}:=by
 unfold Bf;rw[if_pos h]
theorem SY{w:Wrk}{R:Fj}(h:¬R.2.2=0):(Bf w R).1=w:=by
 unfold Bf;rw[if_neg h]
theorem bH{f:AR}{dir:A8}{name:AD}{n:Nod}(h0:(Fl f dir name n).2.2=0):∃c,(Fl f dir name n).2.1=[c]:=by
 unfold Fl at h0 ⊢;split at h0
 ·rename_i c;exact absurd h0 c
 rename_i c1;rw[if_neg c1];split at h0
 ·exact absurd h0 (by decide)
 rename_i c2;rw[if_neg c2];split at h0
 ·exact absurd h0 (by decide)
 rename_i c3;rw[if_neg c3]
 cases e:GW f dir.1 with
 |none=>rw[e]at h0;simp at h0
 |some d=>
   rw[e]at h0;simp only at h0 ⊢;split at h0
   ·exact absurd h0 (by decide)
   rename_i c4;rw[if_neg c4];exact⟨_,rfl⟩
theorem sR{w:Wrk}{i:Nat}{n:Nod}(h:(DK w i n).2=0):∃c,(DK w i n).1.r.changes=[c]:=by
 unfold DK at h ⊢;split at h
 ·rename_i h0;obtain⟨c,hc⟩:=bH h0;rw[if_pos h0,Mh h0];exact⟨c,hc⟩
 rename_i h0;exact absurd h h0
theorem sT(w:Wrk)(i:Nat)(n:Nod):(DK w i n).1.s.tab=w.s.tab/\(DK w i n).1.p=w.p/\(DK w i n).1.c=w.c:=by
 unfold DK;split
 ·rename_i h0;rw[Mh h0];exact⟨rfl,rfl,rfl⟩
 exact⟨rfl,rfl,rfl⟩
section
theorem Vf(w:Wrk)(cap i:Nat)(a:A8)(x:Itm)(hs:FlsB w.s.spc.files)(hx:w.r.items[i]?=some x):ACall prog 203 [.bp 0 0, .v (.int .i64 (i:Int)), .agg (AB a)] [WA w cap,IB w cap] (fun r b t=>t=[]/\r= .tup []/\b=[WA (LG w i a) cap,IB (LG w i a) cap]):=by
 have hil:=(AZ.1 hx).1;have hst:∀y:Itm,(w.r.items.set i y)[i]?=some y:=fun y=>by rw[List.getElem?_set_self hil]
 have mn:w.r.items.modify i (Zc (AY w.s.spc.files a) a)=w.r.items.set i {x with role:=2,file:=a,kind:=(AY w.s.spc.files a).kind,mode:=(AY w.s.spc.files a).mode,uid:=(AY w.s.spc.files a).uid,gid:=(AY w.s.spc.files a).gid}:=by rw[bG hx];rfl
 refine enter Tryz.func203 rfl rfl rfl rfl rfl 2 rfl ?_;refine Ee (h:=e_ (?_));refine BD (fun s=>s=⟨look [(0, .bp 0 0),(1, .v (.int .i64 (i:Int))),(5, .bp 2 0),(6, .bp 3 0)],⟨[WA w cap,IB w cap,AB a,Al (AY w.s.spc.files a)],[]⟩⟩) ?_ ?_
 ·refine BJ ([(0,WA w cap),(1,IB w cap),(2,AB a)]) 14 (h:=AE 0 (h:=BA 1 (h:=AA 2 (h:=AA 3 (h:=AA 4 (h:=A9 5 (h:=A9 6 (h:=?_))))))));refine Ed 7 11 rfl rfl ?_ ?_
  ·refine AX (G0 w.s.spc.files a hs) ?_;rintro r rfl;refine o_ (h:=AE 8 (h:=B6 9 (h:=B6 10 (h:=?_))));refine c_ 11 rfl (Bn (by repeat constructor) ?_);refine o_ (h:=Ax 12 (h:=B8 13 (h:=z_ (h:=?_))));refine AT ?_;exact⟨_,rfl,Ds 4 0⟩
  refine Bn (by repeat constructor) ?_;refine o_ (h:=c_ 7 rfl (AX (G0 w.s.spc.files a hs) ?_));rintro r rfl;refine o_ (h:=AE 8 (h:=B6 9 (h:=B6 10 (h:=?_))));refine Ax 12 (h:=B8 13 (h:=z_ (h:=?_)));refine AT ?_;exact⟨_,rfl,Ds 4 0⟩
 rintro s rfl;refine Ab (h:=Dw (h:=m_ (h:=?_)));refine A7 (EF (m:=i) rfl rfl rfl hil ?_);refine a_ (h:=e_ (BJ ([(0,WA w cap),(2,AB a),(3,Al (AY w.s.spc.files a))]) 33 (h:=AE 0 (h:=AE 1 (h:=AE 2 (h:=AE 3 (h:=AE 4 (h:=AE 5 (h:=A9 6 (h:=AA 7 (h:=A9 8 (h:=AA 9 (h:=A9 10 (h:=AA 11 (h:=A9 12 (h:=AA 13 (h:=A9 14 (h:=BA 15 (h:=AA 16 (h:=?_))))))))))))))))))));refine H7 17 rfl (Es rfl rfl rfl rfl rfl rfl (Mf B9 (x':={x with role:=2}) hx (by repeat constructor) (List.cons_ne_nil _ _)) (by repeat constructor) ?_);refine o_ (h:=BA 18 (h:=AA 19 (h:=?_)));refine H7 20 rfl (Es rfl rfl rfl rfl rfl rfl (Mf B9 (x':={x with role:=2,file:=a}) (hst _) (by repeat constructor) (List.cons_ne_nil _ _)) (by repeat constructor) ?_);refine o_ (h:=BA 21 (h:=AA 22 (h:=?_)));refine H7 23 rfl (Es rfl rfl rfl rfl rfl rfl (Mf B9 (x':={x with role:=2,file:=a,kind:=(AY w.s.spc.files a).kind}) (by rw[List.set_set];exact hst _) (by repeat constructor) (List.cons_ne_nil _ _)) (by repeat constructor) ?_);refine o_ (h:=BA 24 (h:=AA 25 (h:=?_)));refine H7 26 rfl (Es rfl rfl rfl rfl rfl rfl (Mf B9 (x':={x with role:=2,file:=a,kind:=(AY w.s.spc.files a).kind,mode:=(AY w.s.spc.files a).mode}) (by rw[List.set_set,List.set_set];exact hst _) (by repeat constructor) (List.cons_ne_nil _ _)) (by repeat constructor) ?_);refine o_ (h:=BA 27 (h:=AA 28 (h:=?_)));refine H7 29 rfl (Es rfl rfl rfl rfl rfl rfl (Mf B9 (x':={x with role:=2,file:=a,kind:=(AY w.s.spc.files a).kind,mode:=(AY w.s.spc.files a).mode,uid:=(AY w.s.spc.files a).uid}) (by rw[List.set_set,List.set_set,List.set_set];exact hst _) (by repeat constructor) (List.cons_ne_nil _ _)) (by repeat constructor) ?_);refine o_ (h:=BA 30 (h:=AA 31 (h:=?_)));refine H7 32 rfl (Es rfl rfl rfl rfl rfl rfl (Mf B9 (x':={x with role:=2,file:=a,kind:=(AY w.s.spc.files a).kind,mode:=(AY w.s.spc.files a).mode,uid:=(AY w.s.spc.files a).uid,gid:=(AY w.s.spc.files a).gid}) (by rw[List.set_set,List.set_set,List.set_set,List.set_set];exact hst _) (by repeat constructor) (List.cons_ne_nil _ _)) (by repeat constructor) ?_);refine J1 (h:=?_);refine Rk (r:= .tup []) none (h4:=(by simp[Am,Af,Aa,C7 B9,BN,WA,DA])) (h5:=(A6 _)) (h6:=⟨rfl,rfl,?_⟩);rw[List.set_set,List.set_set,List.set_set,List.set_set,List.set_set];unfold WA IB LG;simp only[mn,List.length_set];rfl
theorem Vg(w:Wrk)(cap i:Nat)(n:Nod)(f:Fnd)(x:Itm)(hv:FlsV w.s.spc.files)(hf:w.found[i]?=some f)(hx:w.r.items[i]?=some x)(hn:f.name.size<=100000)(ht:n.target.size<=100000)(hne:n.entries=[]):ACall prog 198 [.bp 0 0, .v (.int .i64 (i:Int)), .agg (Al n)] [WA w cap,IB w cap] (fun r b t=>t=[]/\r= .v (.int .i64 (DK w i n).2)/\b=[WA (DK w i n).1 cap,IB (DK w i n).1 cap]):=by
 have ya:(w.found.map Ah)[i]?=some (Ah f):=by rw[List.getElem?_map,hf];rfl
 have hfn:Av w i=f:=by unfold Av;rw[hf];rfl
 have hmk:GM w i n=Fl w.s.spc.files f.dir f.name (QV w n):=by unfold GM;rw[hfn]
 have hok:=Yt hv f.dir f.name (QV w n);rw[<-hmk]at hok;have ow:AFn prog 177 [.agg (Ap w.s.spc.files), .agg (AB f.dir), .v (.string f.name), .agg (Al (QV w n))] (fun r=>r=Cs (GM w i n)):=by rw[hmk];exact lS _ _ _ _ hv hn ht
 refine enter Tryz.func198 rfl rfl rfl rfl rfl 2 rfl ?_;refine w_ (b_ (h:=a_ (h:=e_ (q_ (BJ ([(0,WA w cap),(1,IB w cap)]) 14 (h:=AE 0 (h:=BA 1 (h:=AA 2 (h:=AA 3 (h:=A9 4 (h:=AE 5 (h:=BA 6 (h:=AA 7 (h:=AA 8 (h:=A9 9 (h:=AA 10 (h:=?_)))))))))))))))));refine Ax 11 (h:=AA 12 (h:=?_));refine Ax 13 (h:=z_ (h:=t_ (q_ (BJ ([(0,WA w cap),(1,IB w cap),(2,Al (QV w n))]) 28 (h:=AE 0 (h:=AE 1 (h:=BA 2 (h:=AA 3 (h:=AA 4 (h:=AA 5 (h:=A9 6 (h:=AE 7 (h:=BA 8 (h:=AA 9 (h:=A9 10 (h:=AE 11 (h:=E1 12 (h:=AA 13 (h:=A9 14 (h:=AE 15 (h:=BA 16 (h:=AA 17 (h:=A9 18 (h:=?_))))))))))))))))))))))));refine AE 19 (h:=E1 20 (h:=AA 21 (h:=A9 22 (h:=A9 23 (h:=?_)))));refine c_ 24 rfl (AX (ow) ?_);rintro r rfl;refine o_ (h:=B6 25 (h:=B6 26 (h:=B6 27 (h:=?_))));refine c_ 28 rfl (Bo [0,1] rfl (.cons _ _ _ _ _ rfl (A6 _) (.cons _ _ _ _ _ rfl (A6 _) (.cons _ _ _ _ _ rfl (A6 _) (.cons _ _ _ _ _ rfl (A6 _) .nil)))) (by decide) (.cons _ _ _ _ _ rfl rfl (.cons _ _ _ _ _ rfl (Dp B9 _ _ _) .nil)) (P8 w cap (GM w i n).1 (GM w i n).2.1 (GM w i n).2.2) ?_);rintro r bc tc ⟨rfl,rfl,rfl⟩;refine⟨rfl,_,EO rfl (Bf w (GM w i n)).1 cap,?_⟩;refine o_ (h:=c_ 29 rfl (JU rfl ?_));refine J1 (h:=t_ (Be (h:=BO (h:=?_))));refine A3 rfl (fun kd ka=>?_) (fun kd ka=>?_)
 ·have h0:(GM w i n).2.2=0:=ka;obtain⟨c,hc⟩:∃c,(GM w i n).2.1=[c]:=by rw[hmk]at h0 ⊢;exact bH h0
  have hch:(Bf w (GM w i n)).1.r.changes=[c]:=by rw[Mh h0];exact hc
  have hx1:(Bf w (GM w i n)).1.r.items[i]?=some x:=by rw[Mh h0];exact hx
  have hfb:FlsB (Bf w (GM w i n)).1.s.spc.files:=by rw[Mh h0];exact(hok h0).1.b
  have mo:((Bf w (GM w i n)).1.r.changes.map FE)[0]?=some (FE c):=by rw[hch];rfl
  refine BU (h:=Cp (h:=Dw (h:=?_)));refine A7 (DM (n:=0) rfl rfl rfl mo ?_);refine Ac (h:=?_);refine A7 (Bo [0,1] rfl (.cons _ _ _ _ _ rfl (A6 _) (.cons _ _ _ _ _ rfl (A6 _) (.cons _ _ _ _ _ rfl (A6 _) .nil))) (by decide) (.cons _ _ _ _ _ rfl rfl (.cons _ _ _ _ _ rfl (Dp B9 _ _ _) .nil)) (Vf (Bf w (GM w i n)).1 cap i c.2.2.2 x hfb hx1) ?_);rintro r bc tc ⟨rfl,rfl,rfl⟩;refine⟨rfl,_,EO rfl (LG (Bf w (GM w i n)).1 i c.2.2.2) cap,?_⟩;refine e_ (EW (h:=?_));refine BV (r:= .v (.int .i64 (DK w i n).2)) none (h5:=(by rw[DK,if_pos h0];exact LeA.of_eq (vi h0))) (h6:=⟨rfl,rfl,?_⟩);rw[DK,if_pos h0,hc];rfl
 have h0:¬(GM w i n).2.2=0:=ka;refine AG (EW (h:=?_));refine BV (r:= .v (.int .i64 (DK w i n).2)) none (h5:=(by rw[DK,if_neg h0];exact A6 _)) (h6:=⟨rfl,rfl,?_⟩);rw[DK,if_neg h0,SY h0];rfl
theorem sU(w:Wrk)(cap:Nat)(f:Fnd)(x:Itm)(hv:SpcV w.s.spc)(hm:w.s.spc.mounts.length<=1000)(htb:TabB w.s.tab)(hf:w.found[0]?=some f)(hx:w.r.items[0]?=some x)(hn:f.name.size<=100000):ACall prog 145 [.bp 0 0] [WA w cap,IB w cap] (fun r b t=>t=[]/\r= .v (.int .i64 (D8 w).2)/\b=[WA (D8 w).1 cap,IB (D8 w).1 cap]):=by
 have hsb:=hv.b hm;have ya:(w.found.map Ah)[0]?=some (Ah f):=by rw[List.getElem?_map,hf];rfl
 have hfn:Av w 0=f:=by unfold Av;rw[hf];rfl
 refine enter Tryz.func145 rfl rfl rfl rfl rfl 2 rfl ?_;refine w_ (a_ (h:=e_ (q_ (BJ ([(0,WA w cap),(1,IB w cap)]) 15 (h:=AE 0 (h:=BA 1 (h:=AA 2 (h:=A9 3 (h:=E1 4 (h:=A9 5 (h:=AE 6 (h:=BA 7 (h:=AA 8 (h:=AA 9 (h:=?_)))))))))))))));refine CE 10 rfl (fun _ hS=>CX (len:=4) (sz:=1) (n:=0) (by kernel_rfl) rfl rfl rfl rfl ⟨rfl,rfl⟩) ?_;refine A9 11 (h:=?_);refine c_ 12 rfl (Bn (by repeat constructor) ?_);refine o_ (h:=Ax 13 (h:=B8 14 (h:=z_ (h:=t_ (?_)))));refine BD (fun s=>∃(w2:Wrk) (F2:Fnd),D8 w=Lg w2 F2.file/\TabB w2.s.tab/\s=⟨look [(0, .bp 0 0),(3, .bp 2 0),(4, .v (.int .i64 w2.c.a0))],⟨[WA w2 cap,IB w2 cap,Ah F2],[]⟩⟩) ?_ ?_
 ·refine B2 (h:=e_ (?_));refine A3 rfl (fun kd ka=>?_) (fun kd ka=>?_)
  ·have hex:(Av w 0).ex=true:=by rw[hfn];exact ka
   refine BD (fun s=>s=⟨look [(0, .bp 0 0),(3, .bp 2 0),(4, .v (.int .i64 w.c.a0)),(5, .bp 3 0)],⟨[WA w cap,IB w cap,Ah f,Al (AY w.s.spc.files f.file)],[]⟩⟩) ?_ ?_
   ·refine BJ ([(0,WA w cap),(1,IB w cap),(2,Ah f)]) 15 (h:=AE 0 (h:=BA 1 (h:=AA 2 (h:=AA 3 (h:=AA 4 (h:=A9 5 (h:=AA 6 (h:=A9 7 (h:=?_)))))))));refine Ed 8 12 rfl rfl ?_ ?_
    ·refine AX (G0 w.s.spc.files f.file hsb.files) ?_;rintro r rfl;refine o_ (h:=AE 9 (h:=B6 10 (h:=B6 11 (h:=?_))));refine c_ 12 rfl (Bn (by repeat constructor) ?_);refine o_ (h:=Ax 13 (h:=B8 14 (h:=z_ (h:=?_))));refine AT ?_;exact⟨_,rfl,Ds 4 0⟩
    refine Bn (by repeat constructor) ?_;refine o_ (h:=c_ 8 rfl (AX (G0 w.s.spc.files f.file hsb.files) ?_));rintro r rfl;refine o_ (h:=AE 9 (h:=B6 10 (h:=B6 11 (h:=?_))));refine Ax 13 (h:=B8 14 (h:=z_ (h:=?_)));refine AT ?_;exact⟨_,rfl,Ds 4 0⟩
   rintro s rfl;refine DZ (h:=?_);refine BD (fun s=>s=⟨look [(0, .bp 0 0),(3, .bp 2 0),(4, .v (.int .i64 w.c.a0)),(5, .bp 3 0),(7, .v (.int .i64 (if CT w.c.a0 1=true then 4 else 0)))],⟨[WA w cap,IB w cap,Ah f,Al (AY w.s.spc.files f.file)],[]⟩⟩) ?_ ?_
   ·refine Ab (h:=Fd (h:=D3 (h:=?_)));refine A3 rfl (fun ke kc=>?_) (fun ke kc=>?_)
    ·have k0:CT w.c.a0 1=true:=by simpa[CT]using kc
     refine Rn (h:=?_);refine⟨_,rfl,?_⟩
     (rw[if_pos k0];exact Ds 4 0)
    have k0:¬CT w.c.a0 1=true:=by simpa[CT]using kc
    refine Ci (AT (?_));refine⟨_,rfl,?_⟩;rw[if_neg k0];exact Ds 4 0
   rintro s rfl;refine BD (fun s=>s=⟨look [(0, .bp 0 0),(3, .bp 2 0),(4, .v (.int .i64 w.c.a0)),(5, .bp 3 0),(7, .v (.int .i64 (Md w.c.a0)))],⟨[WA w cap,IB w cap,Ah f,Al (AY w.s.spc.files f.file)],[]⟩⟩) ?_ ?_
   ·refine Ab (h:=Fd (h:=D3 (h:=?_)));refine A3 rfl (fun kh kf=>?_) (fun kh kf=>?_)
    ·have k00:CT w.c.a0 18=true:=by simpa[CT]using kf
     refine Rn (h:=?_);refine⟨_,rfl,?_⟩;unfold Md
     (rw[if_pos k00];exact Ds 4 0)
    have k00:¬CT w.c.a0 18=true:=by simpa[CT]using kf
    refine Ci (AT (?_));refine⟨_,rfl,?_⟩;unfold Md;rw[if_neg k00,Int.add_zero];exact Ds 4 0
   rintro s rfl;refine BF (?_);refine BD (fun s=>s=⟨look [(0, .bp 0 0),(3, .bp 2 0),(4, .v (.int .i64 w.c.a0)),(5, .bp 3 0),(7, .v (.int .i64 (Md w.c.a0))),(48, .v (.bool (CT w.c.a0 4&&CT w.c.a0 8)))],⟨[WA w cap,IB w cap,Ah f,Al (AY w.s.spc.files f.file)],[]⟩⟩) ?_ ?_
   ·refine BU (h:=Fd (h:=Fw (h:=?_)));refine AF true rfl rfl (fun kl kg=>?_) (fun kl kg=>?_)
    ·refine m_ (h:=Fd (h:=Hp (h:=Bm (h:=D4 (h:=?_)))));exact⟨_,rfl,At 4 0 rfl rfl rfl (by simp[Am,Af,Aa,C7 B9,BN,WA,IB,DA,Ah,Al]) (by repeat (first|exact Sub.nil|refine Aw rfl rfl ?_|refine B3 ?_|refine B4 rfl ?_|refine B5 rfl ?_|(apply Sub.of;(focus exact rfl);(focus exact LeA.of_eq (vb (by simp[CT, *])));(focus exact rfl))))⟩
    refine DE (h:=D4 (h:=?_));exact⟨_,rfl,At 4 0 rfl rfl rfl (by simp[Am,Af,Aa,C7 B9,BN,WA,IB,DA,Ah,Al]) (by repeat (first|exact Sub.nil|refine Aw rfl rfl ?_|refine B3 ?_|refine B4 rfl ?_|refine B5 rfl ?_|(apply Sub.of;(focus exact rfl);(focus exact LeA.of_eq (vb (by simp[CT, *])));(focus exact rfl))))⟩
   rintro s rfl;refine A3 rfl (fun ko kk=>?_) (fun ko kk=>?_)
   ·have k1:CT w.c.a0 4=true/\CT w.c.a0 8=true:=by simpa using kk
    refine BR (h:=?_);refine BV (r:= .v (.int .i64 (D8 w).2)) none (h5:=(by rw[D8,if_pos hex,if_pos k1];exact A6 _)) (h6:=⟨rfl,rfl,?_⟩);rw[D8,if_pos hex,if_pos k1];rfl
   have k1:¬(CT w.c.a0 4=true/\CT w.c.a0 8=true):=by simpa using kk
   refine B2 (h:=Et (h:=?_));refine A3 rfl (fun kq km=>?_) (fun kq km=>?_)
   ·have k2:(AY w.s.spc.files (Av w 0).file).kind=3:=by rw[hfn];exact km
    refine BR (h:=?_);refine BV (r:= .v (.int .i64 (D8 w).2)) none (h5:=(by rw[D8,if_pos hex,if_neg k1,if_pos k2];exact A6 _)) (h6:=⟨rfl,rfl,?_⟩);rw[D8,if_pos hex,if_neg k1,if_pos k2];rfl
   have k2:¬(AY w.s.spc.files (Av w 0).file).kind=3:=by rw[hfn];exact km
   refine BD (fun s=>s=⟨look [(0, .bp 0 0),(3, .bp 2 0),(4, .v (.int .i64 w.c.a0)),(5, .bp 3 0),(7, .v (.int .i64 (Md w.c.a0))),(61, .v (.bool (decide ((AY w.s.spc.files f.file).kind=2)&&CT w.c.a0 22)))],⟨[WA w cap,IB w cap,Ah f,Al (AY w.s.spc.files f.file)],[]⟩⟩) ?_ ?_
   ·refine Aq (Ju (h:=?_));refine AF true rfl rfl (fun ks kp=>?_) (fun ks kp=>?_)
    ·refine m_ (h:=Fd (h:=Hp (h:=Bm (h:=D4 (h:=?_)))));exact⟨_,rfl,At 4 0 rfl rfl rfl (by simp[Am,Af,Aa,C7 B9,BN,WA,IB,DA,Ah,Al]) (by repeat (first|exact Sub.nil|refine Aw rfl rfl ?_|refine B3 ?_|refine B4 rfl ?_|refine B5 rfl ?_|(apply Sub.of;(focus exact rfl);(focus exact LeA.of_eq (vb (by simp[CT, *])));(focus exact rfl))))⟩
    refine DE (h:=D4 (h:=?_));exact⟨_,rfl,At 4 0 rfl rfl rfl (by simp[Am,Af,Aa,C7 B9,BN,WA,IB,DA,Ah,Al]) (by repeat (first|exact Sub.nil|refine Aw rfl rfl ?_|refine B3 ?_|refine B4 rfl ?_|refine B5 rfl ?_|(apply Sub.of;(focus exact rfl);(focus exact LeA.of_eq (vb (by simp[CT, *])));(focus exact rfl))))⟩
   rintro s rfl;refine A3 rfl (fun kt kr=>?_) (fun kt kr=>?_)
   ·have k3:(AY w.s.spc.files (Av w 0).file).kind=2/\CT w.c.a0 22=true:=by rw[hfn];simpa using kr
    refine BR (h:=?_);refine BV (r:= .v (.int .i64 (D8 w).2)) none (h5:=(by rw[D8,if_pos hex,if_neg k1,if_neg k2,if_pos k3];exact A6 _)) (h6:=⟨rfl,rfl,?_⟩);rw[D8,if_pos hex,if_neg k1,if_neg k2,if_pos k3];rfl
   have k3:¬((AY w.s.spc.files (Av w 0).file).kind=2/\CT w.c.a0 22=true):=by rw[hfn];simpa using kr
   refine Ab (h:=Eu (h:=?_));refine A7 (DX 1 rfl (.cons _ _ _ _ _ rfl (LeA.of_eq rfl) (.cons _ _ _ _ _ rfl (A6 _) (.cons _ _ _ _ _ rfl (A6 _) .nil))) (Li w .any f.file (Md w.c.a0) hsb) ?_);rintro r rfl;refine⟨rfl,?_⟩;refine D1 (h:=Ay (h:=?_));refine A3 rfl (fun kv ku=>?_) (fun kv ku=>?_)
   ·have k4:CU w (Av w 0).file (Md w.c.a0)=false:=by rw[hfn];simpa using ku
    refine BR (h:=?_);refine BV (r:= .v (.int .i64 (D8 w).2)) none (h5:=(by rw[D8,if_pos hex,if_neg k1,if_neg k2,if_neg k3,if_pos k4];exact A6 _)) (h6:=⟨rfl,rfl,?_⟩);rw[D8,if_pos hex,if_neg k1,if_neg k2,if_neg k3,if_pos k4];rfl
   have k4:¬CU w (Av w 0).file (Md w.c.a0)=false:=by rw[hfn];simpa using ku
   refine JE (h:=AT (?_));exact⟨_,⟨w,f,(by rw[D8,if_pos hex,if_neg k1,if_neg k2,if_neg k3,if_neg k4,hfn]),htb,rfl⟩,Ds 3 0⟩
  have hex:¬(Av w 0).ex=true:=by rw[hfn];simpa using ka
  refine q_ (BF (Ab (h:=Fd (h:=Et (h:=?_)))));refine A3 rfl (fun yf yb=>?_) (fun yf yb=>?_)
  ·have k1:CT w.c.a0 4=false:=by simp only[CT];simpa using yb
   refine BR (h:=Bp (?_));refine BV (r:= .v (.int .i64 (D8 w).2)) none (h5:=(by rw[D8,if_neg hex,if_pos k1];exact A6 _)) (h6:=⟨rfl,rfl,?_⟩);rw[D8,if_neg hex,if_pos k1];rfl
  have k1:¬CT w.c.a0 4=false:=by simp only[CT];simpa using yb
  refine B2 (h:=Ay (h:=?_));refine A3 rfl (fun yq yc=>?_) (fun yq yc=>?_)
  ·have k2:(Av w 0).slash=true:=by rw[hfn];exact yc
   refine BR (h:=Bp (?_));refine BV (r:= .v (.int .i64 (D8 w).2)) none (h5:=(by rw[D8,if_neg hex,if_neg k1,if_pos k2];exact A6 _)) (h6:=⟨rfl,rfl,?_⟩);rw[D8,if_neg hex,if_neg k1,if_pos k2];rfl
  have k2:¬(Av w 0).slash=true:=by rw[hfn];simpa using yc
  refine Ab (h:=Ac (h:=?_));refine A7 (DX 1 rfl (.cons _ _ _ _ _ rfl (LeA.of_eq rfl) (.cons _ _ _ _ _ rfl (A6 _) (.cons _ _ _ _ _ rfl (A6 _) .nil))) (Li w .any f.dir 2 hsb) ?_);rintro r rfl;refine⟨rfl,?_⟩;refine D1 (h:=Ay (h:=?_));refine A3 rfl (fun yu yg=>?_) (fun yu yg=>?_)
  ·have k3:CU w (Av w 0).dir 2=false:=by rw[hfn];simpa using yg
   refine BR (h:=Bp (?_));refine BV (r:= .v (.int .i64 (D8 w).2)) none (h5:=(by rw[D8,if_neg hex,if_neg k1,if_neg k2,if_pos k3];exact A6 _)) (h6:=⟨rfl,rfl,?_⟩);rw[D8,if_neg hex,if_neg k1,if_neg k2,if_pos k3];rfl
  have k3:¬CU w (Av w 0).dir 2=false:=by rw[hfn];simpa using yg
  refine Ej (h:=EH (h:=J3 (h:=f_ (h:=?_))));refine A7 (CX (len:=4) (sz:=1) (n:=1) (by kernel_rfl) rfl rfl rfl rfl ?_);refine l_ (h:=?_);refine A7 (Hr (y:= .agg (Al (LH w.c.a1))) (E3 ⟨rfl,rfl⟩) ?_);refine A7 (Bo [0,1] rfl (.cons _ _ _ _ _ rfl (A6 _) (.cons _ _ _ _ _ rfl (A6 _) (.cons _ _ _ _ _ rfl (A6 _) .nil))) (by decide) (.cons _ _ _ _ _ rfl rfl (.cons _ _ _ _ _ rfl (Dp B9 _ _ _) .nil)) (Vg w cap 0 (LH w.c.a1) f x hv.files hf hx hn (BG _) rfl) ?_);rintro r bc tc ⟨rfl,rfl,rfl⟩;refine⟨rfl,_,EO rfl (DK w 0 (LH w.c.a1)).1 cap,?_⟩;refine Gs (h:=?_);refine A3 rfl (fun yy yr=>?_) (fun yy yr=>?_)
  ·have k4:(DK w 0 (LH w.c.a1)).2≠0:=by simpa using yr
   refine Ab (h:=FN (h:=Bp (?_)));refine BV (r:= .v (.int .i64 (D8 w).2)) none (h5:=(by rw[D8,if_neg hex,if_neg k1,if_neg k2,if_neg k3,if_pos k4];exact A6 _)) (h6:=⟨rfl,rfl,?_⟩);rw[D8,if_neg hex,if_neg k1,if_neg k2,if_neg k3,if_pos k4];rfl
  have k4:(DK w 0 (LH w.c.a1)).2=0:=by simpa using yr
  obtain⟨c,hc⟩:=sR k4;have mo:((DK w 0 (LH w.c.a1)).1.r.changes.map FE)[0]?=some (FE c):=by rw[hc];rfl
  refine AG (BU (h:=Dw (h:=?_)));refine A7 (DM (n:=0) rfl rfl rfl mo ?_);refine Ac (h:=Jf (h:=?_));obtain⟨q1,q2,q3⟩:=sT w 0 (LH w.c.a1);exact⟨_,⟨(DK w 0 (LH w.c.a1)).1,{f with file:=c.2.2.2},(by rw[D8,if_neg hex,if_neg k1,if_neg k2,if_neg k3,if_neg (by simp[k4]),hc];rfl),by rw[q1];exact htb,rfl⟩,by rw[q3];exact Ds 3 0⟩
 rintro s ⟨w2,F2,hop,htb2,rfl⟩;refine BD (fun s=>s=⟨look [(0, .bp 0 0),(9, .bp 3 0),(10, .v (.int .i64 (Gz w2.s.tab w2.p.pid F2.file w2.c.a0).2.1)),(11, .v (.int .i64 (Gz w2.s.tab w2.p.pid F2.file w2.c.a0).2.2))],⟨[WA w2 cap,IB w2 cap,Ah F2,Ao (Gz w2.s.tab w2.p.pid F2.file w2.c.a0).1],[]⟩⟩) ?_ ?_
 ·refine BJ ([(0,WA w2 cap),(1,IB w2 cap),(2,Ah F2)]) 22 (h:=AE 0 (h:=BA 1 (h:=AA 2 (h:=AA 3 (h:=A9 4 (h:=AE 5 (h:=BA 6 (h:=AA 7 (h:=AA 8 (h:=A9 9 (h:=AA 10 (h:=A9 11 (h:=AE 12 (h:=?_))))))))))))));refine Ed 13 18 rfl rfl ?_ ?_
  ·refine AX (bA w2.s.tab w2.p.pid F2.file w2.c.a0 htb2) ?_;rintro r rfl;refine o_ (h:=AE 14 (h:=B6 15 (h:=B6 16 (h:=B6 17 (h:=?_)))));refine c_ 18 rfl (Bn (by repeat constructor) ?_);refine o_ (h:=Ax 19 (h:=B8 20 (h:=B8 21 (h:=z_ (h:=?_)))));refine AT ?_;exact⟨_,rfl,Ds 4 0⟩
  refine Bn (by repeat constructor) ?_;refine o_ (h:=c_ 13 rfl (AX (bA w2.s.tab w2.p.pid F2.file w2.c.a0 htb2) ?_));rintro r rfl;refine o_ (h:=AE 14 (h:=B6 15 (h:=B6 16 (h:=B6 17 (h:=?_)))));refine Ax 19 (h:=B8 20 (h:=B8 21 (h:=z_ (h:=?_))));refine AT ?_;exact⟨_,rfl,Ds 4 0⟩
 rintro s rfl;refine Eh (h:=J3 (h:=Cg (h:=Ab (h:=GD (h:=?_)))));refine A7 (Bo [0,1] rfl (.cons _ _ _ _ _ rfl (A6 _) (.cons _ _ _ _ _ rfl (A6 _) (.cons _ _ _ _ _ rfl (A6 _) .nil))) (by decide) (.cons _ _ _ _ _ rfl rfl (.cons _ _ _ _ _ rfl (Dp B9 _ _ _) .nil)) (Ve (SN w2 (Gz w2.s.tab w2.p.pid F2.file w2.c.a0).2.1) cap (Gz w2.s.tab w2.p.pid F2.file w2.c.a0).1 (Gz w2.s.tab w2.p.pid F2.file w2.c.a0).2.2) ?_);rintro r bc tc ⟨rfl,rfl,rfl⟩;refine⟨rfl,_,EO rfl (Lg w2 F2.file).1 cap,?_⟩;refine BW (h:=?_);refine BV (r:= .v (.int .i64 (D8 w).2)) none (h5:=(by rw[hop,Lg,MC];exact A6 _)) (h6:=⟨rfl,rfl,?_⟩);rw[hop];rfl
end
theorem bJ{e:Int}{y x:A8}{c d:Bool}:(decide (e=0)&& !decide ((y.1,y.2)=(x.1,x.2))&&c&&d)=true↔(e=0/\y≠x/\c=true/\d=true):=by
 have:decide ((y.1,y.2)=(x.1,x.2))=decide (y=x):=rfl;rw[this];simp[and_assoc]
theorem bK{w:Wrk}{R:Fj}{x:A8}(h:(decide (R.2.2=0)&&decide (0<(R.2.1.length:Int)))=true):M7 w R x=(LG (K9 (Bf w R).1 0 3) 1 x,R.2.2):=by
 rw[Bool.and_eq_true]at h;have h1:=of_decide_eq_true h.1;unfold M7;rw[if_neg (by simp[h1]),if_pos (of_decide_eq_true h.2),h1]
theorem bL{w:Wrk}{R:Fj}{x:A8}(h:(decide (R.2.2=0)&&decide (0<(R.2.1.length:Int)))=false):M7 w R x=((Bf w R).1,R.2.2):=by
 unfold M7;by_cases h0:R.2.2=0
 ·rw[if_neg (by simp[h0]),if_neg (by simpa[h0]using h),h0]
 rw[if_pos h0,SY h0]
theorem bM(w:Wrk)(i:Nat)(r:Int)(cap:Nat):WA (K9 w i r) cap=WA w cap:=by
 unfold WA K9;simp only[List.length_modify];rfl
theorem bO{w:Wrk}{i:Nat}{x:Itm}(hx:w.r.items[i]?=some x)(r:Int)(cap:Nat):IB (K9 w i r) cap=LB 13 Cn (w.r.items.set i {x with role:=r}) cap:=by
 unfold IB K9;rw[bG hx]
section
theorem sV(w:Wrk)(cap:Nat)(f g:Fnd)(x0 x1:Itm)(hv:SpcV w.s.spc)(hm:w.s.spc.mounts.length<=1000)(hps:w.s.tab.ps.length<=1000)(hf:w.found[0]?=some f)(hg:w.found[1]?=some g)(hx0:w.r.items[0]?=some x0)(hx1:w.r.items[1]?=some x1)(hn:f.name.size<=100000)(hn2:g.name.size<=100000):ACall prog 148 [.bp 0 0] [WA w cap,IB w cap] (fun r b t=>t=[]/\r= .v (.int .i64 (Gg w).2)/\b=[WA (Gg w).1 cap,IB (Gg w).1 cap]):=by
 have hsb:=hv.b hm;have mj:(w.found.map Ah)[0]?=some (Ah f):=by rw[List.getElem?_map,hf];rfl
 have hrow1:(w.found.map Ah)[1]?=some (Ah g):=by rw[List.getElem?_map,hg];rfl
 have hfn:Av w 0=f:=by unfold Av;rw[hf];rfl
 have hgn:Av w 1=g:=by unfold Av;rw[hg];rfl
 have hil:0<w.r.items.length:=(AZ.1 hx0).1;obtain⟨R,hR⟩:∃R,R=Gd w.s.spc.files f.dir f.name g.dir g.name:=⟨_,rfl⟩;have hok:=Yv hv.files f.dir f.name g.dir g.name;rw[<-hR]at hok;have ow:AFn prog 175 [.agg (Ap w.s.spc.files), .agg (AB f.dir), .v (.string f.name), .agg (AB g.dir), .v (.string g.name)] (fun r=>r=Cs R):=by rw[hR];exact m9 _ _ _ _ _ hv.files hn hn2
 obtain⟨x,hxd⟩:∃x,x=(AJ w.s.spc.files f.dir f.name).1:=⟨_,rfl⟩;obtain⟨y,hyd⟩:∃y,y=(AJ w.s.spc.files g.dir g.name).1:=⟨_,rfl⟩;have hl1:AFn prog 134 [.agg (Ap w.s.spc.files), .agg (AB f.dir), .v (.string f.name)] (fun r=>r= .tup [.agg (AB x), .v (.int .i64 (AJ w.s.spc.files f.dir f.name).2)]):=by rw[hxd];exact LV _ _ _ hsb.files
 have hl2:AFn prog 134 [.agg (Ap w.s.spc.files), .agg (AB g.dir), .v (.string g.name)] (fun r=>r= .tup [.agg (AB y), .v (.int .i64 (AJ w.s.spc.files g.dir g.name).2)]):=by rw[hyd];exact LV _ _ _ hsb.files
 obtain⟨e2,he2⟩:∃e,e=(AJ w.s.spc.files g.dir g.name).2:=⟨_,rfl⟩;rw[<-he2]at hl2
 have oc:Gg w=if f.ex=false then(w,2)else if f.name=⟨#[]⟩\/g.name=⟨#[]⟩then(w,16)else if g.slash=true/\AU w.s.spc.files f.file=false then(w,20)else if f.dir.1≠g.dir.1 then(w,18)else if CU w f.dir 2=false\/CU w g.dir 2=false then(w,13)else if e2=0/\y≠x/\AU w.s.spc.files y=true/\K8 w y=true then(w,16)else M7 w R x:=by
  unfold Gg LF;rw[hfn,hgn,<-hxd,<-hyd,<-he2,<-hR]
 clear hxd hyd he2 hR;refine enter Tryz.func148 rfl rfl rfl rfl rfl 2 rfl ?_;refine DZ (h:=?_);refine BD (fun s=>s=⟨look [(0, .bp 0 0),(3, .bp 2 0),(4, .bp 3 0)],⟨[WA w cap,IB w cap,Ah f,Ah g],[]⟩⟩) ?_ ?_
 ·refine BJ ([(0,WA w cap)]) 16 (h:=AE 0 (h:=BA 1 (h:=AA 2 (h:=A9 3 (h:=?_)))));refine CE 4 rfl (fun _ hS=>DM (n:=0) rfl rfl rfl mj ⟨rfl,rfl⟩) ?_;refine A9 5 (h:=AE 6 (h:=BA 7 (h:=AA 8 (h:=A9 9 (h:=?_)))));refine CE 10 rfl (fun _ hS=>DM (n:=1) rfl rfl rfl hrow1 ⟨rfl,rfl⟩) ?_;refine A9 11 (h:=?_);refine Ed 12 13 rfl rfl ?_ ?_
  ·refine Bn (by repeat constructor) ?_;refine o_ (h:=c_ 13 rfl (Bn (by repeat constructor) ?_));refine o_ (h:=Ax 14 (h:=?_));refine Ax 15 (h:=z_ (h:=?_));refine AT ?_;exact⟨_,rfl,Ds 4 0⟩
  refine Bn (by repeat constructor) ?_;refine o_ (h:=c_ 12 rfl (Bn (by repeat constructor) ?_));refine o_ (h:=Ax 14 (h:=?_));refine Ax 15 (h:=z_ (h:=?_));refine AT ?_;exact⟨_,rfl,JZ [0,1,3,2] Ub (by decide) (.cons _ _ _ _ _ rfl rfl (.cons _ _ _ _ _ rfl (Me B9 _ _ _) (.cons _ _ _ _ _ rfl rfl (.cons _ _ _ _ _ rfl rfl .nil)))) (by repeat (first|exact SubK.nil|refine SubK.cons _ _ _ _ rfl (A6 _) ?_))⟩
 rintro s rfl;refine q_ (BF (B2 (h:=D1 (h:=Ay (h:=?_)))));refine A3 rfl (fun kd ka=>?_) (fun kd ka=>?_)
 ·have k1:f.ex=false:=by simpa using ka
  refine BR (h:=?_);refine BV (r:= .v (.int .i64 (Gg w).2)) none (h5:=(by rw[oc,if_pos k1];exact A6 _)) (h6:=⟨rfl,rfl,?_⟩);rw[oc,if_pos k1];rfl
 have k1:¬f.ex=false:=by simpa using ka
 refine BD (fun s=>s=⟨look [(0, .bp 0 0),(3, .bp 2 0),(4, .bp 3 0),(26, .v (.bool (decide (f.name=⟨#[]⟩)||decide (g.name=⟨#[]⟩))))],⟨[WA w cap,IB w cap,Ah f,Ah g],[]⟩⟩) ?_ ?_
 ·refine Aq (Ju (h:=?_));refine AF false rfl rfl (fun ke kc=>?_) (fun ke kc=>?_)
  ·refine G9 (h:=D4 (h:=?_));exact⟨_,rfl,CL 4 0 (by simp[Am,Af,Aa,C7 B9,BN,WA,IB,DA,Ah])⟩
  refine D2 (h:=C3 (h:=D4 (h:=?_)));exact⟨_,rfl,CL 4 0 (by simp[Am,Af,Aa,C7 B9,BN,WA,IB,DA,Ah])⟩
 rintro s rfl;refine A3 rfl (fun kh kf=>?_) (fun kh kf=>?_)
 ·have k2:f.name=⟨#[]⟩\/g.name=⟨#[]⟩:=by simpa using kf
  refine BR (h:=?_);refine BV (r:= .v (.int .i64 (Gg w).2)) none (h5:=(by rw[oc,if_neg k1,if_pos k2];exact A6 _)) (h6:=⟨rfl,rfl,?_⟩);rw[oc,if_neg k1,if_pos k2];rfl
 have k2:¬(f.name=⟨#[]⟩\/g.name=⟨#[]⟩):=by simpa using kf
 refine BD (fun s=>s=⟨look [(0, .bp 0 0),(3, .bp 2 0),(4, .bp 3 0),(35, .v (.bool (g.slash&& !AU w.s.spc.files f.file)))],⟨[WA w cap,IB w cap,Ah f,Ah g],[]⟩⟩) ?_ ?_
 ·refine Aq (Eu (h:=?_));refine AF true rfl rfl (fun kl kg=>?_) (fun kl kg=>?_)
  ·refine m_ (h:=?_);refine Ak (DX 1 rfl (.cons _ _ _ _ _ rfl (LeA.of_eq rfl) (.cons _ _ _ _ _ rfl (A6 _) .nil)) (NN w .any 0 f hsb hf) ?_);rintro r rfl;refine⟨rfl,?_⟩;refine D1 (h:=Bm (h:=D4 (h:=?_)));exact⟨_,rfl,CL 4 0 (by simp[Am,Af,Aa,C7 B9,BN,WA,IB,DA,Ah])⟩
  refine DE (h:=D4 (h:=?_));exact⟨_,rfl,CL 4 0 (by simp[Am,Af,Aa,C7 B9,BN,WA,IB,DA,Ah])⟩
 rintro s rfl;refine A3 rfl (fun ko kk=>?_) (fun ko kk=>?_)
 ·have k3:g.slash=true/\AU w.s.spc.files f.file=false:=by simpa using kk
  refine BR (h:=?_);refine BV (r:= .v (.int .i64 (Gg w).2)) none (h5:=(by rw[oc,if_neg k1,if_neg k2,if_pos k3];exact A6 _)) (h6:=⟨rfl,rfl,?_⟩);rw[oc,if_neg k1,if_neg k2,if_pos k3];rfl
 have k3:¬(g.slash=true/\AU w.s.spc.files f.file=false):=by simpa using kk
 refine w_ (E4 (h:=E4 (h:=Hp (h:=Ay (h:=?_)))));refine A3 rfl (fun kq km=>?_) (fun kq km=>?_)
 ·have k4:f.dir.1≠g.dir.1:=by simpa using km
  refine BR (h:=?_);refine BV (r:= .v (.int .i64 (Gg w).2)) none (h5:=(by rw[oc,if_neg k1,if_neg k2,if_neg k3,if_pos k4];exact A6 _)) (h6:=⟨rfl,rfl,?_⟩);rw[oc,if_neg k1,if_neg k2,if_neg k3,if_pos k4];rfl
 have k4:¬f.dir.1≠g.dir.1:=by simpa using km
 refine BD (fun s=>s=⟨look [(0, .bp 0 0),(3, .bp 2 0),(4, .bp 3 0),(51, .v (.bool (!CU w f.dir 2|| !CU w g.dir 2)))],⟨[WA w cap,IB w cap,Ah f,Ah g],[]⟩⟩) ?_ ?_
 ·refine BU (h:=Ac (h:=?_));refine A7 (DX 1 rfl (.cons _ _ _ _ _ rfl (LeA.of_eq rfl) (.cons _ _ _ _ _ rfl (A6 _) (.cons _ _ _ _ _ rfl (A6 _) .nil))) (Li w .any f.dir 2 hsb) ?_);rintro r rfl;refine⟨rfl,?_⟩;refine F6 (h:=?_);refine AF false rfl rfl (fun ks kp=>?_) (fun ks kp=>?_)
  ·refine BB (h:=G9 (h:=D4 (h:=?_)));exact⟨_,rfl,CL 4 0 (by simp[Am,Af,Aa,C7 B9,BN,WA,IB,DA,Ah])⟩
  refine m_ (h:=Ac (h:=?_));refine Ak (DX 1 rfl (.cons _ _ _ _ _ rfl (LeA.of_eq rfl) (.cons _ _ _ _ _ rfl (A6 _) (.cons _ _ _ _ _ rfl (A6 _) .nil))) (Li w .any g.dir 2 hsb) ?_);rintro r rfl;refine⟨rfl,?_⟩;refine D1 (h:=C3 (h:=D4 (h:=?_)));exact⟨_,rfl,CL 4 0 (by simp[Am,Af,Aa,C7 B9,BN,WA,IB,DA,Ah])⟩
 rintro s rfl;refine A3 rfl (fun kt kr=>?_) (fun kt kr=>?_)
 ·have k5:CU w f.dir 2=false\/CU w g.dir 2=false:=by simpa using kr
  refine BR (h:=?_);refine BV (r:= .v (.int .i64 (Gg w).2)) none (h5:=(by rw[oc,if_neg k1,if_neg k2,if_neg k3,if_neg k4,if_pos k5];exact A6 _)) (h6:=⟨rfl,rfl,?_⟩);rw[oc,if_neg k1,if_neg k2,if_neg k3,if_neg k4,if_pos k5];rfl
 have k5:¬(CU w f.dir 2=false\/CU w g.dir 2=false):=by simpa using kr
 refine Ej (h:=?_);refine BD (fun s=>s=⟨look [(0, .bp 0 0),(3, .bp 2 0),(4, .bp 3 0),(5, .bp 4 0)],⟨[WA w cap,IB w cap,Ah f,Ah g,AB x],[]⟩⟩) ?_ ?_
 ·refine BJ ([(0,WA w cap),(1,IB w cap),(2,Ah f),(3,Ah g)]) 17 (h:=AE 0 (h:=BA 1 (h:=AA 2 (h:=AA 3 (h:=AA 4 (h:=A9 5 (h:=AA 6 (h:=A9 7 (h:=AA 8 (h:=A9 9 (h:=?_)))))))))));refine Ed 10 14 rfl rfl ?_ ?_
  ·refine AX (hl1) ?_;rintro r rfl;refine o_ (h:=AE 11 (h:=B6 12 (h:=B6 13 (h:=?_))));refine c_ 14 rfl (Bn (by repeat constructor) ?_);refine o_ (h:=Ax 15 (h:=B8 16 (h:=z_ (h:=?_))));refine AT ?_;exact⟨_,rfl,Ds 5 0⟩
  refine Bn (by repeat constructor) ?_;refine o_ (h:=c_ 10 rfl (AX (hl1) ?_));rintro r rfl;refine o_ (h:=AE 11 (h:=B6 12 (h:=B6 13 (h:=?_))));refine Ax 15 (h:=B8 16 (h:=z_ (h:=?_)));refine AT ?_;exact⟨_,rfl,Ds 5 0⟩
 rintro s rfl;refine q_ (?_);refine BD (fun s=>s=⟨look [(0, .bp 0 0),(3, .bp 2 0),(4, .bp 3 0),(5, .bp 4 0),(7, .bp 5 0),(8, .v (.int .i64 e2))],⟨[WA w cap,IB w cap,Ah f,Ah g,AB x,AB y],[]⟩⟩) ?_ ?_
 ·refine BJ ([(0,WA w cap),(1,IB w cap),(2,Ah f),(3,Ah g),(4,AB x)]) 17 (h:=AE 0 (h:=BA 1 (h:=AA 2 (h:=AA 3 (h:=AA 4 (h:=A9 5 (h:=AA 6 (h:=A9 7 (h:=AA 8 (h:=A9 9 (h:=?_)))))))))));refine Ed 10 14 rfl rfl ?_ ?_
  ·refine AX (hl2) ?_;rintro r rfl;refine o_ (h:=AE 11 (h:=B6 12 (h:=B6 13 (h:=?_))));refine c_ 14 rfl (Bn (by repeat constructor) ?_);refine o_ (h:=Ax 15 (h:=B8 16 (h:=z_ (h:=?_))));refine AT ?_;exact⟨_,rfl,Ds 6 0⟩
  refine Bn (by repeat constructor) ?_;refine o_ (h:=c_ 10 rfl (AX (hl2) ?_));rintro r rfl;refine o_ (h:=AE 11 (h:=B6 12 (h:=B6 13 (h:=?_))));refine Ax 15 (h:=B8 16 (h:=z_ (h:=?_)));refine AT ?_;exact⟨_,rfl,Ds 6 0⟩
 rintro s rfl;refine BD (fun s=>s=⟨look [(0, .bp 0 0),(3, .bp 2 0),(4, .bp 3 0),(5, .bp 4 0),(113, .v (.bool (decide (e2=0)&& !decide ((y.1,y.2)=(x.1,x.2))&&AU w.s.spc.files y&&K8 w y)))],⟨[WA w cap,IB w cap,Ah f,Ah g,AB x],[]⟩⟩) ?_ ?_
 ·refine E0 22 (h:=AE 0 (h:=KS 1 (h:=AE 2 (h:=?_))));refine MJ (j:=2) rfl (fun kv=>?_) (fun kv=>?_)
  ·have ku:=bp kv;refine A9 3 (h:=A9 4 (h:=?_));refine Hm (i:=5) rfl (Jk rfl rfl (by repeat constructor) (by repeat constructor) (fun w=>Tt _ _ _ _ w) (by kernel_rfl) ⟨rfl,rfl⟩) ?_;refine Ls 6 (h:=AE 7 (h:=?_));refine MJ (j:=7) rfl (fun yf=>?_) (fun yf=>?_)
   ·have yb:=bp yf;refine AE 8 (h:=BA 9 (h:=AA 10 (h:=AA 11 (h:=AA 12 (h:=A9 13 (h:=A9 14 (h:=?_)))))));refine c_ 15 rfl (AX (LT w.s.spc.files y hsb.files) ?_);rintro r rfl;refine o_ (h:=Ls 16 (h:=AE 17 (h:=?_)));refine MJ (j:=17) rfl (fun yq=>?_) (fun yq=>?_)
    ·have yc:=bp yq;refine AE 18 (h:=A9 19 (h:=?_));refine c_ 20 rfl (DX 1 rfl (.cons _ _ _ _ _ rfl (LeA.of_eq rfl) (.cons _ _ _ _ _ rfl (A6 _) .nil)) (bC w .any y hsb hps) ?_);rintro r rfl;refine⟨rfl,?_⟩;refine o_ (h:=Ls 21 (h:=z_ (h:=?_)));refine AT ?_;exact⟨_,rfl,At 5 0 rfl rfl rfl (by simp[Am,Af,Aa,C7 B9,BN,WA,IB,DA,Ah,AB]) (by repeat (first|exact Sub.nil|refine Aw rfl rfl ?_|refine B3 ?_|refine B4 rfl ?_|refine B5 rfl ?_|(apply Sub.of;(focus exact rfl);(focus exact LeA.of_eq (vb (by first|(simp[*];done)|(simp only[*,decide_true,decide_false,Bool.not_true,Bool.not_false,Bool.true_and,Bool.and_true,Bool.false_and,Bool.and_false]))));(focus exact rfl))))⟩
    have yc:=bp yq;refine BX 18 (h:=BX 19 (h:=BX 20 (h:=L0 21 (h:=z_ (h:=?_)))));refine AT ?_;exact⟨_,rfl,At 5 0 rfl rfl rfl (by simp[Am,Af,Aa,C7 B9,BN,WA,IB,DA,Ah,AB]) (by repeat (first|exact Sub.nil|refine Aw rfl rfl ?_|refine B3 ?_|refine B4 rfl ?_|refine B5 rfl ?_|(apply Sub.of;(focus exact rfl);(focus exact LeA.of_eq (vb (by first|(simp[*];done)|(simp only[*,decide_true,decide_false,Bool.not_true,Bool.not_false,Bool.true_and,Bool.and_true,Bool.false_and,Bool.and_false]))));(focus exact rfl))))⟩
   have yb:=bp yf;refine BX 8 (h:=BX 9 (h:=BX 10 (h:=BX 11 (h:=BX 12 (h:=BX 13 (h:=BX 14 (h:=BX 15 (h:=L0 16 (h:=AE 17 (h:=BX 18 (h:=BX 19 (h:=BX 20 (h:=L0 21 (h:=z_ (h:=?_)))))))))))))));refine AT ?_;exact⟨_,rfl,At 5 0 rfl rfl rfl (by simp[Am,Af,Aa,C7 B9,BN,WA,IB,DA,Ah,AB]) (by repeat (first|exact Sub.nil|refine Aw rfl rfl ?_|refine B3 ?_|refine B4 rfl ?_|refine B5 rfl ?_|(apply Sub.of;(focus exact rfl);(focus exact LeA.of_eq (vb (by first|(simp[*];done)|(simp only[*,decide_true,decide_false,Bool.not_true,Bool.not_false,Bool.true_and,Bool.and_true,Bool.false_and,Bool.and_false]))));(focus exact rfl))))⟩
  have ku:=bp kv;refine BX 3 (h:=BX 4 (h:=BX 5 (h:=L0 6 (h:=AE 7 (h:=BX 8 (h:=BX 9 (h:=BX 10 (h:=BX 11 (h:=BX 12 (h:=BX 13 (h:=BX 14 (h:=BX 15 (h:=L0 16 (h:=AE 17 (h:=BX 18 (h:=BX 19 (h:=BX 20 (h:=L0 21 (h:=z_ (h:=?_))))))))))))))))))));refine AT ?_;exact⟨_,rfl,At 5 0 rfl rfl rfl (by simp[Am,Af,Aa,C7 B9,BN,WA,IB,DA,Ah,AB]) (by repeat (first|exact Sub.nil|refine Aw rfl rfl ?_|refine B3 ?_|refine B4 rfl ?_|refine B5 rfl ?_|(apply Sub.of;(focus exact rfl);(focus exact LeA.of_eq (vb (by first|(simp[*];done)|(simp only[*,decide_true,decide_false,Bool.not_true,Bool.not_false,Bool.true_and,Bool.and_true,Bool.false_and,Bool.and_false]))));(focus exact rfl))))⟩
 rintro s rfl;refine A3 rfl (fun yu yg=>?_) (fun yu yg=>?_)
 ·have k6:=bJ.1 yu;refine BC (h:=?_);refine BV (r:= .v (.int .i64 (Gg w).2)) none (h5:=(by rw[oc,if_neg k1,if_neg k2,if_neg k3,if_neg k4,if_neg k5,if_pos k6];exact A6 _)) (h6:=⟨rfl,rfl,?_⟩);rw[oc,if_neg k1,if_neg k2,if_neg k3,if_neg k4,if_neg k5,if_pos k6];rfl
 have k6:¬(e2=0/\y≠x/\AU w.s.spc.files y=true/\K8 w y=true):=fun h=>by rw[bJ.2 h]at yu;cases yu
 refine AG (q_ (BJ ([(0,WA w cap),(1,IB w cap),(2,Ah f),(3,Ah g)]) 19 (h:=AE 0 (h:=AE 1 (h:=BA 2 (h:=AA 3 (h:=AA 4 (h:=AA 5 (h:=A9 6 (h:=AA 7 (h:=A9 8 (h:=AA 9 (h:=A9 10 (h:=AA 11 (h:=A9 12 (h:=AA 13 (h:=A9 14 (h:=?_))))))))))))))))));refine c_ 15 rfl (AX (ow) ?_);rintro r rfl;refine o_ (h:=B6 16 (h:=B6 17 (h:=B6 18 (h:=?_))));refine c_ 19 rfl (Bo [0,1] rfl (.cons _ _ _ _ _ rfl (A6 _) (.cons _ _ _ _ _ rfl (A6 _) (.cons _ _ _ _ _ rfl (A6 _) (.cons _ _ _ _ _ rfl (A6 _) .nil)))) (by decide) (.cons _ _ _ _ _ rfl rfl (.cons _ _ _ _ _ rfl (Dp B9 _ _ _) .nil)) (P8 w cap R.1 R.2.1 R.2.2) ?_);rintro r bc tc ⟨rfl,rfl,rfl⟩;refine⟨rfl,_,EO rfl (Bf w R).1 cap,?_⟩;refine o_ (h:=c_ 20 rfl (JU rfl ?_));refine J1 (h:=t_ (q_ (?_)));refine BD (fun s=>s=⟨look [(0, .bp 0 0),(5, .bp 4 0),(9, .v (.int .i64 R.2.2)),(144, .v (.bool (decide (R.2.2=0)&&decide (0<(R.2.1.length:Int)))))],⟨[WA (Bf w R).1 cap,IB (Bf w R).1 cap,Ah f,Ah g,AB x],[]⟩⟩) ?_ ?_
 ·refine BU (h:=Dv (h:=?_));refine AF true rfl rfl (fun yy yr=>?_) (fun yy yr=>?_)
  ·have hch:(Bf w R).1.r.changes=R.2.1:=by rw[Mh yr]
   refine m_ (h:=Dw (h:=Fx (h:=J0 (h:=?_))));exact⟨_,rfl,CL 5 0 (by simp[Am,Af,Aa,C7 B9,BN,WA,IB,DA,Ah,AB])⟩
  refine CO (h:=DE (h:=FP (h:=?_)));exact⟨_,rfl,CL 5 0 (by simp[Am,Af,Aa,C7 B9,BN,WA,IB,DA,Ah,AB])⟩
 rintro s rfl;refine A3 rfl (fun ff fc=>?_) (fun ff fc=>?_)
 ·have h0:R.2.2=0:=of_decide_eq_true ((Bool.and_eq_true _ _).mp ff).1;have hfb:FlsB (K9 (Bf w R).1 0 3).s.spc.files:=by rw[Mh h0];exact(hok h0).1.b
  have hit:(Bf w R).1.r.items=w.r.items:=by rw[Mh h0]
  have hxa:(Bf w R).1.r.items[0]?=some x0:=by rw[hit];exact hx0
  have hil1:0<(Bf w R).1.r.items.length:=by rw[hit];exact hil
  have hxr:(K9 (Bf w R).1 0 3).r.items[1]?=some x1:=by
   show((Bf w R).1.r.items.modify 0 _)[1]?=_;rw[hit,List.getElem?_modify];simp[hx1]
  refine BD (fun s=>s=⟨look [(0, .bp 0 0),(5, .bp 4 0),(9, .v (.int .i64 R.2.2))],⟨[WA (K9 (Bf w R).1 0 3) cap,IB (K9 (Bf w R).1 0 3) cap,Ah f,Ah g,AB x],[]⟩⟩) ?_ ?_
  ·refine BU (h:=Dw (h:=?_));refine A7 (EF (m:=0) rfl rfl rfl hil1 ?_);refine f_ (h:=?_);refine Mz (Es rfl rfl rfl rfl rfl rfl (Mf B9 (x':={x0 with role:=3}) hxa (by repeat constructor) (List.cons_ne_nil _ _)) (by repeat constructor) ?_);refine FP (h:=?_);refine⟨_,rfl,?_⟩;rw[bM,bO hxa];exact Ds 5 0
  rintro s rfl;refine BU (h:=l_ (h:=?_));refine A7 (Bo [0,1] rfl (.cons _ _ _ _ _ rfl (A6 _) (.cons _ _ _ _ _ rfl (A6 _) (.cons _ _ _ _ _ rfl (A6 _) .nil))) (by decide) (.cons _ _ _ _ _ rfl rfl (.cons _ _ _ _ _ rfl (Dp B9 _ _ _) .nil)) (Vf (K9 (Bf w R).1 0 3) cap 1 x x1 hfb hxr) ?_);rintro r bc tc ⟨rfl,rfl,rfl⟩;refine⟨rfl,_,EO rfl (LG (K9 (Bf w R).1 0 3) 1 x) cap,?_⟩;refine e_ (EW (h:=?_));refine BV (r:= .v (.int .i64 (Gg w).2)) none (h5:=(by rw[oc,if_neg k1,if_neg k2,if_neg k3,if_neg k4,if_neg k5,if_neg k6,bK ff];exact A6 _)) (h6:=⟨rfl,rfl,?_⟩);rw[oc,if_neg k1,if_neg k2,if_neg k3,if_neg k4,if_neg k5,if_neg k6,bK ff];rfl
 refine AG (EW (h:=?_));refine BV (r:= .v (.int .i64 (Gg w).2)) none (h5:=(by rw[oc,if_neg k1,if_neg k2,if_neg k3,if_neg k4,if_neg k5,if_neg k6,bL ff];exact A6 _)) (h6:=⟨rfl,rfl,?_⟩);rw[oc,if_neg k1,if_neg k2,if_neg k3,if_neg k4,if_neg k5,if_neg k6,bL ff];rfl
end
theorem sW{s:Spc}{fl:Bool}{p:AD}{ps:List AD}{a:A8}{lk:Nat}{τ:Lk}(h:DR s fl p ps a lk= .inr τ):τ.name.size<=12:=by
 unfold DR at h;split at h
 ·cases h
 split at h
 ·cases h
 rename_i h2
 repeat' split at h
 all_goals first|(cases h;done)|(injection h with h;subst h;first|exact BG 12|exact Nat.le_of_not_lt h2)
theorem sX{s:Spc}{fl:Bool}:∀(k:Nat) (σ:Lk),σ.name.size<=12->(Lc s fl k σ).2.name.size<=12:=by
 intro k
 induction k with
 |zero=>intro σ h;exact h
 |succ k ih=>
   intro σ h;unfold Lc
   cases σ.ps with
   |nil=>exact h
   |cons p ps=>
     simp only
     cases hs:DR s fl p ps σ.file σ.links with
     |inl e=>exact BG 12
     |inr τ=>exact ih _ (sW hs)
theorem bQ(s:Spc)(st:A8)(p:AD)(fl:Bool):(CW s st p fl).1.name.size<=12:=by
 unfold CW;generalize (if EB p=true then GK s else st)=d
 repeat' split
 all_goals first|exact BG 12|exact sX _ _ (BG 12)
theorem sY{s:Spc}{cwd:A8}{fl:Bool}{X:List Itm×List Fnd×Int}{g:AD×Int}(h:∀f∈X.2.1,f.name.size<=12):(∀f∈(Kf s cwd fl X g).2.1,f.name.size<=12)/\(Kf s cwd fl X g).1.length=X.1.length+1/\(Kf s cwd fl X g).2.1.length=X.2.1.length+1:=by
 unfold Kf;split
 ·split
  ·refine⟨fun f hf=>?_,by simp,by simp⟩;rcases List.mem_append.1 hf with hf|hf
   ·exact h f hf
   rw[List.mem_singleton.1 hf];exact bQ _ _ _ _
  refine⟨fun f hf=>?_,by simp,by simp⟩;rcases List.mem_append.1 hf with hf|hf
  ·exact h f hf
  rw[List.mem_singleton.1 hf];exact bQ _ _ _ _
 refine⟨fun f hf=>?_,by simp,by simp⟩;rcases List.mem_append.1 hf with hf|hf
 ·exact h f hf
 rw[List.mem_singleton.1 hf];exact BG 12
theorem sZ(s:Spc)(cwd:A8)(fl:Bool)(e:Int):∀(l:List (AD×Int)),(∀f∈(M6 s cwd fl l e).2.1,f.name.size<=12)/\(M6 s cwd fl l e).1.length=l.length/\(M6 s cwd fl l e).2.1.length=l.length:=by
 have key:∀(l:List (AD×Int)) (X:List Itm×List Fnd×Int),(∀f∈X.2.1,f.name.size<=12)->(∀f∈(l.foldl (Kf s cwd fl) X).2.1,f.name.size<=12)/\(l.foldl (Kf s cwd fl) X).1.length=X.1.length+l.length/\(l.foldl (Kf s cwd fl) X).2.1.length=X.2.1.length+l.length:=by
  intro l
  induction l with
  |nil=>intro X h;exact⟨h,rfl,rfl⟩
  |cons g l ih=>
    intro X h;obtain⟨h1,h2,h3⟩:=sY (s:=s) (cwd:=cwd) (fl:=fl) (g:=g) h;obtain⟨k1,k2,k3⟩:=ih _ h1;rw[List.foldl_cons];refine⟨k1,?_,?_⟩
    ·rw[k2,h2,List.length_cons];omega
    rw[k3,h3,List.length_cons];omega
 intro l;have:=key l ([],[],e) (fun f hf=>by cases hf);refine⟨this.1,by rw[M6,this.2.1];simp,by rw[M6,this.2.2];simp⟩
theorem bR{c:Cal}(h:Bt c=0):(c.paths.length:Int)=(C6 c.num).2.2.1/\(C6 c.num).2.2.2.1<=(c.args.length:Int)/\(c.args.length:Int)<=(C6 c.num).2.2.2.2/\(∀p∈c.paths,p.size<=128)/\∀p∈c.args,p.size<=64:=by
 unfold Bt at h;split at h
 ·exact absurd h (by decide)
 split at h
 ·exact absurd h (by decide)
 split at h
 ·exact absurd h (by decide)
 rename_i h3;split at h
 ·exact absurd h (by decide)
 rename_i h4;split at h
 ·exact absurd h (by decide)
 rename_i h5;refine⟨by omega,by omega,by omega,fun p hp=>?_,fun p hp=>?_⟩
 ·refine Nat.le_of_not_lt fun hl=>h4 (List.any_eq_true.2 ⟨p,hp,decide_eq_true hl⟩)
 refine Nat.le_of_not_lt fun hl=>h5 (List.any_eq_true.2 ⟨p,hp,decide_eq_true hl⟩)
theorem t7{c0 c1 c2 c3 c4 c5:List AV}(w:Wrk)(rows:List (List AV))(n cap:Nat)(L:List Itm):Back [c0,c1,c2,c3,c4,c5] [5] [Dn w (.sl 8 rows none) (.bs 1 0 13 n cap),LB 13 Cn L cap] [c0,c1,c2,c3,c4,Dn w (.sl 8 rows none) (.bs 6 0 13 n cap),LB 13 Cn L cap]:=by
 have:=QX (bx:=[c0,c1,c2,c3,c4,c5]) (is:=[5]) (bc:=[Dn w (.sl 8 rows none) (.bs 1 0 13 n cap),LB 13 Cn L cap]) (by simp) (by simp) (by simp);have e2:ES (FM [5] [c0,c1,c2,c3,c4,c5].length) (LB 13 Cn L cap)=LB 13 Cn L cap:=Dp B9 _ _ _
 have hb:ED [c0,c1,c2,c3,c4,c5] (FM [5] [c0,c1,c2,c3,c4,c5].length) [5] [Dn w (.sl 8 rows none) (.bs 1 0 13 n cap),LB 13 Cn L cap]=[c0,c1,c2,c3,c4,Dn w (.sl 8 rows none) (.bs 6 0 13 n cap),LB 13 Cn L cap]:=by
  unfold ED;unfold ED;rw[List.map_cons,e2];rfl
 rw[hb]at this;exact this
theorem bS(s:Syst)(pid:Int)(c:Cal):(∀f∈(Kh s pid c).found,f.name.size<=12)/\(Kh s pid c).found.length=(c.paths.zip (DS c)).length/\(Kh s pid c).r.items.length=(c.paths.zip (DS c)).length:=by
 obtain⟨h1,h2,h3⟩:=sZ s.spc (AP s.tab pid).cwd (FJ c) (DU (AP s.tab pid) c) (c.paths.zip (DS c));exact⟨h1,h3,h2⟩
section
theorem bT(w:Wrk)(F I:AV)(h9:w.c.num=9->0<w.c.args.length)(hsz:∀p∈w.c.args,p.size<=1000):AFn prog 97 [.fp (Dn w F I)] (fun r=>r= .v (.int .i64 (DU w.p w.c))):=by
 have hol:(w.p.opens.map Hj).length=w.p.opens.length:=List.length_map _;refine enter Tryz.func97 rfl rfl rfl rfl rfl 0 rfl ?_;refine FB (h:=Dw (h:=CP (h:=Be (h:=Dw (h:=e_ (BF (w_ (Df (h:=a_ (h:=?_))))))))));refine e_ (?_);refine A3 rfl (fun kd ka=>?_) (fun kd ka=>?_)
 ·refine q_ (w_ (?_));refine A7 (CX (len:=4) (sz:=1) (n:=0) (by kernel_rfl) rfl rfl rfl rfl ?_);refine l_ (h:=EG (h:=?_));refine AF false rfl rfl (fun ke kc=>?_) (fun ke kc=>?_)
  ·refine Co (h:=CO (h:=Bg (h:=CO (h:=Fg (h:=ML (?_))))));refine Bp (?_);refine A4 ?_;exact vi (by simp[DU, *])
  refine Ak (CX (len:=4) (sz:=1) (n:=0) (by kernel_rfl) rfl rfl rfl rfl ?_);refine l_ (h:=ET (h:=BZ (h:=?_)));refine AF false rfl rfl (fun kh kf=>?_) (fun kh kf=>?_)
  ·refine CO (h:=Bg (h:=CO (h:=Fg (h:=DG (h:=?_)))));refine A4 ?_;exact vi (by simp[DU, *])
  refine Ak (CX (len:=4) (sz:=1) (n:=0) (by kernel_rfl) rfl rfl rfl rfl ?_);refine l_ (h:=Fd (h:=Df (h:=BZ (h:=?_))));refine AF false rfl rfl (fun kl kg=>?_) (fun kl kg=>?_)
  ·refine CO (h:=Fg (h:=DG (h:=?_)));refine A4 ?_;exact vi (by simp[DU, *])
  refine Ak (CX (len:=4) (sz:=1) (n:=1) (by kernel_rfl) rfl rfl rfl rfl ?_);refine l_ (h:=?_);refine Ak (AX (VU w.c.a1) ?_);rintro r rfl;refine D1 (h:=Cq (h:=?_));refine A3 rfl (fun ko kk=>?_) (fun ko kk=>?_)
  ·refine BC (h:=DG (h:=?_));refine A4 ?_;exact vi (by simp[DU, *])
  refine Ei (h:=Dw (h:=n_ (h:=Dt (h:=e_ (?_)))));refine A3 rfl (fun kq km=>?_) (fun kq km=>?_)
  ·have h8:8<=(w.p.opens.length:Int):=by rw[List.length_map]at km;exact km
   refine BR (h:=?_);refine A4 ?_;exact vi (by simp[DU, *])
  have h8:¬8<=(w.p.opens.length:Int):=by rw[List.length_map]at km;exact km
  refine Fi (h:=?_);refine A4 ?_;exact vi (by simp[DU, *])
 refine Az (h:=?_);refine A3 rfl (fun ks kp=>?_) (fun ks kp=>?_)
 ·obtain⟨a0,ha0⟩:∃a,w.c.args[0]?=some a:=⟨_,B7 (h9 kp)⟩;have pw:(w.c.args.map DV)[0]?=some (DV a0):=by rw[List.getElem?_map,ha0];rfl
  have hag:LE w.c=a0:=by unfold LE;rw[List.headD_eq_head?_getD,List.head?_eq_getElem?,ha0];rfl
  have hsa:=hsz a0 (Aj ha0);refine Be (h:=Dw (h:=?_));refine A7 (DM (n:=0) rfl rfl rfl pw ?_);refine l_ (h:=BO (h:=?_));refine A3 rfl (fun kt kr=>?_) (fun kt kr=>?_)
  ·refine BC (h:=DG (h:=?_));refine A4 ?_;exact vi (by simp[DU, *])
  refine AG (OV (h:=?_));refine BL (fun m s=>∃j:Nat,j<=a0.size/\m=a0.size - j/\(∀(i:Nat) (h:i<a0.data.toList.length),i<j->a0.data.toList[i]≠0)/\s=⟨look [(0, .fp (Dn w F I)),(4, .v (.int .i64 (j:Int)))],⟨[],[]⟩⟩) (a0.size) ((wk 0 0)) (⟨0,BG _,rfl,fun i h1 h2=>by omega,rfl⟩) ?_;rintro m s ⟨j,hj,rfl,hz,rfl⟩;refine EH (h:=Dw (h:=?_));refine A7 (DM (n:=0) rfl rfl rfl pw ?_);refine l_ (h:=JD (h:=?_));refine A3 rfl (fun kv ku=>?_) (fun kv ku=>?_)
  ·have hlt:j<a0.size:=by omega
   refine Bq (h:=Ab (h:=Dw (h:=?_)));refine A7 (DM (n:=0) rfl rfl rfl pw ?_);refine GD (h:=?_);refine A7 (MU (n:=j) Tryz.underlying9 rfl rfl rfl hlt ?_);refine BO (h:=?_);refine A3 rfl (fun yf yb=>?_) (fun yf yb=>?_)
   ·have hany:(a0.data.toList.any fun b=>decide (b=0))=true:=by
     rw[List.any_eq_true];refine⟨a0.data.toList[j]'(by simpa using hlt),List.getElem_mem _,?_⟩;have h00:a0[j].toNat=0:=by have:=yb;omega
     simp;exact UInt8.toNat_inj.1 h00
    refine BR (h:=Bp (ML (DG (h:=?_))));refine A4 ?_;exact vi (by simp[DU, *])
   have hne:a0.data.toList[j]'(by simpa using hlt)≠0:=by
    intro e;have h00:¬a0[j].toNat=0:=by have:=yb;omega
    simp at e;exact h00 (congrArg UInt8.toNat e)
   refine Dg (h:=?_)
   refine⟨_,_,?_,⟨j+1,by omega,rfl,(fun i h1 h2=>by
    by_cases e:i=j
    ·subst e;exact hne
    exact hz i h1 (by omega)),rfl⟩,(wk 0 0)⟩
   omega
  have hany:(a0.data.toList.any fun b=>decide (b=0))=false:=by
   rw[List.any_eq_false];intro b hb;obtain⟨i,hi,rfl⟩:=List.mem_iff_getElem.1 hb;have:=hz i hi (by have hl:=Lib.size_eq a0;omega)
   simpa using this
  refine LS (h:=Bz (Pg (h:=?_)));refine A4 ?_;exact vi (by simp[DU, *])
 refine q_ (Az (h:=?_));refine A3 rfl (fun yq yc=>?_) (fun yq yc=>?_)
 ·refine AG (GQ (h:=w_ (?_)));refine A7 (CX (len:=4) (sz:=1) (n:=0) (by kernel_rfl) rfl rfl rfl rfl ?_);refine l_ (h:=?_);refine AK (VU w.c.a0) ?_;refine CY (h:=?_);refine A3 rfl (fun yu yg=>?_) (fun yu yg=>?_)
  ·refine BR (h:=?_);refine A4 ?_;exact vi (by simp[DU, *])
  refine Fi (h:=?_);refine A4 ?_;exact vi (by simp[DU, *])
 refine Aq (Et (h:=?_));refine A3 rfl (fun yy yr=>?_) (fun yy yr=>?_)
 ·refine w_ (?_);refine A7 (CX (len:=4) (sz:=1) (n:=0) (by kernel_rfl) rfl rfl rfl rfl ?_);refine l_ (h:=?_);refine AK (VU w.c.a0) ?_;refine CY (h:=?_);refine A3 rfl (fun ff fc=>?_) (fun ff fc=>?_)
  ·refine BR (h:=?_);refine A4 ?_;exact vi (by simp[DU, *])
  refine Fi (h:=?_);refine A4 ?_;exact vi (by simp[DU, *])
 refine Az (h:=?_);refine A3 rfl (fun fe fx=>?_) (fun fe fx=>?_)
 ·refine w_ (?_);refine A7 (CX (len:=4) (sz:=1) (n:=0) (by kernel_rfl) rfl rfl rfl rfl ?_);refine l_ (h:=EG (h:=?_));refine AF false rfl rfl (fun fq od=>?_) (fun fq od=>?_)
  ·refine Co (h:=Co (h:=EV (h:=BR (h:=?_))));refine A4 ?_;exact vi (by simp[DU, *])
  refine Ak (CX (len:=4) (sz:=1) (n:=0) (by kernel_rfl) rfl rfl rfl rfl ?_);refine l_ (h:=ET (h:=BZ (h:=?_)));refine AF false rfl rfl (fun fy oe=>?_) (fun fy oe=>?_)
  ·refine Co (h:=EV (h:=BR (h:=?_)));refine A4 ?_;exact vi (by simp[DU, *])
  refine Ak (CX (len:=4) (sz:=1) (n:=1) (by kernel_rfl) rfl rfl rfl rfl ?_);refine l_ (h:=Jc (h:=BZ (h:=?_)));refine AF false rfl rfl (fun ma fr=>?_) (fun ma fr=>?_)
  ·refine EV (h:=BR (h:=?_));refine A4 ?_;exact vi (by simp[DU, *])
  refine Ak (CX (len:=4) (sz:=1) (n:=1) (by kernel_rfl) rfl rfl rfl rfl ?_);refine l_ (h:=ET (h:=Cq (h:=?_)));refine A3 rfl (fun mu mv=>?_) (fun mu mv=>?_)
  ·refine BR (h:=?_);refine A4 ?_;exact vi (by simp[DU, *])
  refine Fi (h:=?_);refine A4 ?_;exact vi (by simp[DU, *])
 refine Az (h:=?_);refine A3 rfl (fun ob mf=>?_) (fun ob mf=>?_)
 ·refine Ab (h:=Dw (h:=D3 (h:=?_)));refine A3 rfl (fun og mw=>?_) (fun og mw=>?_)
  ·refine BR (h:=?_);refine A4 ?_;exact vi (by simp[DU, *])
  refine Fi (h:=?_);refine A4 ?_;exact vi (by simp[DU, *])
 refine Az (h:=?_);refine A3 rfl (fun mg my=>?_) (fun mg my=>?_)
 ·refine w_ (?_);refine A7 (CX (len:=4) (sz:=1) (n:=0) (by kernel_rfl) rfl rfl rfl rfl ?_);refine l_ (h:=Ff (h:=?_));refine A3 rfl (fun po oh=>?_) (fun po oh=>?_)
  ·refine BR (h:=?_);refine A4 ?_;exact vi (by simp[DU, *])
  refine Fi (h:=?_);refine A4 ?_;exact vi (by simp[DU, *])
 refine Fi (h:=?_);refine A4 ?_;exact vi (by simp[DU, *])
end
def LL(n:Int):Int:=IntKind.i64.wrap (0 - n)
def DL(s:Syst)(pid:Int)(c:Cal):Syst×Res:=
 if Ca s.tab pid=false then(s,{Hf with exit:= -4})else if Bt c≠0 then(s,{Hf with exit:= -22})
 else if(Hi s (AP s.tab pid) c).2.2≠0 then(s,{Hf with exit:=LL (Hi s (AP s.tab pid) c).2.2,items:=(Hi s (AP s.tab pid) c).1})
 else if(Bb (Kh s pid c)).2≠0 then(s,{Hf with exit:=LL (Bb (Kh s pid c)).2,items:=(Hi s (AP s.tab pid) c).1})
 else((Bb (Kh s pid c)).1.s,(Bb (Kh s pid c)).1.r)
def OB(R:Syst×Res):AV:= .tup [.agg (Cb R.1), .agg (Kj R.2)]
theorem t8{α:Type}{sz:Nat}{F:α->List AV}(hF:RowF sz F)(l:List α)(cap0 cap:Nat):((LB sz F l cap0).drop 0).take (l.length * sz)++List.replicate ((cap - l.length) * sz) .any=LB sz F l cap:=by
 unfold LB;have h:=Xo (cap:=cap0) (O8 hF l);rw[List.length_map]at h;rw[h];unfold Cm;rw[List.length_map]
def Lj:List AV:=[.v (.slice none 0 0), .v (.slice none 0 0), .v (.int .i64 0), .v (.int .i64 0), .v (.slice none 0 0)]
def Mi:List AV:=[.v (.int .i64 0), .v (.int .i64 0), .v (.int .i64 0), .v (.slice none 0 0), .v (.slice none 0 0)]
def OC(r:Res)(I:AV):List AV:=[.v (.int .i64 r.exit), .v (.int .i64 r.child), .v (.int .i64 r.gone),I, .sl 7 (r.changes.map FE) none]
def EP(s:Syst)(pid:Int)(c:Cal):Wrk:=⟨s,AP s.tab pid,c,[],Hf⟩
theorem bU(s:Syst)(pid:Int)(c:Cal):LeA (.agg (Cb s++(Ar (AP s.tab pid)++(GN c++[.v (.slice none 0 0), .v (.int .i64 0), .v (.int .i64 0), .v (.int .i64 0), .v (.slice none 0 0), .v (.slice none 0 0)])))) (.agg (Dn (EP s pid c) (.v (.slice none 0 0)) (.v (.slice none 0 0)))):=by
 refine LeA.agg ?_
 repeat (first|exact LeL.nil|refine LeL.cons (A6 _) ?_|refine LeL.cons (LeA.nil _) ?_)
theorem P9(w:Wrk)(R:Fj):(Bf w R).1.r.items.length=w.r.items.length:=by
 unfold Bf;split<;>rfl
theorem SZ(w:Wrk)(R:Tab×Int):(CV w R).1.r.items.length=w.r.items.length:=by
 unfold CV;split<;>rfl
theorem Vh(w:Wrk)(i:Nat)(a:A8):(LG w i a).r.items.length=w.r.items.length:=List.length_modify ..
theorem bV(w:Wrk)(i:Nat)(r:Int):(K9 w i r).r.items.length=w.r.items.length:=List.length_modify ..
theorem Vi(w:Wrk)(i:Nat)(n:Nod):(DK w i n).1.r.items.length=w.r.items.length:=by
 unfold DK;split
 ·rw[Vh,P9]
 rfl
theorem bW(w:Wrk)(a:A8):(Lg w a).1.r.items.length=w.r.items.length:=by
 unfold Lg;rw[SZ];rfl
theorem t9(w:Wrk):(D8 w).1.r.items.length=w.r.items.length:=by
 unfold D8
 repeat' split
 all_goals first|rfl|exact Vi _ _ _|exact bW _ _|exact(bW _ _).trans (Vi _ _ _)
theorem tA(w:Wrk)(R:Fj)(x:A8):(M7 w R x).1.r.items.length=w.r.items.length:=by
 unfold M7
 repeat' split
 all_goals first|rfl|exact P9 _ _|exact(Vh _ _ _).trans ((bV _ _ _).trans (P9 _ _))
theorem tB(w:Wrk):(Gg w).1.r.items.length=w.r.items.length:=by
 unfold Gg
 repeat' split
 all_goals first|rfl|exact tA _ _ _
section
variable {P:Program}{ev:Operand->Option AV}{h:AH}{R:AV->AH->Prop}{d:Option Tmp}{ty:TypeId}{pos:String}{af:Array Edge}{gd:Option (Nat×Bool)}
theorem bY{T:TypeId}{x:Operand}{a:Int}(hx:ev x=some (.v (.int .i64 a)))(hR:R (.v (.int .i64 (LL a))) h):AStep P ⟨d, .unOp .neg T x,ty,pos,af,gd⟩ ev h R:=
 De (fun _ G w ec _ he=>⟨.int .i64 (LL a),by
  have h1:=he x (by simp[Op.operands]) _ hx;simp only[rep]at h1
  simp[execOp,h1,Op.unary,Op.intArith,LL],by simp only[rep]⟩) hR
end
structure Wch where
 kind:Int
 dir:A8
 name:AD
 file:A8
deriving DecidableEq
def G6:Wch:=⟨0,(0,0),⟨#[]⟩,(0,0)⟩
def Dj(w:Wch):List AV:=[.v (.int .i64 w.kind), .v (.int .i64 w.dir.1), .v (.int .i64 w.dir.2), .v (.string w.name), .v (.int .i64 w.file.1), .v (.int .i64 w.file.2)]
def NO(s:Spc)(k:Int)(p:AD):Wch×Int:=
 if(k≠1/\k≠2)\/FS p.data.toList=false then(G6,22)
 else if(CW s (0,0) p (decide (k=2))).2≠0 then(G6,(CW s (0,0) p (decide (k=2))).2)
 else if k=2 then
  (if(CW s (0,0) p true).1.ex=false then(G6,2)else if AU s.files (CW s (0,0) p true).1.file=false then(G6,20)
  else(⟨k,(0,0),⟨#[]⟩,(CW s (0,0) p true).1.file⟩,0))
 else if(CW s (0,0) p false).1.name=⟨#[]⟩then(G6,22)
 else(⟨k,(CW s (0,0) p false).1.dir,(CW s (0,0) p false).1.name,(AJ s.files (CW s (0,0) p false).1.dir (CW s (0,0) p false).1.name).1⟩,0)
def Qc(s:Spc)(a b:A8):Bool:=decide (a∈BS s (Bh s.files) b)
def FL(s:Spc)(w:Wch)(dir:A8)(name:AD)(file:A8):Bool:=
 if w.kind=1 then(decide (w.file≠(0,0))&&decide (file=w.file))||(decide (name≠⟨#[]⟩)&&decide (dir=w.dir)&&decide (name=w.name))
 else if w.kind=2 then Qc s w.file dir||Qc s w.file file else false
theorem bZ(a b:A8)(w:World):(binOp .eql 26 (.agg #[.int .i64 a.1, .int .i64 a.2]) (.agg #[.int .i64 b.1, .int .i64 b.2])).run prog w= .ok (.bool (decide (a=b))) w:=OZ a.1 a.2 b.1 b.2 w
theorem tC(a b:A8)(w:World):(binOp .neq 26 (.agg #[.int .i64 a.1, .int .i64 a.2]) (.agg #[.int .i64 b.1, .int .i64 b.2])).run prog w= .ok (.bool (!decide (a=b))) w:=Tt a.1 a.2 b.1 b.2 w
def PA(R:Wch×Int):AV:= .tup [.agg (Dj R.1), .v (.int .i64 R.2)]
theorem cA(s:Spc)(k:Int)(p:AD)(F:Fnd×Int)(hF:CW s (0,0) p (decide (k=2))=F):NO s k p=if(k≠1/\k≠2)\/FS p.data.toList=false then(G6,22)else if F.2≠0 then(G6,F.2)
    else if k=2 then(if F.1.ex=false then(G6,2)else if AU s.files F.1.file=false then(G6,20)else(⟨k,(0,0),⟨#[]⟩,F.1.file⟩,0))
    else if F.1.name=⟨#[]⟩then(G6,22)else(⟨k,F.1.dir,F.1.name,(AJ s.files F.1.dir F.1.name).1⟩,0):=by
 unfold NO;rw[hF];by_cases h:k=2
 ·rw[decide_eq_true h]at hF;simp only[if_pos h,hF]
 rw[decide_eq_false h]at hF;simp only[if_neg h,hF]
theorem tD{f:AR}{dir:A8}{name:AD}(h:(AJ f dir name).2≠0):(AJ f dir name).1=(0,0):=by
 unfold AJ at h ⊢;split
 ·rfl
 rename_i n e;rw[e]at h;simp only at h;split at h
 ·rename_i c;rw[if_pos c];split
  ·rfl
  rename_i e2;rw[e2]at h;exact absurd rfl h
 rename_i c;rw[if_neg c]
section
theorem Sa(s:AD)(hs:s.size<=60000):AFn prog 183 [.v (.string s)] (fun r=>r= .v (.bool (FS s.data.toList))):=Ra (us:=[.string s]) fun w=>rE s w (by omega)
theorem cB(s:Spc)(a:A8)(hs:SpcB s):AFn prog 119 [.agg (AQ s), .agg (AB a)] (fun r=>r= .v (.bool (AU s.files a))):=by
 refine enter Tryz.func119 rfl rfl rfl rfl rfl 0 rfl ?_;refine Hw (h:=B2 (h:=l_ (h:=?_)));refine AK (Lz s.files a hs.files) ?_;refine EU (h:=Cl (h:=m_ (h:=?_)));refine AF true rfl rfl (fun kd ka=>?_) (fun kd ka=>?_)
 ·refine D2 (h:=Eg (h:=?_));refine A4 ?_;exact vb (by simp[L5, *])
 refine Hy (h:=?_);refine A4 ?_;exact vb (by simp[L5, *])
theorem tE(s:Spc)(a:A8)(name:AD)(hs:SpcB s):AFn prog 133 [.agg (AQ s), .agg (AB a), .v (.string name)] (fun r=>r= .agg (AB (AJ s.files a name).1)):=by
 refine enter Tryz.func133 rfl rfl rfl rfl rfl 0 rfl ?_;refine Ef (h:=e_ (B2 (h:=GD (h:=?_))));refine AK (Va s.files a name hs.files) ?_;refine Js (h:=?_);refine A3 rfl (fun kd ka=>?_) (fun kd ka=>?_)
 ·refine Gq (h:=e_ (BH (Bp (?_))));refine A4 ?_;rw[tD (by simpa using ka)];rfl
 refine AG (EX (h:=?_));refine A4 ?_;rfl
theorem tG(s:Spc)(k:Int)(p:AD)(hv:SpcV s)(hm:s.mounts.length<=1000)(hp:p.size<=50000):AFn prog 130 [.agg (AQ s), .v (.int .i64 k), .v (.string p)] (fun r=>r=PA (NO s k p)):=by
 have hsb:=hv.b hm;obtain⟨F,hF⟩:∃F,CW s (0,0) p (decide (k=2))=F:=⟨_,rfl⟩;have hw:=cA s k p F hF;have px:AFn prog 141 [.agg (AQ s), .agg (AB (0,0)), .v (.string p), .v (.bool (decide (k=2)))] (fun r=>r= .tup [.agg (Ah F.1), .v (.int .i64 F.2)]):=by rw[<-hF];exact aZ s (0,0) p _ (hv.n hm) hv (by omega)
 refine enter Tryz.func130 rfl rfl rfl rfl rfl 0 rfl ?_;refine E5 (h:=Ay (h:=q_ (?_)));refine BD (fun S=>S=⟨look [(1, .v (.int .i64 k)),(2, .v (.string p)),(3, .bp 0 0),(6, .bp 1 0),(22, .v (.bool ((!decide (k=1)&& !decide (k=2))|| !FS p.data.toList)))],⟨[AQ s,[.v (.int .i64 0), .v (.int .i64 0), .v (.int .i64 0), .v (.string ⟨#[]⟩), .v (.int .i64 0), .v (.int .i64 0)]],[]⟩⟩) ?_ ?_
 ·refine BU (h:=Fw (h:=?_));refine AF true rfl rfl (fun kd ka=>?_) (fun kd ka=>?_)
  ·refine m_ (h:=Hp (h:=Bg (h:=?_)));refine AF false rfl rfl (fun ke kc=>?_) (fun ke kc=>?_)
   ·refine JG (h:=?_);exact⟨_,rfl,CL 2 0 rfl⟩
   refine m_ (h:=?_);refine Ak (AX (SJ p hp) ?_);rintro r rfl;refine D1 (h:=F9 (h:=?_));exact⟨_,rfl,CL 2 0 rfl⟩
  refine BB (h:=BZ (h:=m_ (h:=?_)));refine Ak (AX (SJ p hp) ?_);rintro r rfl;refine D1 (h:=F9 (h:=?_));exact⟨_,rfl,CL 2 0 rfl⟩
 rintro S rfl;refine A3 rfl (fun kh kf=>?_) (fun kh kf=>?_)
 ·have k1:(k≠1/\k≠2)\/FS p.data.toList=false:=by simpa using kf
  refine Bj (h:=?_);refine A4 ?_;rw[hw,if_pos k1];rfl
 have k1:¬((k≠1/\k≠2)\/FS p.data.toList=false):=by simpa using kf
 refine AG (Bw (h:=Bd (h:=Cp (h:=Df (h:=?_)))));refine AK (px) ?_;refine Js (h:=?_);refine A3 rfl (fun kl kg=>?_) (fun kl kg=>?_)
 ·have k2:F.2≠0:=by simpa using kg
  refine w_ (Jt (h:=?_));refine A4 ?_;rw[hw,if_neg k1,if_pos k2];rfl
 have k2:¬F.2≠0:=by simpa using kg
 refine D5 (h:=BO (h:=?_));refine A3 rfl (fun ko kk=>?_) (fun ko kk=>?_)
 ·have k3:k=2:=kk;refine Fu (h:=CY (h:=?_));refine A3 rfl (fun kq km=>?_) (fun kq km=>?_)
  ·have k4:F.1.ex=false:=by simpa using km
   refine Bj (h:=Bp (?_));refine A4 ?_;rw[hw,if_neg k1,if_neg k2,if_pos k3,if_pos k4];rfl
  have k4:¬F.1.ex=false:=by simpa using km
  refine DF (h:=Ac (h:=?_));refine AK (LT s.files F.1.file hsb.files) ?_;refine CY (h:=?_);refine A3 rfl (fun ks kp=>?_) (fun ks kp=>?_)
  ·have k5:AU s.files F.1.file=false:=by simpa using kp
   refine Bj (h:=Bp (?_));refine A4 ?_;rw[hw,if_neg k1,if_neg k2,if_pos k3,if_neg k4,if_pos k5];rfl
  have k5:¬AU s.files F.1.file=false:=by simpa using kp
  refine Ei (h:=Ac (h:=GR (h:=FN (h:=?_))));refine A4 ?_;rw[hw,if_neg k1,if_neg k2,if_pos k3,if_neg k4,if_neg k5];rfl
 have k3:¬k=2:=kk;refine DF (h:=BO (h:=?_));refine A3 rfl (fun kt kr=>?_) (fun kt kr=>?_)
 ·have k6:F.1.name=⟨#[]⟩:=kr;refine Bj (h:=?_);refine A4 ?_;rw[hw,if_neg k1,if_neg k2,if_neg k3,if_pos k6];rfl
 have k6:¬F.1.name=⟨#[]⟩:=kr;refine AG (H8 (h:=Ac (h:=?_)));refine AK (LV s.files F.1.dir F.1.name hsb.files) ?_;refine EU (h:=Cl (h:=Je (h:=l_ (h:=GR (h:=BW (h:=?_))))));refine A4 ?_;rw[hw,if_neg k1,if_neg k2,if_neg k3,if_neg k6];rfl
theorem tH(s:Spc)(k:Int)(p:AD)(hv:SpcV s)(hm:s.mounts.length<=1000)(hp:p.size<=50000):AFn prog 128 [.agg (AQ s), .v (.int .i64 k), .v (.string p)] (fun r=>r=PA (NO s k p)):=by
 have hsb:=hv.b hm;obtain⟨F,hF⟩:∃F,CW s (0,0) p (decide (k=2))=F:=⟨_,rfl⟩;have hw:=cA s k p F hF;have px:AFn prog 184 [.agg (AQ s), .agg (AB (0,0)), .v (.string p), .v (.bool (decide (k=2)))] (fun r=>r= .tup [.agg (Ah F.1), .v (.int .i64 F.2)]):=by rw[<-hF];exact sF s (0,0) p _ (hv.n hm) hv (by omega)
 refine enter Tryz.func128 rfl rfl rfl rfl rfl 0 rfl ?_;refine E5 (h:=Ay (h:=q_ (?_)));refine BD (fun S=>S=⟨look [(1, .v (.int .i64 k)),(2, .v (.string p)),(3, .bp 0 0),(6, .bp 1 0),(20, .v (.bool ((!decide (k=1)&& !decide (k=2))|| !FS p.data.toList)))],⟨[AQ s,[.v (.int .i64 0), .v (.int .i64 0), .v (.int .i64 0), .v (.string ⟨#[]⟩), .v (.int .i64 0), .v (.int .i64 0)]],[]⟩⟩) ?_ ?_
 ·refine BU (h:=Fw (h:=?_));refine AF true rfl rfl (fun kd ka=>?_) (fun kd ka=>?_)
  ·refine m_ (h:=Hp (h:=Bg (h:=?_)));refine AF false rfl rfl (fun ke kc=>?_) (fun ke kc=>?_)
   ·refine JG (h:=?_);exact⟨_,rfl,CL 2 0 rfl⟩
   refine m_ (h:=?_);refine Ak (AX (Sa p (by omega)) ?_);rintro r rfl;refine D1 (h:=F9 (h:=?_));exact⟨_,rfl,CL 2 0 rfl⟩
  refine BB (h:=BZ (h:=m_ (h:=?_)));refine Ak (AX (Sa p (by omega)) ?_);rintro r rfl;refine D1 (h:=F9 (h:=?_));exact⟨_,rfl,CL 2 0 rfl⟩
 rintro S rfl;refine A3 rfl (fun kh kf=>?_) (fun kh kf=>?_)
 ·have k1:(k≠1/\k≠2)\/FS p.data.toList=false:=by simpa using kf
  refine Bj (h:=?_);refine A4 ?_;rw[hw,if_pos k1];rfl
 have k1:¬((k≠1/\k≠2)\/FS p.data.toList=false):=by simpa using kf
 refine AG (Bw (h:=Bd (h:=Cp (h:=Df (h:=?_)))));refine AK (px) ?_;refine Js (h:=?_);refine A3 rfl (fun kl kg=>?_) (fun kl kg=>?_)
 ·have k2:F.2≠0:=by simpa using kg
  refine w_ (Jt (h:=?_));refine A4 ?_;rw[hw,if_neg k1,if_pos k2];rfl
 have k2:¬F.2≠0:=by simpa using kg
 refine D5 (h:=BO (h:=?_));refine A3 rfl (fun ko kk=>?_) (fun ko kk=>?_)
 ·have k3:¬k=2:=by omega
  refine Fu (h:=BO (h:=?_));refine A3 rfl (fun kq km=>?_) (fun kq km=>?_)
  ·have k6:F.1.name=⟨#[]⟩:=km;refine Bj (h:=Bp (?_));refine A4 ?_;rw[hw,if_neg k1,if_neg k2,if_neg k3,if_pos k6];rfl
  have k6:¬F.1.name=⟨#[]⟩:=km;refine AG (q_ (BJ ([(0,AQ s),(2,Ah F.1)]) 14 (h:=AE 0 (h:=AA 1 (h:=?_)))));refine A9 2 (h:=?_);refine AA 3 (h:=?_);refine A9 4 (h:=?_);refine A9 5 (h:=?_);refine AA 6 (h:=?_);refine A9 7 (h:=?_);refine AA 8 (h:=?_);refine A9 9 (h:=?_);refine c_ 10 rfl (AX (tE s F.1.dir F.1.name hsb) ?_);rintro r rfl;refine o_ (h:=Kz 11 (h:=?_));refine Ax 12 (h:=B8 13 (h:=z_ (h:=t_ (BH (Bp (?_))))));refine A4 ?_;rw[hw,if_neg k1,if_neg k2,if_neg k3,if_neg k6];rfl
 have k3:k=2:=by simp at k1;omega
 refine DF (h:=CY (h:=?_));refine A3 rfl (fun ks kp=>?_) (fun ks kp=>?_)
 ·have k4:F.1.ex=false:=by simpa using kp
  refine Bj (h:=?_);refine A4 ?_;rw[hw,if_neg k1,if_neg k2,if_pos k3,if_pos k4];rfl
 have k4:¬F.1.ex=false:=by simpa using kp
 refine FA (h:=Bw (h:=Ac (h:=?_)));refine AK (cB s F.1.file hsb) ?_;refine CY (h:=?_);refine A3 rfl (fun kt kr=>?_) (fun kt kr=>?_)
 ·have k5:AU s.files F.1.file=false:=by simpa using kr
  refine Bj (h:=?_);refine A4 ?_;rw[hw,if_neg k1,if_neg k2,if_pos k3,if_neg k4,if_pos k5];rfl
 have k5:¬AU s.files F.1.file=false:=by simpa using kr
 refine Ei (h:=Ac (h:=GR (h:=BW (h:=?_))));refine A4 ?_;rw[hw,if_neg k1,if_neg k2,if_pos k3,if_neg k4,if_neg k5];rfl
end
theorem tJ(x:BitVec 64):(x &&& ~~~ 4294967295#64)=0#64↔x.toNat<4294967296:=by
 have hc:(x &&& 4294967295#64).toNat=x.toNat % 4294967296:=by
  rw[BitVec.toNat_and];exact Nat.and_two_pow_sub_one_eq_mod x.toNat 32
 have hs:x=(x &&& 4294967295#64) ||| (x &&& ~~~ 4294967295#64):=by
  apply BitVec.eq_of_getLsbD_eq;intro i hi;simp only[BitVec.getLsbD_or,BitVec.getLsbD_and,BitVec.getLsbD_not,hi];cases x.getLsbD i<;>cases (4294967295#64).getLsbD i<;>simp
 constructor
 ·intro h;rw[h,BitVec.or_zero]at hs;have:=congrArg BitVec.toNat hs;omega
 intro h
 have e:x &&& 4294967295#64=x:=by
  apply BitVec.eq_of_toNat_eq;rw[hc];omega
 rw[<-e,BitVec.and_assoc];have:(4294967295#64 &&& ~~~ 4294967295#64)=0#64:=by decide
 rw[this,BitVec.and_zero]
theorem tK{m:Int}(h1:0<=m)(h2:m<18446744073709551616):RZ .u64 m 4294967295=0↔m<4294967296:=by
 have e:RZ .u64 m 4294967295=(((BitVec.ofInt 64 m &&& ~~~ 4294967295#64).toNat:Nat):Int):=by
  show IntKind.u64.wrap ((BitVec.ofInt 64 m &&& ~~~ 4294967295#64).toNat:Nat)=_;have h:=(BitVec.ofInt 64 m &&& ~~~ 4294967295#64).isLt;generalize (BitVec.ofInt 64 m &&& ~~~ 4294967295#64).toNat=n at h;simp only[IntKind.wrap,IntKind.signed,IntKind.bits];simp;omega
 rw[e]
 have hn:(BitVec.ofInt 64 m).toNat=m.toNat:=by
  rw[BitVec.toNat_ofInt];omega
 have h:=tJ (BitVec.ofInt 64 m);rw[hn]at h;constructor
 ·intro k;have:(BitVec.ofInt 64 m &&& ~~~ 4294967295#64)=0#64:=BitVec.eq_of_toNat_eq (by simpa using Int.ofNat_inj.1 k);have:=h.1 this;omega
 intro k;rw[h.2 (by omega)];rfl
theorem tL{m:Int}(h1:0<=m):Nc .u64 m 32=0↔m<4294967296:=by
 show m.fdiv (2 ^ min (32:Int).toNat 64)=0↔_;rw[show((2:Int) ^ min (32:Int).toNat 64)=4294967296 by decide,Int.fdiv_eq_ediv_of_nonneg _ (by omega)];omega
def Dz(r:Rul):Prop:=0<=r.calls/\r.calls<18446744073709551616/\r.path.size<=50000/\r.tests.length<=1000
def Ct(r:Rul):Bool:=
 if r.watch=0 then decide (r.path=⟨#[]⟩/\r.perm=0)
 else decide ((r.watch=1\/r.watch=2)/\r.list=3/\FS r.path.data.toList=true/\(r.path.size:Int)<=128/\1<=r.perm/\r.perm<=15)
def LM(list:Int):List Tst->Int
 |[]=>0
 |t::ts=>if Ba t list=0 then LM list ts else Ba t list
theorem Sb{list:Int}{l:List Tst}{j:Nat}{t:Tst}(ht:l[j]?=some t):LM list (l.drop j)=if Ba t list=0 then LM list (l.drop (j+1))else Ba t list:=by
 obtain⟨hk,e⟩:=AZ.1 ht;rw[List.drop_eq_getElem_cons hk,LM,e]
theorem cC{list:Int}{l:List Tst}:LM list (l.drop l.length)=0:=by simp[LM]
def Gj(r:Rul):Bool:=if r.list=2\/r.list=3 then decide (r.calls=0\/¬r.calls<4294967296)else decide (r.calls≠0)
def BK(r:Rul):Int:=
 if r.list<1\/5<r.list then 130 else if r.action≠1/\r.action≠2 then 131 else if Gj r=true then 132 else if 8<(r.tests.length:Int)then 133
 else if LM r.list r.tests≠0 then LM r.list r.tests else if Ct r=false then 134 else if 31<(r.key.size:Int)then 135 else 0
section
theorem tM(f:Int):AFn prog 166 [.v (.int .i64 f)] (fun r=>r= .v (.bool (decide (f=2\/f=3)))):=by
 refine enter Tryz.func166 rfl rfl rfl rfl rfl 0 rfl ?_;refine FB (h:=Dv (h:=?_));refine AF false rfl rfl (fun kd ka=>?_) (fun kd ka=>?_)
 ·refine BB (h:=Eg (h:=?_));refine A4 ?_;exact vb (by simp[*])
 refine EJ (h:=H9 (h:=?_));refine A4 ?_;exact vb (by simp[*])
theorem tN(m:Int)(h1:0<=m)(h2:m<18446744073709551616):AFn prog 167 [.v (.int .u64 m)] (fun r=>r= .v (.bool (decide (m<4294967296)))):=by
 refine enter Tryz.func167 rfl rfl rfl rfl rfl 0 rfl ?_;refine FB (h:=at_ (h:=Df (h:=BW (h:=?_))));refine A4 ?_;exact vb (by exact decide_eq_decide.2 (tK h1 h2))
theorem tO(m:Int)(h1:0<=m):AFn prog 154 [.v (.int .u64 m)] (fun r=>r= .v (.bool (decide (m<4294967296)))):=by
 refine enter Tryz.func154 rfl rfl rfl rfl rfl 0 rfl ?_;refine FB (h:=Rl (h:=Df (h:=BW (h:=?_))));refine A4 ?_;exact vb (by exact decide_eq_decide.2 (tL h1))
theorem tP(r:Rul)(hp:r.path.size<=50000):AFn prog 168 [.agg (AW r)] (fun x=>x= .v (.bool (Ct r))):=by
 refine enter Tryz.func168 rfl rfl rfl rfl rfl 0 rfl ?_;refine Ee (h:=GT (h:=e_ (BF (Az (h:=?_)))));refine A3 rfl (fun kd ka=>?_) (fun kd ka=>?_)
 ·refine B2 (h:=Dv (h:=?_));refine AF true rfl rfl (fun ke kc=>?_) (fun ke kc=>?_)
  ·refine D2 (h:=Bm (h:=BE (h:=?_)));refine A4 ?_;exact vb (by unfold Ct;simp[*])
  refine DE (h:=BE (h:=?_));refine A4 ?_;exact vb (by unfold Ct;simp[*])
 refine q_ (Az (h:=?_));refine A3 rfl (fun kh kf=>?_) (fun kh kf=>?_)
 ·refine AG (GQ (h:=B2 (h:=Dv (h:=?_))));refine AF true rfl rfl (fun kl kg=>?_) (fun kl kg=>?_)
  ·refine Ac (h:=?_);refine Ak (AX (Sa r.path (by omega)) ?_);rintro r rfl;refine Bg (h:=?_);refine AF true rfl rfl (fun ko kk=>?_) (fun ko kk=>?_)
   ·refine Gr (h:=Hq (h:=Bg (h:=?_)));refine AF true rfl rfl (fun kq km=>?_) (fun kq km=>?_)
    ·refine Ac (h:=Dt (h:=Bg (h:=?_)));refine AF true rfl rfl (fun ks kp=>?_) (fun ks kp=>?_)
     ·refine Ac (h:=Hq (h:=Bm (h:=BE (h:=?_))));refine A4 ?_;exact vb (by unfold Ct;simp[*])
     refine DE (h:=BE (h:=?_));refine A4 ?_;exact vb (by unfold Ct;simp[*])
    refine GS (h:=DE (h:=BE (h:=?_)));refine A4 ?_;exact vb (by unfold Ct;simp[*])
   refine CO (h:=BZ (h:=GS (h:=DE (h:=BE (h:=?_)))));refine A4 ?_;exact vb (by unfold Ct;simp[*])
  refine GS (h:=CO (h:=BZ (h:=GS (h:=DE (h:=Tl (h:=?_))))));refine Bp (?_);refine A4 ?_;exact vb (by unfold Ct;simp[*])
 refine Aq (Et (h:=?_));refine A3 rfl (fun kt kr=>?_) (fun kt kr=>?_)
 ·refine B2 (h:=Dv (h:=?_));refine AF true rfl rfl (fun kv ku=>?_) (fun kv ku=>?_)
  ·refine Ac (h:=?_);refine Ak (AX (Sa r.path (by omega)) ?_);rintro r rfl;refine Bg (h:=?_);refine AF true rfl rfl (fun yf yb=>?_) (fun yf yb=>?_)
   ·refine Gr (h:=Hq (h:=Bg (h:=?_)));refine AF true rfl rfl (fun yq yc=>?_) (fun yq yc=>?_)
    ·refine Ac (h:=Dt (h:=Bg (h:=?_)));refine AF true rfl rfl (fun yu yg=>?_) (fun yu yg=>?_)
     ·refine Ac (h:=Hq (h:=Bm (h:=BE (h:=?_))));refine A4 ?_;exact vb (by unfold Ct;simp[*])
     refine DE (h:=BE (h:=?_));refine A4 ?_;exact vb (by unfold Ct;simp[*])
    refine GS (h:=DE (h:=BE (h:=?_)));refine A4 ?_;exact vb (by unfold Ct;simp[*])
   refine CO (h:=BZ (h:=GS (h:=DE (h:=BE (h:=?_)))));refine A4 ?_;exact vb (by unfold Ct;simp[*])
  refine GS (h:=CO (h:=BZ (h:=GS (h:=DE (h:=Tl (h:=?_))))));refine Bp (?_);refine A4 ?_;exact vb (by unfold Ct;simp[*])
 refine Fi (h:=?_);refine A4 ?_;exact vb (by unfold Ct;simp[*])
theorem Vj(r:Rul)(hr:Dz r):AFn prog 116 [.agg (AW r)] (fun x=>x= .v (.int .i64 (BK r))):=by
 obtain⟨m1,m2,hp,hl⟩:=hr;refine enter Tryz.func116 rfl rfl rfl rfl rfl 0 rfl ?_;refine Ee (h:=GT (h:=EG (h:=?_)));refine AF false rfl rfl (fun kd ka=>?_) (fun kd ka=>?_)
 ·refine EV (h:=BC (h:=?_));refine A4 ?_;exact vi (by first|(unfold BK;grind)|(unfold BK Gj;grind))
 refine Jd (h:=Cq (h:=?_));refine A3 rfl (fun ke kc=>?_) (fun ke kc=>?_)
 ·refine BC (h:=?_);refine A4 ?_;exact vi (by first|(unfold BK;grind)|(unfold BK Gj;grind))
 refine AG (?_);refine RY (⟨look [(1, .bp 0 0),(2, .v (.int .i64 0))],⟨[AW r],[]⟩⟩) (¬(r.action≠1/\r.action≠2)) ?_ (fun hA=>?_)
 ·refine B2 (h:=Fw (h:=?_));refine AF true rfl rfl (fun kh kf=>?_) (fun kh kf=>?_)
  ·refine CG (h:=Bm (h:=e_ (?_)));refine A3 rfl (fun kl kg=>?_) (fun kl kg=>?_)
   ·refine BC (h:=?_);refine A4 ?_;exact vi (by first|(unfold BK;grind)|(unfold BK Gj;grind))
   refine Ci (AT (?_));exact⟨(by omega),CL 1 0 rfl⟩
  refine DE (h:=e_ (Ja (h:=Ci (AT (?_)))));exact⟨(by omega),CL 1 0 rfl⟩
 skip
 refine RY (⟨look [(1, .bp 0 0),(2, .v (.int .i64 0))],⟨[AW r],[]⟩⟩) (Gj r=false) ?_ (fun hB=>?_)
 ·refine B2 (h:=?_);refine AK (tM _) ?_;refine e_ (?_);refine A3 rfl (fun ko kk=>?_) (fun ko kk=>?_)
  ·refine B2 (h:=Dv (h:=?_));refine AF false rfl rfl (fun kq km=>?_) (fun kq km=>?_)
   ·refine CO (h:=Fg (h:=?_));refine A4 ?_;exact vi (by first|(unfold BK;grind)|(unfold BK Gj;grind))
   refine Ac (h:=?_);refine Ak (AX (tN _ m1 m2) ?_);rintro r rfl;refine D1 (h:=Cq (h:=?_));refine A3 rfl (fun ks kp=>?_) (fun ks kp=>?_)
   ·refine BC (h:=?_);refine A4 ?_;exact vi (by first|(unfold BK;grind)|(unfold BK Gj;grind))
   refine Ci (AT (?_));exact⟨(by unfold Gj;grind),CL 1 0 rfl⟩
  refine B2 (h:=D3 (h:=?_));refine A3 rfl (fun kt kr=>?_) (fun kt kr=>?_)
  ·refine BC (h:=?_);refine A4 ?_;exact vi (by first|(unfold BK;grind)|(unfold BK Gj;grind))
  refine Ci (AT (?_));exact⟨(by unfold Gj;grind),CL 1 0 rfl⟩
 skip
 refine Fu (h:=Fx (h:=e_ (?_)));refine A3 rfl (fun kv ku=>?_) (fun kv ku=>?_)
 ·refine BC (h:=?_);refine A4 ?_;exact vi (by first|(unfold BK;grind)|(unfold BK Gj;grind))
 rw[List.length_map]at ku;refine DF (h:=GU (h:=e_ (BF (?_))));refine BL (fun n s=>∃j:Nat,j<=r.tests.length/\n=r.tests.length - j/\LM r.list (r.tests.drop j)=LM r.list r.tests/\s=⟨look [(1, .bp 0 0),(2, .v (.int .i64 0)),(42, .sl 5 (r.tests.map DH) none),(43, .v (.int .i64 ((r.tests.map DH).length:Int))),(44, .v (.int .i64 (j:Int)))],⟨[AW r],[]⟩⟩) (r.tests.length) ((wk 1 0)) (⟨0,by omega,rfl,rfl,rfl⟩) ?_;rintro n s ⟨j,hj,rfl,ha,rfl⟩;refine Fz (h:=?_);refine A3 rfl (fun yf yb=>?_) (fun yf yb=>?_)
 ·obtain⟨hlt,t,hy,ya, -⟩:=Bx DH yb;refine Bq (h:=w_ (E6 (h:=CP (h:=Bw (h:=Ac (h:=?_))))));refine AK (XU t _) ?_;refine Gs (h:=?_);refine A3 rfl (fun yq yc=>?_) (fun yq yc=>?_)
  ·rw[Sb hy,if_neg yc]at ha;refine Ab (h:=BE (h:=C1 (h:=?_)));refine A4 ?_;exact vi (by first|(unfold BK;grind)|(unfold BK Gj;grind))
  refine Ej (h:=Aq (GV (h:=?_)));refine⟨_,_,?_,⟨j+1,by omega,rfl,(by rw[<-ha,Sb hy,if_pos (by omega)]),rfl⟩,(wk 1 0)⟩;omega
 have e:=CA DH hj yb;subst e;rw[cC]at ha;refine C4 (h:=q_ (Bw (h:=?_)));refine AK (tP r hp) ?_;refine CY (h:=?_);refine A3 rfl (fun yu yg=>?_) (fun yu yg=>?_)
 ·refine BC (h:=?_);refine A4 ?_;exact vi (by first|(unfold BK;grind)|(unfold BK Gj;grind))
 refine DF (h:=Fx (h:=e_ (?_)));refine A3 rfl (fun yy yr=>?_) (fun yy yr=>?_)
 ·refine BC (h:=?_);refine A4 ?_;exact vi (by first|(unfold BK;grind)|(unfold BK Gj;grind))
 refine AG (KT (h:=?_));refine A4 ?_;exact vi (by first|(unfold BK;grind)|(unfold BK Gj;grind))
theorem Sc(r:Rul)(hr:Dz r):AFn prog 105 [.agg (AW r)] (fun x=>x= .v (.int .i64 (BK r))):=by
 obtain⟨m1,m2,hp,hl⟩:=hr;refine enter Tryz.func105 rfl rfl rfl rfl rfl 0 rfl ?_;refine Ee (h:=GT (h:=EG (h:=?_)));refine AF false rfl rfl (fun kd ka=>?_) (fun kd ka=>?_)
 ·refine EV (h:=BC (h:=?_));refine A4 ?_;exact vi (by first|(unfold BK;grind)|(unfold BK Ct;grind))
 refine Jd (h:=Cq (h:=?_));refine A3 rfl (fun ke kc=>?_) (fun ke kc=>?_)
 ·refine BC (h:=?_);refine A4 ?_;exact vi (by first|(unfold BK;grind)|(unfold BK Ct;grind))
 refine AG (?_);refine RY (⟨look [(1, .bp 0 0),(2, .v (.int .i64 0))],⟨[AW r],[]⟩⟩) (¬(r.action≠1/\r.action≠2)) ?_ (fun hA=>?_)
 ·refine B2 (h:=Fw (h:=?_));refine AF true rfl rfl (fun kh kf=>?_) (fun kh kf=>?_)
  ·refine CG (h:=Bm (h:=e_ (?_)));refine A3 rfl (fun kl kg=>?_) (fun kl kg=>?_)
   ·refine BC (h:=?_);refine A4 ?_;exact vi (by first|(unfold BK;grind)|(unfold BK Ct;grind))
   refine Ci (AT (?_));exact⟨(by omega),CL 1 0 rfl⟩
  refine DE (h:=e_ (Ja (h:=Ci (AT (?_)))));exact⟨(by omega),CL 1 0 rfl⟩
 skip
 refine JW (⟨look [(1, .bp 0 0),(2, .v (.int .i64 0)),(3, .v (.bool (decide (r.list=2\/r.list=3))))],⟨[AW r],[]⟩⟩) ?_ ?_
 ·refine Aq (Ju (h:=?_));refine AF false rfl rfl (fun ko kk=>?_) (fun ko kk=>?_)
  ·refine G9 (h:=D4 (h:=?_));exact CL 1 0 rfl
  refine D2 (h:=C3 (h:=D4 (h:=?_)));exact CL 1 0 rfl
 skip
 refine q_ (?_);refine JW (⟨look [(1, .bp 0 0),(2, .v (.int .i64 0)),(50, .v (.bool (Gj r)))],⟨[AW r],[]⟩⟩) ?_ ?_
 ·refine HU (h:=?_);refine AF true rfl rfl (fun kq km=>?_) (fun kq km=>?_)
  ·refine Ju (h:=?_);refine AF false rfl rfl (fun ks kp=>?_) (fun ks kp=>?_)
   ·refine GB (h:=Bg (h:=Hs (h:=Gp (h:=Lu (h:=J0 (h:=?_))))));exact At 1 0 rfl rfl rfl rfl (by repeat (first|exact Sub.nil|refine Aw rfl rfl ?_|refine B3 ?_|refine B4 rfl ?_|refine B5 rfl ?_|(apply Sub.of;(focus exact rfl);(focus exact LeA.of_eq (vb (by unfold Gj;grind)));(focus exact rfl))))
   refine Ac (h:=?_);refine Ak (AX (tO _ m1) ?_);rintro r rfl;refine D1 (h:=C3 (h:=Bg (h:=?_)));refine AF false rfl rfl (fun kt kr=>?_) (fun kt kr=>?_)
   ·refine Hs (h:=Gp (h:=Lu (h:=J0 (h:=?_))));exact At 1 0 rfl rfl rfl rfl (by repeat (first|exact Sub.nil|refine Aw rfl rfl ?_|refine B3 ?_|refine B4 rfl ?_|refine B5 rfl ?_|(apply Sub.of;(focus exact rfl);(focus exact LeA.of_eq (vb (by unfold Gj;grind)));(focus exact rfl))))
   refine m_ (h:=F6 (h:=?_));refine AF true rfl rfl (fun kv ku=>?_) (fun kv ku=>?_)
   ·refine CG (h:=Bm (h:=F9 (h:=?_)))
    (exfalso;first|contradiction|omega)
   refine DE (h:=F9 (h:=?_));exact At 1 0 rfl rfl rfl rfl (by repeat (first|exact Sub.nil|refine Aw rfl rfl ?_|refine B3 ?_|refine B4 rfl ?_|refine B5 rfl ?_|(apply Sub.of;(focus exact rfl);(focus exact LeA.of_eq (vb (by unfold Gj;grind)));(focus exact rfl))))
  refine Hu (h:=Gp (h:=DT (h:=BZ (h:=m_ (h:=F6 (h:=?_))))));refine AF true rfl rfl (fun yf yb=>?_) (fun yf yb=>?_)
  ·refine CG (h:=Bm (h:=F9 (h:=?_)));exact At 1 0 rfl rfl rfl rfl (by repeat (first|exact Sub.nil|refine Aw rfl rfl ?_|refine B3 ?_|refine B4 rfl ?_|refine B5 rfl ?_|(apply Sub.of;(focus exact rfl);(focus exact LeA.of_eq (vb (by unfold Gj;grind)));(focus exact rfl))))
  refine DE (h:=F9 (h:=?_))
  (exfalso;first|contradiction|omega)
 skip
 refine A3 rfl (fun yq yc=>?_) (fun yq yc=>?_)
 ·refine BC (h:=?_);refine A4 ?_;exact vi (by first|(unfold BK;grind)|(unfold BK Ct;grind))
 refine DF (h:=Fx (h:=e_ (?_)));refine A3 rfl (fun yu yg=>?_) (fun yu yg=>?_)
 ·refine BC (h:=?_);refine A4 ?_;exact vi (by first|(unfold BK;grind)|(unfold BK Ct;grind))
 rw[List.length_map]at yg;refine AG (Cz (h:=?_));refine BL (fun n s=>∃j:Nat,j<=r.tests.length/\n=r.tests.length - j/\LM r.list (r.tests.drop j)=LM r.list r.tests/\s=⟨look [(1, .bp 0 0),(2, .v (.int .i64 0)),(4, .v (.int .i64 (j:Int)))],⟨[AW r],[]⟩⟩) (r.tests.length) ((wk 1 0)) (⟨0,by omega,rfl,rfl,rfl⟩) ?_;rintro n s ⟨j,hj,rfl,ha,rfl⟩;refine Hz (h:=?_);refine A3 rfl (fun yy yr=>?_) (fun yy yr=>?_)
 ·obtain⟨hlt,t,hy,ya, -⟩:=Bx DH yr;refine AG (q_ (BF (q_ (E0 9 (h:=AA 0 (h:=A9 1 (h:=AE 2 (h:=E1 3 (h:=A9 4 (h:=AA 5 (h:=A9 6 (h:=?_))))))))))));refine c_ 7 rfl (AX (gU t _) ?_);rintro r rfl;refine o_ (h:=B8 8 (h:=z_ (h:=t_ (w_ (m_ (h:=Hp (h:=e_ (?_))))))));refine A3 rfl (fun ff fc=>?_) (fun ff fc=>?_)
  ·rw[Sb hy,if_neg fc]at ha;refine Ab (h:=BE (h:=C1 (h:=?_)));refine A4 ?_;exact vi (by first|(unfold BK;grind)|(unfold BK Ct;grind))
  refine Dg (h:=?_);refine⟨_,_,?_,⟨j+1,by omega,rfl,(by rw[<-ha,Sb hy,if_pos (by omega)]),rfl⟩,(wk 1 0)⟩;omega
 have e:=CA DH hj yr;subst e;rw[cC]at ha;refine C4 (h:=?_);refine RY (⟨look [(1, .bp 0 0),(2, .v (.int .i64 0))],⟨[AW r],[]⟩⟩) (Ct r=true) ?_ (fun hW=>?_)
 ·refine B2 (h:=e_ (BF (Az (h:=?_))));refine A3 rfl (fun fe fx=>?_) (fun fe fx=>?_)
  ·refine B2 (h:=Fw (h:=?_));refine AF false rfl rfl (fun fq od=>?_) (fun fq od=>?_)
   ·refine EV (h:=BR (h:=?_));refine A4 ?_;exact vi (by first|(unfold BK;grind)|(unfold BK Ct;grind))
   refine CG (h:=Cq (h:=?_));refine A3 rfl (fun fy oe=>?_) (fun fy oe=>?_)
   ·refine BR (h:=?_);refine A4 ?_;exact vi (by first|(unfold BK;grind)|(unfold BK Ct;grind))
   refine JE (h:=AT (?_));exact⟨(by unfold Ct;grind),CL 1 0 rfl⟩
  refine q_ (Az (h:=?_));refine A3 rfl (fun ma fr=>?_) (fun ma fr=>?_)
  ·refine AG (GQ (h:=B2 (h:=Fw (h:=?_))));refine AF false rfl rfl (fun mu mv=>?_) (fun mu mv=>?_)
   ·refine CO (h:=Bg (h:=CO (h:=Bg (h:=Co (h:=EV (h:=w_ (?_)))))));refine BE (h:=?_);refine A4 ?_;exact vi (by first|(unfold BK;grind)|(unfold BK Ct;grind))
   refine Ac (h:=?_);refine Ak (AX (SJ _ hp) ?_);rintro r rfl;refine D1 (h:=BZ (h:=?_));refine AF false rfl rfl (fun ob mf=>?_) (fun ob mf=>?_)
   ·refine CO (h:=Bg (h:=Co (h:=EV (h:=BR (h:=?_)))));refine A4 ?_;exact vi (by first|(unfold BK;grind)|(unfold BK Ct;grind))
   refine Gr (h:=ET (h:=BZ (h:=?_)));refine AF false rfl rfl (fun og mw=>?_) (fun og mw=>?_)
   ·refine Co (h:=EV (h:=BR (h:=?_)));refine A4 ?_;exact vi (by first|(unfold BK;grind)|(unfold BK Ct;grind))
   refine Ac (h:=Jc (h:=BZ (h:=?_)));refine AF false rfl rfl (fun mg my=>?_) (fun mg my=>?_)
   ·refine EV (h:=BR (h:=?_));refine A4 ?_;exact vi (by first|(unfold BK;grind)|(unfold BK Ct;grind))
   refine Jd (h:=Cq (h:=?_));refine A3 rfl (fun po oh=>?_) (fun po oh=>?_)
   ·refine BR (h:=?_);refine A4 ?_;exact vi (by first|(unfold BK;grind)|(unfold BK Ct;grind))
   refine JE (h:=AT (?_));exact⟨(by unfold Ct;grind),CL 1 0 rfl⟩
  refine Aq (Et (h:=?_));refine A3 rfl (fun kz pi=>?_) (fun kz pi=>?_)
  ·refine B2 (h:=Fw (h:=?_));refine AF false rfl rfl (fun mq pp=>?_) (fun mq pp=>?_)
   ·refine CO (h:=Bg (h:=CO (h:=Bg (h:=Co (h:=EV (h:=w_ (?_)))))));refine BE (h:=?_);refine A4 ?_;exact vi (by first|(unfold BK;grind)|(unfold BK Ct;grind))
   refine Ac (h:=?_);refine Ak (AX (SJ _ hp) ?_);rintro r rfl;refine D1 (h:=BZ (h:=?_));refine AF false rfl rfl (fun ja jb=>?_) (fun ja jb=>?_)
   ·refine CO (h:=Bg (h:=Co (h:=EV (h:=BR (h:=?_)))));refine A4 ?_;exact vi (by first|(unfold BK;grind)|(unfold BK Ct;grind))
   refine Gr (h:=ET (h:=BZ (h:=?_)));refine AF false rfl rfl (fun jc jd=>?_) (fun jc jd=>?_)
   ·refine Co (h:=EV (h:=BR (h:=?_)));refine A4 ?_;exact vi (by first|(unfold BK;grind)|(unfold BK Ct;grind))
   refine Ac (h:=Jc (h:=BZ (h:=?_)));refine AF false rfl rfl (fun je jf=>?_) (fun je jf=>?_)
   ·refine EV (h:=BR (h:=?_));refine A4 ?_;exact vi (by first|(unfold BK;grind)|(unfold BK Ct;grind))
   refine Jd (h:=Cq (h:=?_));refine A3 rfl (fun jg jh=>?_) (fun jg jh=>?_)
   ·refine BR (h:=?_);refine A4 ?_;exact vi (by first|(unfold BK;grind)|(unfold BK Ct;grind))
   refine JE (h:=AT (?_));exact⟨(by unfold Ct;grind),CL 1 0 rfl⟩
  refine BR (h:=?_);refine A4 ?_;exact vi (by first|(unfold BK;grind)|(unfold BK Ct;grind))
 skip
 refine Fu (h:=Fx (h:=e_ (?_)));refine A3 rfl (fun ji jj=>?_) (fun ji jj=>?_)
 ·refine BC (h:=?_);refine A4 ?_;exact vi (by first|(unfold BK;grind)|(unfold BK Ct;grind))
 refine AG (KT (h:=?_));refine A4 ?_;exact vi (by first|(unfold BK;grind)|(unfold BK Ct;grind))
end
deriving instance DecidableEq for Tst
deriving instance DecidableEq for Rul
theorem tQ(a b:ByteArray):(a.toList==b.toList)=decide (a=b):=by
 by_cases h:a=b
 ·simp[h]
 have:a.toList≠b.toList:=fun e=>h (by
  rw[ByteArray.toList_eq,ByteArray.toList_eq]at e;obtain⟨⟨x⟩⟩:=a;obtain⟨⟨y⟩⟩:=b
  simpa using e)
 simp[h,this]
theorem tR(a b:Tst):(a.fld==b.fld&&(a.op==b.op&&(a.num==b.num&&(a.text.toList==b.text.toList&&a.other==b.other))))=decide (a=b):=by
 rw[tQ];obtain⟨a1,a2,a3,a4,a5⟩:=a;obtain⟨b1,b2,b3,b4,b5⟩:=b;by_cases h1:a1=b1<;>by_cases h2:a2=b2<;>by_cases h3:a3=b3<;>by_cases h4:a4=b4<;>by_cases h5:a5=b5<;>simp[h1,h2,h3,h4,h5]
theorem Sd{α:Type}[DecidableEq α]{a b:List α}{j:Nat}{x y:α}(hx:a[j]?=some x)(hy:b[j]?=some y):decide (a.drop j=b.drop j)=(decide (x=y)&&decide (a.drop (j+1)=b.drop (j+1))):=by
 obtain⟨h1,e1⟩:=AZ.1 hx;obtain⟨h2,e2⟩:=AZ.1 hy;rw[List.drop_eq_getElem_cons h1,List.drop_eq_getElem_cons h2,e1,e2];by_cases h:x=y<;>simp[h]
theorem tS{α:Type}[DecidableEq α]{a b:List α}(h:a.length≠b.length):decide (a=b)=false:=by
 simp only[decide_eq_false_iff_not];intro e;exact h (by rw[e])
section
theorem cF(a b:Tst)(w:World):(binOp .neq 115 (.agg #[.int .i64 a.fld, .int .i64 a.op, .int .i64 a.num, .string a.text, .int .i64 a.other]) (.agg #[.int .i64 b.fld, .int .i64 b.op, .int .i64 b.num, .string b.text, .int .i64 b.other])).run prog w= .ok (.bool (!decide (a=b))) w:=by
 have u3:=Tryz.underlying3;have a3:=Tryz.isAgg3;have z3:=Tryz.sizeOf3;have u9:=Tryz.underlying9;have a9:=Tryz.isAgg9;have z9:=Tryz.sizeOf9;have hS:prog.underlying 115=some (.struct (prog.fieldsOf 115)):=by kernel_rfl
 have hp:prog.stoodInHeld 115=false:=by kernel_rfl
 rw[run_neq_struct,show(10000:Nat)=9999+1 from rfl,run_equalIn_agg w 9999 115 _ _ hS hp];simp only[Program.fieldsOf,Tryz.underlying115]
 go_simp
 rw[<-tR];by_cases h1:a.fld=b.fld<;>by_cases h2:a.op=b.op<;>by_cases h3:a.num=b.num<;>by_cases h4:a.text.toList=b.text.toList<;>by_cases h5:a.other=b.other<;>simp[h1,h2,h3,h4,h5]
theorem tT(a b:List Tst)(ha:a.length<=1000):AFn prog 218 [.sl 5 (a.map DH) none, .sl 5 (b.map DH) none] (fun x=>x= .v (.bool (decide (a=b)))):=by
 refine enter Tryz.func218 rfl rfl rfl rfl rfl 0 rfl ?_;refine GE (h:=GU (h:=n_ (h:=D3 (h:=?_))));refine A3 rfl (fun kd ka=>?_) (fun kd ka=>?_)
 ·refine BC (h:=?_);refine A4 ?_;exact vb (by rw[tS (by simp at ka;omega)])
 have hl:a.length=b.length:=by simp at ka;omega
 refine D5 (h:=GU (h:=e_ (BF (?_))));refine BL (fun n s=>∃j:Nat,j<=a.length/\n=a.length - j/\decide (a.drop j=b.drop j)=decide (a=b)/\s=⟨look [(0, .sl 5 (a.map DH) none),(1, .sl 5 (b.map DH) none),(12, .v (.int .i64 ((a.map DH).length:Int))),(13, .v (.int .i64 (j:Int)))],⟨[],[]⟩⟩) (a.length) ((wk 0 0)) (⟨0,by omega,rfl,rfl,rfl⟩) ?_;rintro n s ⟨j,hj,rfl,hd,rfl⟩;refine Fz (h:=?_);refine A3 rfl (fun ke kc=>?_) (fun ke kc=>?_)
 ·obtain⟨hlt,x,hx,ya, -⟩:=Bx DH kc;obtain⟨hlt2,y,hy,mo, -⟩:=Bx DH (l:=b) (k:=j) (by simpa[hl]using kc);refine AG (q_ (BF (w_ (m_ (h:=a_ (h:=e_ (q_ (E0 9 (h:=AE 0 (h:=AE 1 (h:=E1 2 (h:=A9 3 (h:=AE 4 (h:=AE 5 (h:=E1 6 (h:=A9 7 (h:=?_)))))))))))))))));refine Hm (i:=8) rfl (Jk rfl rfl (by repeat constructor) (by repeat constructor) (fun w=>cF x y w) (by kernel_rfl) ⟨rfl,rfl⟩) ?_;refine z_ (h:=t_ (?_));refine A3 rfl (fun kh kf=>?_) (fun kh kf=>?_)
  ·refine BR (h:=C1 (h:=?_));refine A4 ?_;exact vb (by rw[<-hd,Sd hx hy];simp[kf])
  refine Ej (h:=Aq (GV (h:=?_)));refine⟨_,_,?_,⟨j+1,by omega,rfl,(by rw[<-hd,Sd hx hy,kf];simp),rfl⟩,(wk 0 0)⟩;omega
 have e:=CA DH hj kc;subst e;refine Hv (h:=?_);refine A4 ?_;exact vb (by rw[<-hd,List.drop_length,hl,List.drop_length];rfl)
theorem cG(a:List Tst)(ha:a.length<=1000):AFn prog 129 [.sl 5 (a.map DH) none] (fun x=>x= .sl 5 (a.map DH) none):=by
 refine enter Tryz.func129 rfl rfl rfl rfl rfl 0 rfl ?_;refine GE (h:=?_);refine A7 (fV rfl rfl ?_);intro b hb;refine e_ (?_);refine A3 rfl (fun kd ka=>?_) (fun kd ka=>?_)
 ·refine BC (h:=?_);refine RK (xs:=[.v (.slice none 0 0)]) (r:= .sl 5 [] none) none (by repeat (first|exact ResA.nil|(apply ResA.tmp;(focus exact rfl))|(apply ResA.cellN;(focus exact inferInstance);(focus exact rfl);(focus exact rfl);(focus exact rfl))|(apply ResA.cell1;(focus exact inferInstance);(focus exact rfl);(focus exact rfl);(focus exact rfl)))) rfl rfl rfl (LeA.nil _) ⟨rfl,rfl,?_⟩;rw[hb ka]
 refine AG (w_ (?_));refine A7 (fX (by repeat constructor) ?_);refine m_ (h:=G8 (h:=a_ (h:=e_ (BH (?_)))));refine A4 ?_;rfl
theorem tU(a b:Rul):a=b↔a.list=b.list/\a.action=b.action/\a.calls=b.calls/\a.tests=b.tests/\a.watch=b.watch/\a.path=b.path/\a.perm=b.perm/\a.key=b.key:=by
 cases a;cases b;simp
theorem MD(a b:Rul):decide (a=b)=decide (a.list=b.list/\a.action=b.action/\a.calls=b.calls/\a.tests=b.tests/\a.watch=b.watch/\a.path=b.path/\a.perm=b.perm/\a.key=b.key):=decide_eq_decide.2 (tU a b)
theorem tV(a b:Rul)(ha:a.tests.length<=1000):AFn prog 158 [.agg (AW a), .agg (AW b)] (fun x=>x= .v (.bool (decide (a=b)))):=by
 refine enter Tryz.func158 rfl rfl rfl rfl rfl 0 rfl ?_;refine Hw (h:=B2 (h:=Ju (h:=?_)));refine AF true rfl rfl (fun kd ka=>?_) (fun kd ka=>?_)
 ·refine Ac (h:=D2 (h:=Bg (h:=?_)));refine AF true rfl rfl (fun ke kc=>?_) (fun ke kc=>?_)
  ·refine Ac (h:=D2 (h:=Bg (h:=?_)));refine AF true rfl rfl (fun kh kf=>?_) (fun kh kf=>?_)
   ·refine Je (h:=?_);refine Ak (AX (tT a.tests b.tests ha) ?_);rintro r rfl;refine Bg (h:=?_);refine AF true rfl rfl (fun kl kg=>?_) (fun kl kg=>?_)
    ·refine Ac (h:=D2 (h:=Bg (h:=?_)));refine AF true rfl rfl (fun ko kk=>?_) (fun ko kk=>?_)
     ·refine Ac (h:=D2 (h:=Bg (h:=?_)));refine AF true rfl rfl (fun kq km=>?_) (fun kq km=>?_)
      ·refine Ac (h:=D2 (h:=Bg (h:=?_)));refine AF true rfl rfl (fun ks kp=>?_) (fun ks kp=>?_)
       ·refine Ac (h:=D2 (h:=Eg (h:=?_)));refine A4 ?_;exact vb (by rw[MD];simp[*])
       refine BB (h:=Hy (h:=?_));refine A4 ?_;exact vb (by rw[MD];simp[*])
      refine Gt (h:=BB (h:=Hy (h:=?_)));refine A4 ?_;exact vb (by rw[MD];simp[*])
     refine Gt (h:=Gt (h:=BB (h:=Hy (h:=?_))));refine A4 ?_;exact vb (by rw[MD];simp[*])
    refine Gt (h:=Gt (h:=Gt (h:=Hs (h:=?_))));refine BB (h:=H9 (h:=?_));refine A4 ?_;exact vb (by rw[MD];simp[*])
   refine Gt (h:=Gt (h:=Gt (h:=Hs (h:=?_))));refine BB (h:=BZ (h:=BB (h:=Hy (h:=?_))));refine A4 ?_;exact vb (by rw[MD];simp[*])
  refine Gt (h:=Gt (h:=Gt (h:=Hs (h:=?_))));refine BB (h:=BZ (h:=Gt (h:=BB (h:=Hy (h:=?_)))));refine A4 ?_;exact vb (by rw[MD];simp[*])
 refine Gt (h:=Gt (h:=Gt (h:=Hs (h:=?_))));refine BB (h:=BZ (h:=Gt (h:=Gt (h:=BB (h:=DE (h:=?_))))));refine BW (h:=?_);refine A4 ?_;exact vb (by rw[MD];simp[*])
theorem tW(a b:Rul)(ha:a.tests.length<=1000):AFn prog 104 [.agg (AW a), .agg (AW b)] (fun x=>x= .v (.bool (decide (a=b)))):=by
 refine enter Tryz.func104 rfl rfl rfl rfl rfl 0 rfl ?_;refine Hw (h:=q_ (?_));refine JW (⟨look [(2, .bp 0 0),(3, .bp 1 0),(61, .v (.bool (!decide (a.list=b.list/\a.action=b.action/\a.calls=b.calls/\a.watch=b.watch/\a.path=b.path/\a.perm=b.perm/\a.key=b.key/\(a.tests.length:Int)=(b.tests.length:Int)))))],⟨[AW a,AW b],[]⟩⟩) ?_ ?_
 ·refine Aq (Ac (h:=CG (h:=m_ (h:=?_))));refine AF false rfl rfl (fun kd ka=>?_) (fun kd ka=>?_)
  ·refine Ha (h:=Ha (h:=Ha (h:=Hs (h:=?_))));refine BB (h:=Bg (h:=Ha (h:=Ha (h:=Jo (h:=?_)))));refine DT (h:=J0 (h:=?_));exact CL 2 0 rfl
  refine Ac (h:=CG (h:=BZ (h:=?_)));refine AF false rfl rfl (fun ke kc=>?_) (fun ke kc=>?_)
  ·refine Ha (h:=Ha (h:=Ha (h:=Hs (h:=?_))));refine BB (h:=Bg (h:=Ha (h:=CO (h:=JG (h:=?_)))));exact CL 2 0 rfl
  refine Ac (h:=CG (h:=BZ (h:=?_)));refine AF false rfl rfl (fun kh kf=>?_) (fun kh kf=>?_)
  ·refine Ha (h:=Ha (h:=Ha (h:=Hs (h:=?_))));refine BB (h:=Bg (h:=CO (h:=JG (h:=?_))));exact CL 2 0 rfl
  refine Ac (h:=CG (h:=BZ (h:=?_)));refine AF false rfl rfl (fun kl kg=>?_) (fun kl kg=>?_)
  ·refine Ha (h:=Ha (h:=Ha (h:=Hs (h:=?_))));refine GB (h:=FP (h:=?_));exact CL 2 0 rfl
  refine Ac (h:=CG (h:=BZ (h:=?_)));refine AF false rfl rfl (fun ko kk=>?_) (fun ko kk=>?_)
  ·refine Ha (h:=Ha (h:=CO (h:=JG (h:=?_))));exact CL 2 0 rfl
  refine Ac (h:=CG (h:=BZ (h:=?_)));refine AF false rfl rfl (fun kq km=>?_) (fun kq km=>?_)
  ·refine Ha (h:=CO (h:=JG (h:=?_)));exact CL 2 0 rfl
  refine Ac (h:=CG (h:=BZ (h:=?_)));refine AF false rfl rfl (fun ks kp=>?_) (fun ks kp=>?_)
  ·refine CO (h:=JG (h:=?_));exact CL 2 0 rfl
  refine Gr (h:=Gr (h:=Hp (h:=F9 (h:=?_))));exact CL 2 0 rfl
 skip
 refine A3 rfl (fun kt kr=>?_) (fun kt kr=>?_)
 ·have hne:a≠b:=by rintro rfl;simp at kr
  refine BC (h:=?_);refine A4 ?_;exact vb (by simp[hne])
 have hq:a.list=b.list/\a.action=b.action/\a.calls=b.calls/\a.watch=b.watch/\a.path=b.path/\a.perm=b.perm/\a.key=b.key/\(a.tests.length:Int)=(b.tests.length:Int):=by simpa using kr
 obtain⟨q1,q2,q3,q4,q5,q6,q7,q8⟩:=hq;have hl:a.tests.length=b.tests.length:=by omega
 refine AG (Cz (h:=?_));refine BL (fun n s=>∃j:Nat,j<=a.tests.length/\n=a.tests.length - j/\decide (a.tests.drop j=b.tests.drop j)=decide (a.tests=b.tests)/\s=⟨look [(2, .bp 0 0),(3, .bp 1 0),(5, .v (.int .i64 (j:Int)))],⟨[AW a,AW b],[]⟩⟩) (a.tests.length) ((wk 2 0)) (⟨0,by omega,rfl,rfl,rfl⟩) ?_;rintro n s ⟨j,hj,rfl,hd,rfl⟩;refine Hz (h:=?_);refine A3 rfl (fun kv ku=>?_) (fun kv ku=>?_)
 ·obtain⟨hlt,x,hx,ya, -⟩:=Bx DH ku;obtain⟨hlt2,y,hy,mo, -⟩:=Bx DH (l:=b.tests) (k:=j) (by simpa[hl]using ku);refine AG (q_ (BF (q_ (E0 11 (h:=AA 0 (h:=A9 1 (h:=AE 2 (h:=E1 3 (h:=A9 4 (h:=AA 5 (h:=A9 6 (h:=AE 7 (h:=E1 8 (h:=A9 9 (h:=?_)))))))))))))));refine Hm (i:=10) rfl (Jk rfl rfl (by repeat constructor) (by repeat constructor) (fun w=>cF x y w) (by kernel_rfl) ⟨rfl,rfl⟩) ?_;refine z_ (h:=t_ (?_));refine A3 rfl (fun yf yb=>?_) (fun yf yb=>?_)
  ·have ht:decide (a.tests=b.tests)=false:=by rw[<-hd,Sd hx hy];simp[yb]
   refine BR (h:=C1 (h:=?_));refine A4 ?_;exact vb (by rw[MD];simp at ht;simp[ht])
  refine Dg (h:=?_);refine⟨_,_,?_,⟨j+1,by omega,rfl,(by rw[<-hd,Sd hx hy,yb];simp),rfl⟩,(wk 2 0)⟩;omega
 have e:=CA DH hj ku;subst e;have ht:decide (a.tests=b.tests)=true:=by rw[<-hd,List.drop_length,hl,List.drop_length];rfl
 refine Hv (h:=?_);refine A4 ?_;exact vb (by rw[MD];simp at ht;simp[*])
def JO(l:List Rul)(r:Rul):Int:=DQ (fun _ x=>decide (x=r)) l 0
theorem tX(i:Nat)(x r:Rul)(hx:x.tests.length<=1000):AFn prog 157 [.v (.int .i64 (i:Int)), .agg (AW x), .fp (AW r)] (fun y=>y= .v (.bool (decide (x=r)))):=by
 refine enter Tryz.func157 rfl rfl rfl rfl rfl 0 rfl ?_;refine Ee (h:=Ay (h:=C9 (h:=?_)));refine AK (tV x r hx) ?_;refine BW (h:=?_);refine A4 ?_;rfl
theorem Vk(l:List Rul)(r:Rul)(hl:l.length<=1000)(ht:∀r∈l,r.tests.length<=1000):AFn prog 107 [.sl 8 (l.map AW) none, .agg (AW r)] (fun x=>x= .v (.int .i64 (JO l r))):=by
 refine enter Tryz.func107 rfl rfl rfl rfl rfl 0 rfl ?_;refine Ee (h:=Cl (h:=Th (h:=?_)));refine A7 (TW rfl (by repeat (first|exact ArgsL.nil|refine ArgsL.cons _ _ _ _ _ rfl rfl ?_)) (Xk l hl (fun _ x=>decide (x=r)) 157 [.fp (AW r)] rfl rfl fun i x hi=>tX i x r (ht x (Aj hi))) ?_);rintro x rfl;refine⟨rfl,?_⟩;refine BW (h:=?_);refine A4 ?_;rfl
theorem Vl(l:List Rul)(r:Rul)(hl:l.length<=1000)(ht:∀r∈l,r.tests.length<=1000):AFn prog 109 [.sl 8 (l.map AW) none, .agg (AW r)] (fun x=>x= .v (.int .i64 (JO l r))):=by
 refine enter Tryz.func109 rfl rfl rfl rfl rfl 0 rfl ?_;refine Ee (h:=Ay (h:=Cz (h:=?_)));refine BL (fun n s=>∃j:Nat,j<=l.length/\n=l.length - j/\DQ (fun _ x=>decide (x=r)) (l.drop j) j=JO l r/\s=⟨look [(0, .sl 8 (l.map AW) none),(3, .bp 0 0),(5, .v (.int .i64 (j:Int)))],⟨[AW r],[]⟩⟩) (l.length) ((wk 1 0)) (⟨0,by omega,rfl,rfl,rfl⟩) ?_;rintro n s ⟨j,hj,rfl,ha,rfl⟩;refine EH (h:=JD (h:=?_));refine A3 rfl (fun kd ka=>?_) (fun kd ka=>?_)
 ·obtain⟨hlt,x,hy,ya, -⟩:=Bx AW ka;refine AG (q_ (BF (q_ (E0 6 (h:=AE 0 (h:=AE 1 (h:=E1 2 (h:=A9 3 (h:=A9 4 (h:=?_))))))))));refine c_ 5 rfl (AX (tW x r (ht x (Aj hy))) ?_);rintro r rfl;refine J1 (h:=t_ (?_));refine A3 rfl (fun ke kc=>?_) (fun ke kc=>?_)
  ·refine Ab (h:=BE (h:=C1 (h:=?_)));refine A4 ?_;exact vi (by rw[<-ha,Oc hy];simp[kc])
  refine Dg (h:=?_);refine⟨_,_,?_,⟨j+1,by omega,rfl,(by rw[<-ha,Oc hy];simp[kc]),rfl⟩,(wk 1 0)⟩;omega
 have e:=CA AW hj ka;subst e;refine Hv (h:=?_);refine A4 ?_;exact vi (by rw[<-ha,Tw])
def KF(pre:List Rul):List Rul->Int
 |[]=>0
 |r::rs=>if BK r≠0 then BK r else if 0<=JO pre r then 141 else KF (pre++[r]) rs
theorem PB{l:List Rul}{j:Nat}{r:Rul}(h:l[j]?=some r):KF (l.take j) (l.drop j)=if BK r≠0 then BK r else if 0<=JO (l.take j) r then 141 else KF (l.take (j+1)) (l.drop (j+1)):=by
 obtain⟨hk,e⟩:=AZ.1 h;rw[List.drop_eq_getElem_cons hk,KF,e,List.take_succ_eq_append_getElem hk,e]
def Ea(l:List Rul):Int:=if 24<(l.length:Int)then 140 else KF [] l
theorem Vm(l:List Rul)(hl:l.length<=1000)(hi:∀r∈l,Dz r):AFn prog 85 [.sl 8 (l.map AW) none] (fun x=>x= .v (.int .i64 (Ea l))):=by
 have px:∀j r,AFn prog 107 [.sl 8 ((l.map AW).take j) none, .agg (AW r)] (fun x=>x= .v (.int .i64 (JO (l.take j) r))):=fun j r=>by
  rw[<-List.map_take];exact Vk (l.take j) r (by simp;omega) fun x hx=>(hi x (List.mem_of_mem_take hx)).2.2.2
 refine enter Tryz.func85 rfl rfl rfl rfl rfl 0 rfl ?_;refine GE (h:=Fx (h:=e_ (?_)));refine A3 rfl (fun kd ka=>?_) (fun kd ka=>?_)
 ·rw[List.length_map]at ka;refine BC (h:=?_);refine A4 ?_;exact vi (by rw[Ea,if_pos ka])
 rw[List.length_map]at ka;refine D5 (h:=GU (h:=e_ (BF (?_))));refine BL (fun n s=>∃j:Nat,j<=l.length/\n=l.length - j/\KF (l.take j) (l.drop j)=KF [] l/\s=⟨look [(0, .sl 8 (l.map AW) none),(9, .sl 8 (l.map AW) none),(10, .v (.int .i64 ((l.map AW).length:Int))),(11, .v (.int .i64 (j:Int)))],⟨[],[]⟩⟩) (l.length) ((wk 0 0)) (⟨0,by omega,rfl,rfl,rfl⟩) ?_;rintro n s ⟨j,hj,rfl,ha,rfl⟩;refine Fz (h:=?_);refine A3 rfl (fun ke kc=>?_) (fun ke kc=>?_)
 ·obtain⟨hlt,r,hy,ya, -⟩:=Bx AW kc;refine Bq (h:=Ab (h:=E6 (h:=Ck (h:=a_ (h:=GF (h:=q_ (Bw (h:=?_))))))));refine AK (Vj r (hi r (Aj hy))) ?_;refine Gs (h:=?_);refine A3 rfl (fun kh kf=>?_) (fun kh kf=>?_)
  ·refine Ab (h:=FN (h:=DG (h:=C1 (h:=?_))));refine A4 ?_;exact vi (by rw[Ea,if_neg ka,<-ha,PB hy,if_pos kf])
  refine AG (q_ (E0 6 (h:=AE 0 (h:=AE 1 (h:=?_)))));refine Hm (i:=2) rfl (TJ (k:=j) rfl rfl rfl (by simp;omega) ⟨rfl,rfl⟩) ?_;refine A9 3 (h:=?_);refine c_ 4 rfl (AX (px j r) ?_);rintro r rfl;refine o_ (h:=XB 5 (h:=z_ (h:=t_ (?_))));refine A3 rfl (fun kl kg=>?_) (fun kl kg=>?_)
  ·refine BR (h:=C1 (h:=?_));refine A4 ?_;exact vi (by rw[Ea,if_neg ka,<-ha,PB hy,if_neg (by omega),if_pos kg])
  refine Ej (h:=Aq (GV (h:=?_)));refine⟨_,_,?_,⟨j+1,by omega,rfl,(by rw[<-ha,PB hy,if_neg (by omega),if_neg kg]),rfl⟩,(wk 0 0)⟩;omega
 have e:=CA AW hj kc;subst e;refine Hv (h:=?_);refine A4 ?_;exact vi (by rw[Ea,if_neg ka,<-ha];simp[KF])
end
section
theorem cH(l:List Rul)(hl:l.length<=1000)(hi:∀r∈l,Dz r):AFn prog 88 [.sl 8 (l.map AW) none] (fun x=>x= .v (.int .i64 (Ea l))):=by
 have px:∀j r,AFn prog 109 [.sl 8 ((l.map AW).take j) none, .agg (AW r)] (fun x=>x= .v (.int .i64 (JO (l.take j) r))):=fun j r=>by
  rw[<-List.map_take];exact Vl (l.take j) r (by simp;omega) fun x hx=>(hi x (List.mem_of_mem_take hx)).2.2.2
 refine enter Tryz.func88 rfl rfl rfl rfl rfl 0 rfl ?_;refine GE (h:=Fx (h:=e_ (?_)));refine A3 rfl (fun kd ka=>?_) (fun kd ka=>?_)
 ·rw[List.length_map]at ka;refine BC (h:=?_);refine A4 ?_;exact vi (by rw[Ea,if_pos ka])
 rw[List.length_map]at ka;refine AG (Cz (h:=?_));refine BL (fun n s=>∃j:Nat,j<=l.length/\n=l.length - j/\KF (l.take j) (l.drop j)=KF [] l/\s=⟨look [(0, .sl 8 (l.map AW) none),(3, .v (.int .i64 (j:Int)))],⟨[],[]⟩⟩) (l.length) ((wk 0 0)) (⟨0,by omega,rfl,rfl,rfl⟩) ?_;rintro n s ⟨j,hj,rfl,ha,rfl⟩;refine EH (h:=JD (h:=?_));refine A3 rfl (fun ke kc=>?_) (fun ke kc=>?_)
 ·obtain⟨hlt,r,hy,ya, -⟩:=Bx AW kc;refine Bq (h:=EH (h:=E6 (h:=?_)));refine AK (Sc r (hi r (Aj hy))) ?_;refine Gs (h:=?_);refine A3 rfl (fun kh kf=>?_) (fun kh kf=>?_)
  ·refine Ab (h:=FN (h:=DG (h:=C1 (h:=?_))));refine A4 ?_;exact vi (by rw[Ea,if_neg ka,<-ha,PB hy,if_pos kf])
  refine AG (q_ (E0 9 (h:=AE 0 (h:=AE 1 (h:=?_)))));refine Hm (i:=2) rfl (TJ (k:=j) rfl rfl rfl (by simp;omega) ⟨rfl,rfl⟩) ?_;refine AE 3 (h:=AE 4 (h:=E1 5 (h:=A9 6 (h:=?_))));refine c_ 7 rfl (AX (px j r) ?_);rintro r rfl;refine o_ (h:=XB 8 (h:=z_ (h:=t_ (?_))));refine A3 rfl (fun kl kg=>?_) (fun kl kg=>?_)
  ·refine BR (h:=C1 (h:=?_));refine A4 ?_;exact vi (by rw[Ea,if_neg ka,<-ha,PB hy,if_neg (by omega),if_pos kg])
  refine Dg (h:=?_);refine⟨_,_,?_,⟨j+1,by omega,rfl,(by rw[<-ha,PB hy,if_neg (by omega),if_neg kg]),rfl⟩,(wk 0 0)⟩;omega
 have e:=CA AW hj kc;subst e;refine Hv (h:=?_);refine A4 ?_;exact vi (by rw[Ea,if_neg ka,<-ha];simp[KF])
theorem Se(r:Rul)(hr:r.tests.length<=1000):AFn prog 117 [.agg (AW r)] (fun x=>x= .agg (AW r)):=by
 refine enter Tryz.func117 rfl rfl rfl rfl rfl 0 rfl ?_;refine E5 (h:=e_ (B2 (h:=?_)));refine AK (cG r.tests hr) ?_;refine Cg (h:=EX (h:=?_));refine A4 ?_;rfl
theorem Sf(r:Rul)(hl:r.tests.length<=1000):AFn prog 102 [.agg (AW r)] (fun x=>x= .agg (AW r)):=by
 refine enter Tryz.func102 rfl rfl rfl rfl rfl 0 rfl ?_;refine w_ (b_ (h:=Ck (h:=e_ (w_ (f_ (h:=l_ (h:=G8 (h:=f_ (h:=s_ (h:=e_ (w_ (l_ (h:=s_ (h:=e_ (BH (?_))))))))))))))));refine A4 ?_;rfl
theorem tY(l:List Rul)(h1:l.length<=1000)(hl:∀r∈l,r.tests.length<=1000):RN prog 89 [.sl 8 (l.map AW) none] (fun g=> .sl 8 (l.map AW) g) (83,8,l.map AW):=by
 refine enter Tryz.func89 rfl rfl rfl rfl rfl 0 rfl ?_;refine DZ (h:=DZ (h:=Cz (h:=?_)));refine NZ 3 83 8 rfl (by repeat constructor) ?_;refine BL (fun n s=>∃k:Nat,k<=l.length/\n=l.length - k/\s=⟨look [(0, .sl 8 (l.map AW) none),(3, .sl 8 ((l.take k).map AW) (some 0)),(4, .v (.int .i64 (k:Int)))],⟨[],[(83,8,(l.take k).map AW)]⟩⟩) (l.length) ((wk 0 1)) (⟨0,BG _,rfl,rfl⟩) ?_;rintro n s ⟨k,hk,rfl,rfl⟩;refine EH (h:=JD (h:=?_));refine A3 rfl (fun kd ka=>?_) (fun kd ka=>?_)
 ·obtain⟨hlt,r,hr,ya,e⟩:=Bx AW ka;refine Bq (h:=BU (h:=Cp (h:=E6 (h:=?_))));refine AK (Sf r (hl r (Aj hr))) ?_;refine BT (h:=G8 (h:=a_ (h:=Bu (Bz (t_ (Aq (m_ (h:=Ez (h:=a_ (h:=Bu (AT (?_))))))))))));refine⟨_,_,?_,⟨k+1,by omega,rfl,rfl⟩,?_⟩
  ·omega
  rw[e];exact(wk 0 1)
 have e:=CA AW hk ka;subst e;rw[List.take_length];refine C4 (h:=EW (h:=?_));refine AO (some 0) (h5:=(A6 _)) (h6:=⟨rfl,rfl,rfl⟩)
theorem tZ(l:List Rul)(h1:l.length<=1000)(hl:∀r∈l,r.tests.length<=1000):AFn prog 89 [.sl 8 (l.map AW) none] (fun x=>x= .sl 8 (l.map AW) none):=by
 refine enter Tryz.func89 rfl rfl rfl rfl rfl 0 rfl ?_;refine DZ (h:=DZ (h:=Cz (h:=?_)));refine NZ 3 83 8 rfl (by repeat constructor) ?_;refine BL (fun n s=>∃k:Nat,k<=l.length/\n=l.length - k/\s=⟨look [(0, .sl 8 (l.map AW) none),(3, .sl 8 ((l.take k).map AW) (some 0)),(4, .v (.int .i64 (k:Int)))],⟨[],[(83,8,(l.take k).map AW)]⟩⟩) (l.length) ((wk 0 1)) (⟨0,BG _,rfl,rfl⟩) ?_;rintro n s ⟨k,hk,rfl,rfl⟩;refine EH (h:=JD (h:=?_));refine A3 rfl (fun kd ka=>?_) (fun kd ka=>?_)
 ·obtain⟨hlt,r,hr,ya,e⟩:=Bx AW ka;refine Bq (h:=BU (h:=Cp (h:=E6 (h:=?_))));refine AK (Sf r (hl r (Aj hr))) ?_;refine BT (h:=G8 (h:=a_ (h:=Bu (Bz (t_ (Aq (m_ (h:=Ez (h:=a_ (h:=Bu (AT (?_))))))))))));refine⟨_,_,?_,⟨k+1,by omega,rfl,rfl⟩,?_⟩
  ·omega
  rw[e];exact(wk 0 1)
 have e:=CA AW hk ka;subst e;rw[List.take_length];refine C4 (h:=EW (h:=?_));refine A4 ?_;rfl
end
def Bi(l:List Rul)(r:Rul)(front:Bool):List Rul×Int:=
 if Ea l≠0 then([],Ea l)else if BK r≠0 then([],BK r)else if 0<=JO l r then([],141)else if 24<=(l.length:Int)then([],140)else(if front=true then r::l else l++[r],0)
def yX(l:List Rul)(r:Rul):List Rul×Int:=
 if Ea l≠0 then([],Ea l)else if JO l r<0 then([],142)else(l.eraseIdx (JO l r).toNat,0)
def Eb(x:List Rul×Int):AV:= .tup [.sl 8 (x.1.map AW) none, .v (.int .i64 x.2)]
theorem cJ{l:List Rul}(h:¬Ea l≠0):(l.length:Int)<=24:=by
 unfold Ea at h;split at h
 ·simp at h
 omega
theorem JP{x:List Rul×Int}{e:Int}(h:x=([],e)):LeA (.tup [.v (.slice none 0 0), .v (.int .i64 e)]) (Eb x):=by
 rw[h];exact(by repeat (first|exact A6 _|exact LeA.nil _|exact LeL.refl _|refine LeA.agg ?_|refine LeA.tup ?_|exact LeL.nil|refine LeL.cons ?_ ?_|exact LeA.any _))
theorem Sg{x:List Rul×Int}{l:List Rul}{e:Int}(h:x=(l,e)):LeA (.tup [.sl 8 (l.map AW) none, .v (.int .i64 e)]) (Eb x):=by
 rw[h];exact A6 _
section
theorem uA(l:List Rul)(r:Rul)(hl:l.length<=1000)(hi:∀r∈l,Dz r)(hr:Dz r):AFn prog 66 [.sl 8 (l.map AW) none, .agg (AW r), .v (.bool true)] (fun x=>x=Eb (Bi l r true)):=by
 refine enter Tryz.func66 rfl rfl rfl rfl rfl 0 rfl ?_;refine Ee (h:=Jq (h:=?_));refine AK (Vm l hl hi) ?_;refine Gs (h:=?_);refine A3 rfl (fun kd ka=>?_) (fun kd ka=>?_)
 ·refine Ab (h:=DY (h:=?_));refine AO (r:=Eb (Bi l r true)) none (h5:=?_) (h6:=⟨rfl,rfl,rfl⟩);exact JP (by simp[Bi, *])
 refine FA (h:=Bw (h:=?_));refine AK (Vj r hr) ?_;refine Gs (h:=?_);refine A3 rfl (fun ke kc=>?_) (fun ke kc=>?_)
 ·refine Ab (h:=DY (h:=?_));refine AO (r:=Eb (Bi l r true)) none (h5:=?_) (h6:=⟨rfl,rfl,rfl⟩);exact JP (by simp[Bi, *])
 refine D5 (h:=l_ (h:=?_));refine AK (Vk l r hl fun x hx=>(hi x hx).2.2.2) ?_;refine Dt (h:=e_ (?_));refine A3 rfl (fun kh kf=>?_) (fun kh kf=>?_)
 ·refine w_ (DY (h:=?_));refine AO (r:=Eb (Bi l r true)) none (h5:=?_) (h6:=⟨rfl,rfl,rfl⟩);exact JP (by simp[Bi, *])
 refine D5 (h:=n_ (h:=Dt (h:=e_ (?_))));refine A3 rfl (fun kl kg=>?_) (fun kl kg=>?_)
 ·refine w_ (DY (h:=?_));refine AO (r:=Eb (Bi l r true)) none (h5:=?_) (h6:=⟨rfl,rfl,rfl⟩);exact JP (by rw[List.length_map]at kg;simp[Bi, *])
 have h4:¬24<=(l.length:Int):=by rw[List.length_map]at kg;omega
 refine Ei (h:=n_ (h:=Ez (h:=Ti (h:=Du (h:=e_ (?_))))));refine A3 rfl (fun ko kk=>?_) (fun ko kk=>?_)
 ·refine BU (h:=l_ (h:=?_));refine AK (Se r hr.2.2.2) ?_;refine BT (h:=G8 (h:=a_ (h:=e_ (q_ (w_ (m_ (h:=n_ (h:=m_ (h:=e_ (BF (?_)))))))))));refine BL (fun n s=>∃j:Nat,j<=l.length/\n=l.length - j/\s=⟨look [(2, .v (.bool true)),(4, .bp 0 0),(10, .sl 8 ((r::l.take j).map AW) (some 0)),(40, .sl 8 (l.map AW) none),(41, .v (.int .i64 ((l.map AW).length:Int))),(42, .v (.int .i64 (j:Int)))],⟨[AW r],[(83,8,(r::l.take j).map AW)]⟩⟩) (l.length) ((wk 1 1)) (⟨0,BG _,rfl,rfl⟩) ?_;rintro n s ⟨j,hj,rfl,rfl⟩;refine Fz (h:=?_);refine A3 rfl (fun kq km=>?_) (fun kq km=>?_)
  ·obtain⟨hlt,x,hx,ya,e⟩:=Bx AW km;refine Bq (h:=w_ (E6 (h:=CP (h:=BU (h:=l_ (h:=?_))))));refine AK (Se x (hi x (Aj hx)).2.2.2) ?_;refine BT (h:=G8 (h:=a_ (h:=Bu (Bz (t_ (Aq (Ez (h:=m_ (h:=Bu (AT (?_)))))))))));refine⟨_,_,?_,⟨j+1,by omega,rfl,rfl⟩,?_⟩
   ·omega
   rw[show(r::l.take (j+1)).map AW=(r::l.take j).map AW++[AW x] by rw[List.map_cons,e];rfl];exact(wk 1 1)
  have e:=CA AW hj km;subst e;rw[List.take_length];refine C4 (h:=Be (h:=CY (h:=?_)));refine A3 rfl (fun ks kp=>?_) (fun ks kp=>?_)
  ·exact Cx
  refine Ei (h:=a_ (h:=BW (h:=?_)));refine AO (r:=Eb (Bi l r true)) none (h5:=?_) (h6:=⟨rfl,rfl,rfl⟩);exact Sg (l:=r::l) (by simp[Bi, *])
 exact Cx
theorem uB(l:List Rul)(r:Rul)(hl:l.length<=1000)(hi:∀r∈l,Dz r)(hr:Dz r):AFn prog 66 [.sl 8 (l.map AW) none, .agg (AW r), .v (.bool false)] (fun x=>x=Eb (Bi l r false)):=by
 refine enter Tryz.func66 rfl rfl rfl rfl rfl 0 rfl ?_;refine Ee (h:=Jq (h:=?_));refine AK (Vm l hl hi) ?_;refine Gs (h:=?_);refine A3 rfl (fun kd ka=>?_) (fun kd ka=>?_)
 ·refine Ab (h:=DY (h:=?_));refine AO (r:=Eb (Bi l r false)) none (h5:=?_) (h6:=⟨rfl,rfl,rfl⟩);exact JP (by simp[Bi, *])
 refine FA (h:=Bw (h:=?_));refine AK (Vj r hr) ?_;refine Gs (h:=?_);refine A3 rfl (fun ke kc=>?_) (fun ke kc=>?_)
 ·refine Ab (h:=DY (h:=?_));refine AO (r:=Eb (Bi l r false)) none (h5:=?_) (h6:=⟨rfl,rfl,rfl⟩);exact JP (by simp[Bi, *])
 refine D5 (h:=l_ (h:=?_));refine AK (Vk l r hl fun x hx=>(hi x hx).2.2.2) ?_;refine Dt (h:=e_ (?_));refine A3 rfl (fun kh kf=>?_) (fun kh kf=>?_)
 ·refine w_ (DY (h:=?_));refine AO (r:=Eb (Bi l r false)) none (h5:=?_) (h6:=⟨rfl,rfl,rfl⟩);exact JP (by simp[Bi, *])
 refine D5 (h:=n_ (h:=Dt (h:=e_ (?_))));refine A3 rfl (fun kl kg=>?_) (fun kl kg=>?_)
 ·refine w_ (DY (h:=?_));refine AO (r:=Eb (Bi l r false)) none (h5:=?_) (h6:=⟨rfl,rfl,rfl⟩);exact JP (by rw[List.length_map]at kg;simp[Bi, *])
 have h4:¬24<=(l.length:Int):=by rw[List.length_map]at kg;omega
 refine Ei (h:=n_ (h:=Ez (h:=Ti (h:=Du (h:=e_ (?_))))));refine A3 rfl (fun ko kk=>?_) (fun ko kk=>?_)
 ·exact Cx
 refine D5 (h:=GU (h:=e_ (BF (?_))));refine BL (fun n s=>∃j:Nat,j<=l.length/\n=l.length - j/\s=⟨look [(2, .v (.bool false)),(4, .bp 0 0),(10, .sl 8 ((l.take j).map AW) (some 0)),(40, .sl 8 (l.map AW) none),(41, .v (.int .i64 ((l.map AW).length:Int))),(42, .v (.int .i64 (j:Int)))],⟨[AW r],[(83,8,(l.take j).map AW)]⟩⟩) (l.length) ((wk 1 1)) (⟨0,BG _,rfl,rfl⟩) ?_;rintro n s ⟨j,hj,rfl,rfl⟩;refine Fz (h:=?_);refine A3 rfl (fun kq km=>?_) (fun kq km=>?_)
 ·obtain⟨hlt,x,hx,ya,e⟩:=Bx AW km;refine Bq (h:=w_ (E6 (h:=CP (h:=BU (h:=l_ (h:=?_))))));refine AK (Se x (hi x (Aj hx)).2.2.2) ?_;refine BT (h:=G8 (h:=a_ (h:=Bu (Bz (t_ (Aq (Ez (h:=m_ (h:=Bu (AT (?_)))))))))));refine⟨_,_,?_,⟨j+1,by omega,rfl,rfl⟩,?_⟩
  ·omega
  rw[e];exact(wk 1 1)
 have e:=CA AW hj km;subst e;rw[List.take_length];refine C4 (h:=Be (h:=CY (h:=?_)));refine A3 rfl (fun ks kp=>?_) (fun ks kp=>?_)
 ·refine BU (h:=l_ (h:=?_));refine AK (Se r hr.2.2.2) ?_;refine BT (h:=G8 (h:=a_ (h:=e_ (w_ (m_ (h:=a_ (h:=a_ (h:=e_ (BH (?_))))))))));refine AO (r:=Eb (Bi l r false)) none (h5:=?_) (h6:=⟨rfl,rfl,rfl⟩);have:=Sg (x:=Bi l r false) (l:=l++[r]) (e:=0) (by simp[Bi, *]);rw[List.map_append]at this;exact this
 exact Cx
theorem uC(l:List Rul)(r:Rul)(front:Bool)(hl:l.length<=1000)(hi:∀r∈l,Dz r)(hr:Dz r):AFn prog 66 [.sl 8 (l.map AW) none, .agg (AW r), .v (.bool front)] (fun x=>x=Eb (Bi l r front)):=by
 cases front
 ·exact uB l r hl hi hr
 exact uA l r hl hi hr
end
section
theorem uD(l:List Rul)(r:Rul)(hl:l.length<=1000)(hi:∀r∈l,Dz r)(hr:Dz r):AFn prog 61 [.sl 8 (l.map AW) none, .agg (AW r), .v (.bool true)] (fun x=>x=Eb (Bi l r true)):=by
 refine enter Tryz.func61 rfl rfl rfl rfl rfl 0 rfl ?_;refine Ee (h:=Jq (h:=?_));refine AK (cH l hl hi) ?_;refine Gs (h:=?_);refine A3 rfl (fun kd ka=>?_) (fun kd ka=>?_)
 ·refine Ab (h:=DY (h:=?_));refine AO (r:=Eb (Bi l r true)) none (h5:=?_) (h6:=⟨rfl,rfl,rfl⟩);exact JP (by simp[Bi, *])
 refine FA (h:=Bw (h:=?_));refine AK (Sc r hr) ?_;refine Gs (h:=?_);refine A3 rfl (fun ke kc=>?_) (fun ke kc=>?_)
 ·refine Ab (h:=DY (h:=?_));refine AO (r:=Eb (Bi l r true)) none (h5:=?_) (h6:=⟨rfl,rfl,rfl⟩);exact JP (by simp[Bi, *])
 refine D5 (h:=l_ (h:=?_));refine AK (Vl l r hl fun x hx=>(hi x hx).2.2.2) ?_;refine Dt (h:=e_ (?_));refine A3 rfl (fun kh kf=>?_) (fun kh kf=>?_)
 ·refine w_ (DY (h:=?_));refine AO (r:=Eb (Bi l r true)) none (h5:=?_) (h6:=⟨rfl,rfl,rfl⟩);exact JP (by simp[Bi, *])
 refine D5 (h:=n_ (h:=BO (h:=?_)));refine A3 rfl (fun kl kg=>?_) (fun kl kg=>?_)
 ·rw[List.length_map]at kg;refine w_ (DY (h:=?_));refine AO (r:=Eb (Bi l r true)) none (h5:=?_) (h6:=⟨rfl,rfl,rfl⟩);exact JP (by simp[Bi, *])
 rw[List.length_map]at kg;have h5:=cJ (not_not_intro ka);have h4:¬24<=(l.length:Int):=by omega
 refine D5 (h:=e_ (?_));refine A3 rfl (fun ko kk=>?_) (fun ko kk=>?_)
 ·refine Bw (h:=?_);refine AK (Sf r hr.2.2.2) ?_;refine A7 (Wp (by repeat (first|exact DenseA.nil _|(apply DenseA.cons;(focus exact rfl);(focus exact rfl);(focus exact rfl);(focus exact rfl))|(apply DenseA.consE;(focus exact rfl);(focus exact rfl);(focus exact rfl)))) rfl rfl rfl rfl (by repeat constructor) ?_);refine m_ (h:=?_);refine AK (tZ l hl fun x hx=>(hi x hx).2.2.2) ?_;refine G8 (h:=a_ (h:=a_ (h:=e_ (BH (Bp (?_))))));refine AO (r:=Eb (Bi l r true)) none (h5:=?_) (h6:=⟨rfl,rfl,rfl⟩);exact Sg (l:=r::l) (by simp[Bi, *])
 exact Cx
theorem uE(l:List Rul)(r:Rul)(hl:l.length<=1000)(hi:∀r∈l,Dz r)(hr:Dz r):AFn prog 61 [.sl 8 (l.map AW) none, .agg (AW r), .v (.bool false)] (fun x=>x=Eb (Bi l r false)):=by
 refine enter Tryz.func61 rfl rfl rfl rfl rfl 0 rfl ?_;refine Ee (h:=Jq (h:=?_));refine AK (cH l hl hi) ?_;refine Gs (h:=?_);refine A3 rfl (fun kd ka=>?_) (fun kd ka=>?_)
 ·refine Ab (h:=DY (h:=?_));refine AO (r:=Eb (Bi l r false)) none (h5:=?_) (h6:=⟨rfl,rfl,rfl⟩);exact JP (by simp[Bi, *])
 refine FA (h:=Bw (h:=?_));refine AK (Sc r hr) ?_;refine Gs (h:=?_);refine A3 rfl (fun ke kc=>?_) (fun ke kc=>?_)
 ·refine Ab (h:=DY (h:=?_));refine AO (r:=Eb (Bi l r false)) none (h5:=?_) (h6:=⟨rfl,rfl,rfl⟩);exact JP (by simp[Bi, *])
 refine D5 (h:=l_ (h:=?_));refine AK (Vl l r hl fun x hx=>(hi x hx).2.2.2) ?_;refine Dt (h:=e_ (?_));refine A3 rfl (fun kh kf=>?_) (fun kh kf=>?_)
 ·refine w_ (DY (h:=?_));refine AO (r:=Eb (Bi l r false)) none (h5:=?_) (h6:=⟨rfl,rfl,rfl⟩);exact JP (by simp[Bi, *])
 refine D5 (h:=n_ (h:=BO (h:=?_)));refine A3 rfl (fun kl kg=>?_) (fun kl kg=>?_)
 ·rw[List.length_map]at kg;refine w_ (DY (h:=?_));refine AO (r:=Eb (Bi l r false)) none (h5:=?_) (h6:=⟨rfl,rfl,rfl⟩);exact JP (by simp[Bi, *])
 rw[List.length_map]at kg;have h5:=cJ (not_not_intro ka);have h4:¬24<=(l.length:Int):=by omega
 refine D5 (h:=e_ (?_));refine A3 rfl (fun ko kk=>?_) (fun ko kk=>?_)
 ·exact Cx
 refine AG (q_ (BJ ([(0,AW r)]) 8 (h:=AE 0 (h:=?_))));refine A9 2 (h:=?_);refine c_ 1 rfl (TQ rfl (by repeat (first|exact Args.nil|refine Args.cons _ _ _ _ _ rfl (LP rfl) ?_|refine Args.cons _ _ _ _ _ rfl (MK _) ?_|refine Args.cons _ _ _ _ _ rfl (Lq _) ?_|refine Args.cons _ _ _ _ _ rfl (MM rfl (by repeat (first|exact A6 _|exact LeA.nil _|exact LeL.refl _|refine LeA.agg ?_|refine LeA.tup ?_|exact LeL.nil|refine LeL.cons ?_ ?_|exact LeA.any _))) ?_)) (tY l hl fun x hx=>(hi x hx).2.2.2) (fun _=>rfl) (by repeat constructor) ?_);refine o_ (h:=c_ 3 rfl (AX (Sf r hr.2.2.2) ?_));rintro r rfl;refine o_ (h:=KR 4 (h:=?_));refine c_ 5 rfl (G7 rfl rfl rfl (by simp<;>omega) (by repeat constructor) ?_);refine o_ (h:=B8 6 (h:=B8 7 (h:=z_ (h:=t_ (BH (?_))))));refine AO (r:=Eb (Bi l r false)) none (h5:=?_) (h6:=⟨rfl,rfl,rfl⟩);have:=Sg (x:=Bi l r false) (l:=l++[r]) (e:=0) (by simp[Bi, *]);rw[List.map_append]at this;exact this
theorem cK(l:List Rul)(r:Rul)(front:Bool)(hl:l.length<=1000)(hi:∀r∈l,Dz r)(hr:Dz r):AFn prog 61 [.sl 8 (l.map AW) none, .agg (AW r), .v (.bool front)] (fun x=>x=Eb (Bi l r front)):=by
 cases front
 ·exact uE l r hl hi hr
 exact uD l r hl hi hr
end
def uF(u:Int):Ctx:=⟨2,0,0,u,0,0,0,0,0,(0,0),⟨#[]⟩,⟨#[]⟩,false,0,0,0,0,0,0,[],0⟩
def PC:Cxs:=⟨[],[],[]⟩
structure Pol where
 rules:List Rul
 wats:List Wch
deriving DecidableEq
def C8(p:Pol):List AV:=[.sl 8 (p.rules.map AW) none, .sl 6 (p.wats.map Dj) none]
def JA:Pol:=⟨[],[]⟩
def JQ(x:Pol×Int):AV:= .tup [.agg (C8 x.1), .v (.int .i64 x.2)]
def Cu(s:Spc)(r:Rul):Wch×Int:=if r.watch=0 then(G6,0)else if(NO s r.watch r.path).2≠0 then(G6,180)else((NO s r.watch r.path).1,0)
def ME(s:Spc)(l:List Rul):Pol×Int:=if Ea l≠0 then(JA,Ea l)else if l.all (fun r=>decide ((Cu s r).2=0))=true then(⟨l,l.map fun r=>(Cu s r).1⟩,0)else(JA,180)
def EQ(s:Spc)(p:Pol)(r:Rul)(front:Bool):Pol×Int:=
 if(Bi p.rules r front).2≠0 then(JA,(Bi p.rules r front).2)else if(Cu s r).2≠0 then(JA,(Cu s r).2)
 else(⟨(Bi p.rules r front).1,if front=true then(Cu s r).1::p.wats else p.wats++[(Cu s r).1]⟩,0)
theorem uG(s:Spc)(r:Rul):(Cu s r).2=0\/(Cu s r).2=180:=by
 unfold Cu;split
 ·exact .inl rfl
 split
 ·exact .inr rfl
 exact .inl rfl
section
theorem uH(s:Spc)(r:Rul)(hv:SpcV s)(hm:s.mounts.length<=1000)(hr:Dz r):AFn prog 86 [.agg (AQ s), .agg (AW r)] (fun x=>x=PA (Cu s r)):=by
 obtain⟨F,hF⟩:∃F,NO s r.watch r.path=F:=⟨_,rfl⟩;have ml:AFn prog 128 [.agg (AQ s), .v (.int .i64 r.watch), .v (.string r.path)] (fun x=>x= .tup [.agg (Dj F.1), .v (.int .i64 F.2)]):=by rw[<-hF];exact tH s r.watch r.path hv hm hr.2.2.1
 have hw:Cu s r=if r.watch=0 then(G6,0)else if F.2≠0 then(G6,180)else(F.1,0):=by rw[Cu,hF]
 refine enter Tryz.func86 rfl rfl rfl rfl rfl 0 rfl ?_;refine Ef (h:=GT (h:=BO (h:=?_)));refine A3 rfl (fun kd ka=>?_) (fun kd ka=>?_)
 ·have k1:r.watch=0:=ka;refine Bj (h:=?_);refine A4 ?_;rw[hw,if_pos k1];rfl
 have k1:¬r.watch=0:=ka;refine AG (Bw (h:=Je (h:=?_)));refine AK (ml) ?_;refine Js (h:=?_);refine A3 rfl (fun ke kc=>?_) (fun ke kc=>?_)
 ·have k2:F.2≠0:=by simpa using kc
  refine Bj (h:=?_);refine A4 ?_;rw[hw,if_neg k1,if_pos k2];rfl
 have k2:¬F.2≠0:=by simpa using kc
 refine AG (Jp (h:=?_));refine A4 ?_;rw[hw,if_neg k1,if_neg k2];rfl
theorem cL(s:Spc)(r:Rul)(hv:SpcV s)(hm:s.mounts.length<=1000)(hr:Dz r):AFn prog 90 [.agg (AW r), .agg (AQ s)] (fun x=>x=PA (Cu s r)):=by
 obtain⟨F,hF⟩:∃F,NO s r.watch r.path=F:=⟨_,rfl⟩;have ml:AFn prog 130 [.agg (AQ s), .v (.int .i64 r.watch), .v (.string r.path)] (fun x=>x= .tup [.agg (Dj F.1), .v (.int .i64 F.2)]):=by rw[<-hF];exact tG s r.watch r.path hv hm hr.2.2.1
 have hw:Cu s r=if r.watch=0 then(G6,0)else if F.2≠0 then(G6,180)else(F.1,0):=by rw[Cu,hF]
 refine enter Tryz.func90 rfl rfl rfl rfl rfl 0 rfl ?_;refine Ef (h:=GT (h:=BO (h:=?_)));refine A3 rfl (fun kd ka=>?_) (fun kd ka=>?_)
 ·have k1:r.watch=0:=ka;refine Bj (h:=?_);refine A4 ?_;rw[hw,if_pos k1];rfl
 have k1:¬r.watch=0:=ka;refine AG (Bw (h:=Je (h:=?_)));refine AK (ml) ?_;refine Js (h:=?_);refine A3 rfl (fun ke kc=>?_) (fun ke kc=>?_)
 ·have k2:F.2≠0:=by simpa using kc
  refine Bj (h:=?_);refine A4 ?_;rw[hw,if_neg k1,if_pos k2];rfl
 have k2:¬F.2≠0:=by simpa using kc
 refine AG (Jp (h:=?_));refine A4 ?_;rw[hw,if_neg k1,if_neg k2];rfl
theorem cM(p:Pol)(i:Nat)(x:Wch)(hl:p.wats.length<=1000)(hx:p.wats[i]?=some x):AFn prog 70 [.agg (C8 p), .v (.int .i64 (i:Int))] (fun r=>r= .agg (Dj x)):=by
 have hlt:i<p.wats.length:=(AZ.1 hx).1;have ya:(p.wats.map Dj)[i]?=some (Dj x):=by rw[List.getElem?_map,hx];rfl
 refine enter Tryz.func70 rfl rfl rfl rfl rfl 0 rfl ?_;refine E5 (h:=e_ (Be (h:=EG (h:=?_))));refine AF false rfl rfl (fun kd ka=>?_) (fun kd ka=>?_)
 ·exact Cx
 refine m_ (h:=Gr (h:=Dt (h:=Cq (h:=?_))));refine A3 rfl (fun ke kc=>?_) (fun ke kc=>?_)
 ·have kc:=bp ke;simp at kc;omega
 refine AG (F8 (h:=E6 (h:=GF (h:=BH (?_)))));refine A4 ?_;rfl
theorem uJ(r:Rul)(hr:r.tests.length<=1000):AFn prog 87 [.agg (AW r)] (fun x=>x= .agg (AW r)):=by
 refine enter Tryz.func87 rfl rfl rfl rfl rfl 0 rfl ?_;refine E5 (h:=e_ (B2 (h:=?_)));refine AK (cG r.tests hr) ?_;refine Cg (h:=EX (h:=?_));refine A4 ?_;rfl
end
def KG(s:Spc)(l:List Rul):List Wch:=l.map fun r=>(Cu s r).1
theorem uK{s:Spc}{l:List Rul}{j:Nat}{r:Rul}(h:l[j]?=some r):(KG s (l.take (j+1))).map Dj=(KG s (l.take j)).map Dj++[Dj (Cu s r).1]:=by
 simp[KG,List.take_add_one,h]
theorem uL{s:Spc}{l:List Rul}{j:Nat}{r:Rul}(h:l[j]?=some r)(ha:∀r∈l.take j,(Cu s r).2=0)(hr:(Cu s r).2=0):∀r∈l.take (j+1),(Cu s r).2=0:=by
 intro x hx;rw[List.take_add_one,h]at hx;rcases List.mem_append.1 hx with hx|hx
 ·exact ha x hx
 have e:x=r:=by simpa using hx
 rw[e];exact hr
theorem uM{s:Spc}{l:List Rul}(h:Ea l≠0):ME s l=(JA,Ea l):=by rw[ME,if_pos h]
theorem uN{s:Spc}{l:List Rul}{r:Rul}(h:¬Ea l≠0)(hr:r∈l)(hp:(Cu s r).2≠0):ME s l=(JA,(Cu s r).2):=by
 rw[ME,if_neg h,if_neg]
 ·rcases uG s r with e|e
  ·exact absurd e hp
  rw[e]
 intro k;exact hp (of_decide_eq_true (List.all_eq_true.1 k r hr))
theorem cO{s:Spc}{l:List Rul}(h:¬Ea l≠0)(ha:∀r∈l,(Cu s r).2=0):ME s l=(⟨l,KG s l⟩,0):=by
 rw[ME,if_neg h,if_pos]
 ·rfl
 exact List.all_eq_true.2 fun r hr=>decide_eq_true (ha r hr)
theorem NP{x:Pol×Int}{e:Int}(h:x=(JA,e)):LeA (.tup [.agg [.v (.slice none 0 0), .v (.slice none 0 0)], .v (.int .i64 e)]) (JQ x):=by
 rw[h];exact(by repeat (first|exact A6 _|exact LeA.nil _|exact LeL.refl _|refine LeA.agg ?_|refine LeA.tup ?_|exact LeL.nil|refine LeL.cons ?_ ?_|exact LeA.any _))
section
theorem uO(s:Spc)(r:Rul)(h0:r.watch=0):AFn prog 86 [.agg (AQ s), .agg (AW r)] (fun x=>x=PA (Cu s r)):=by
 have hw:Cu s r=(G6,0):=if_pos h0;refine enter Tryz.func86 rfl rfl rfl rfl rfl 0 rfl ?_;refine Ef (h:=GT (h:=BO (h:=?_)));refine A3 rfl (fun kd ka=>?_) (fun kd ka=>?_)
 ·refine Bj (h:=?_);refine A4 ?_;rw[hw];rfl
 exact Cx
theorem uP(s:Spc)(l:List Rul)(hl:l.length<=1000)(hi:∀r∈l,Dz r)(hplc0:∀r,r∈l->AFn prog 86 [.agg (AQ s), .agg (AW r)] (fun x=>x=PA (Cu s r))):AFn prog 41 [.sl 8 (l.map AW) none, .agg (AQ s)] (fun x=>x=JQ (ME s l)):=by
 have ml:∀r,r∈l->AFn prog 86 [.agg (AQ s), .agg (AW r)] (fun x=>x= .tup [.agg (Dj (Cu s r).1), .v (.int .i64 (Cu s r).2)]):=hplc0;refine enter Tryz.func41 rfl rfl rfl rfl rfl 0 rfl ?_;refine E5 (h:=Du (h:=?_));refine AK (Vm l hl hi) ?_;refine Gs (h:=?_);refine A3 rfl (fun kd ka=>?_) (fun kd ka=>?_)
 ·have k1:Ea l≠0:=by simpa using ka
  refine w_ (Jt (h:=?_));refine AO (r:=JQ (ME s l)) none (h5:=?_) (h6:=⟨rfl,rfl,rfl⟩);exact NP (uM k1)
 have k1:¬Ea l≠0:=by simpa using ka
 refine AG (w_ (Ck (h:=e_ (Be (h:=GU (h:=e_ (BF (?_))))))));refine MN 2 0 83 8 rfl rfl (by repeat constructor) (by repeat constructor) (by repeat constructor) ?_;refine MN 2 1 93 6 rfl rfl (by repeat constructor) (by repeat constructor) (by repeat constructor) ?_;refine BL (fun n S=>∃j:Nat,j<=l.length/\n=l.length - j/\(∀r∈l.take j,(Cu s r).2=0)/\S=⟨look [(3, .bp 0 0),(4, .bp 1 0),(7, .bp 2 0),(18, .sl 8 (l.map AW) none),(19, .v (.int .i64 ((l.map AW).length:Int))),(20, .v (.int .i64 (j:Int)))],⟨[AQ s,[.v (.slice none 0 0), .v (.slice none 0 0)],[.sl 8 ((l.take j).map AW) (some 0), .sl 6 ((KG s (l.take j)).map Dj) (some 1)]],[(83,8,(l.take j).map AW),(93,6,(KG s (l.take j)).map Dj)]⟩⟩) (l.length) ((wk 3 2)) (⟨0,BG _,rfl,by simp,rfl⟩) ?_;rintro n S ⟨j,hj,rfl,ha,rfl⟩;refine Fz (h:=?_);refine A3 rfl (fun ke kc=>?_) (fun ke kc=>?_)
 ·obtain⟨hlt,r,hy,ya,e⟩:=Bx AW kc;refine Bq (h:=w_ (E6 (h:=CP (h:=C9 (h:=?_)))));refine AK (ml r (Aj hy)) ?_;refine Js (h:=?_);refine A3 rfl (fun kh kf=>?_) (fun kh kf=>?_)
  ·have k2:(Cu s r).2≠0:=by simpa using kf
   refine w_ (Jt (h:=DG (h:=C1 (h:=?_))));refine AO (r:=JQ (ME s l)) none (h5:=?_) (h6:=⟨rfl,rfl,rfl⟩);exact NP (uN k1 (Aj hy) k2)
  have k2:(Cu s r).2=0:=by simpa using kf
  refine AG (q_ (BJ ([(0,AQ s),(1,[.v (.slice none 0 0), .v (.slice none 0 0)]),(2,[.sl 8 ((l.take j).map AW) (some 0), .sl 6 ((KG s (l.take j)).map Dj) (some 1)]),(3,AW r)]) 6 (h:=AA 0 (h:=A9 1 (h:=A9 2 (h:=?_))))));refine c_ 3 rfl (AX (uJ r (hi r (Aj hy)).2.2.2) ?_);rintro r rfl;refine o_ (h:=KR 4 (h:=?_));refine c_ 5 rfl (G7 rfl rfl rfl (by simp[KG]<;>omega) (by repeat constructor) ?_);refine o_ (h:=c_ 6 rfl (H4 rfl ?_));refine o_ (h:=Ax 7 (h:=z_ (h:=t_ (Aq (f_ (h:=l_ (h:=l_ (h:=BT (h:=?_)))))))));refine A7 (G7 rfl rfl rfl (by simp[KG]<;>omega) (by repeat constructor) ?_);refine Cy (h:=Bu (Bz (t_ (Aq (GV (h:=?_))))));refine⟨_,_,?_,⟨j+1,by omega,rfl,uL hy ha k2,rfl⟩,?_⟩
  ·omega
  rw[e,uK hy];exact(wk 3 2)
 have e:=CA AW hj kc;subst e;rw[List.take_length]at ha ⊢;refine C4 (h:=Jp (h:=?_));refine A4 ?_;rw[cO k1 ha];rfl
end
section
theorem uQ(l:List Int)(a:Nat)(ha:a<=100000000000):GenF prog 84 l a [] 4 (fun r=>∃s:ByteArray,r= .v (.string s)/\s.size<=60):=by
 refine enter Tryz.func84 rfl rfl rfl rfl rfl 1 rfl ?_;refine DZ (h:=GE (h:=BT (h:=?_)));refine A7 (B0 0 (hc:=Hd l _ _ (fun z=>decide (1<=z/\z<=3)) (by omega) (by rfl) (by rfl) (by rfl)) (hR:=?_));rintro r a1 ha1 ⟨k1,rfl,p1⟩;refine B1 ?_;obtain⟨hz1,hz2⟩:=of_decide_eq_true p1;obtain⟨m,rfl⟩:=Int.eq_ofNat_of_zero_le (show 0<=k1 by omega);refine Ay (h:=BF (?_));refine BL (fun n s=>∃(j a1:Nat) (t:ByteArray),j<=m/\n=j/\a1<=a+1+(m - j)/\t.size<=2 * (m - j)/\s=⟨look [(0, .bp 0 0),(3, .v (.string t)),(4, .v (.int .i64 (j:Int)))],⟨[EE l a1],[]⟩⟩) (m) ((wk 1 0)) (⟨m,a1,⟨#[]⟩,by omega,rfl,by omega,by rw[Nat.sub_self];exact As 0,rfl⟩) ?_;rintro n s ⟨j,b1,t,hj,hn,kd,ht,rfl⟩;subst n;refine Be (h:=ET (h:=e_ (?_)));refine A3 rfl (fun kd ka=>?_) (fun kd ka=>?_)
 ·refine Bq (h:=HU (h:=BT (h:=?_)));refine A7 (B0 0 (hc:=NG l _ _ (fun s=>decide (s.size<=1)) (by omega) (by rfl) (by rfl) (by rfl)) (hR:=?_));rintro r a2 ha2 ⟨k2,rfl,p2⟩;refine B1 ?_;have hw:=of_decide_eq_true p2;refine A7 (Hl rfl rfl (by show 1+k2.size<=_;omega) ?_);refine A7 (Hl rfl rfl (by have e:=ByteArray.size_append (a:=⟨#[47]⟩) (b:=k2);have:(⟨#[47]⟩:ByteArray).size=1:=rfl;omega) ?_);refine Ht (h:=Bz (t_ (BU (h:=LQ (h:=D4 (h:=?_))))));obtain⟨j,rfl⟩:∃i,j=i+1:=⟨j - 1,by omega⟩;refine⟨_,_,?_,⟨j,_,_,by omega,rfl,?_,?_,rfl⟩,At 1 0 rfl rfl rfl rfl (by repeat (first|exact Sub.nil|refine Aw rfl rfl ?_|(apply Sub.of;(focus exact rfl);(focus exact LeA.of_eq (vi (by omega)));(focus exact rfl))))⟩
  ·omega
  ·omega
  have e:=ByteArray.size_append (a:=⟨#[47]⟩) (b:=k2);have e2:=ByteArray.size_append (a:=t) (b:=⟨#[47]⟩++k2);have:(⟨#[47]⟩:ByteArray).size=1:=rfl;omega
 refine C4 (h:=EW (h:=?_));refine AO none (h5:=(A6 _)) (h6:=⟨_,rfl,rfl,b1,by omega,rfl,t,rfl,by omega⟩)
end
def Bare(s:Spc):Prop:=FlsV s.files/\0<s.files.length/\s.mounts=[]
theorem Bare.v{s:Spc}(h:Bare s):SpcV s:=⟨h.1,h.2.1,fun i m hm=>by rw[h.2.2]at hm;cases hm⟩
theorem Bare.m{s:Spc}(h:Bare s):s.mounts.length<=1000:=by rw[h.2.2];exact BG _
theorem Kn:TabB EZ:=⟨BG _,(fun p hp=>by cases hp),by decide,by decide⟩
theorem uR{t:Tab}(ht:TabB t)(pid:Int)(a:A8)(fl:Int):TabB (Gz t pid a fl).1:=by
 unfold Gz;split
 ·exact Kn
 split
 ·exact Kn
 rename_i h8;refine⟨by simpa[Jh]using ht.few,fun p hp=>?_,ht.next,ht.nextS⟩;simp only[Jh,List.mem_map]at hp;obtain⟨x,hx,rfl⟩:=hp;split
 ·simp[Ox];omega
 exact ht.opens x hx
theorem cQ{w:Wrk}{R:Tab×Int}(h:TabB w.s.tab)(hR:TabB R.1):TabB (CV w R).1.s.tab:=by
 unfold CV;split
 ·exact hR
 exact h
theorem Vn(w:Wrk)(R:Tab×Int):(CV w R).1.s.spc=w.s.spc:=by
 unfold CV;split<;>rfl
def uS(s:Syst):Prop:=Bare s.spc/\TabB s.tab
theorem cR:uS (Ki 1).1:=by
 have h:=Yz (k:=1) (by decide) (by decide)
 have e:(Ki 1).1=⟨⟨(Gu 1).1,[]⟩,Ov (0,1)⟩:=by
  unfold Ki;rw[if_neg (by decide)]
 rw[e];exact⟨⟨h.1,h.2,rfl⟩,⟨by decide,by decide,by decide,by decide⟩⟩
section
variable (s:Spc)(p:Pol)(r:Rul)(hv:SpcV s)(hm:s.mounts.length<=1000)(h1:p.rules.length<=1000)(h2:p.wats.length=p.rules.length)(hi:∀r∈p.rules,Dz r)(hr:Dz r)
include hv hm h1 h2 hi hr
theorem Vo(front:Bool)(hf:front=false)(A:List Rul×Int)(hA:Bi p.rules r front=A)(W:Wch×Int)(hW:Cu s r=W):AFn prog 55 [.agg (C8 p), .agg (AQ s), .agg (AW r), .v (.bool false)] (fun x=>x=JQ (EQ s p r front)):=by
 have pm:AFn prog 66 [.sl 8 (p.rules.map AW) none, .agg (AW r), .v (.bool false)] (fun x=>x= .tup [.sl 8 (A.1.map AW) none, .v (.int .i64 A.2)]):=by rw[<-hA,hf];exact uC p.rules r false h1 hi hr
 have ml:AFn prog 86 [.agg (AQ s), .agg (AW r)] (fun x=>x= .tup [.agg (Dj W.1), .v (.int .i64 W.2)]):=by rw[<-hW];exact uH s r hv hm hr
 have heq:EQ s p r front=if A.2≠0 then(JA,A.2)else if W.2≠0 then(JA,W.2)else(⟨A.1,p.wats++[W.1]⟩,0):=by rw[EQ,hA,hW,hf];rfl
 refine enter Tryz.func55 rfl rfl rfl rfl rfl 0 rfl ?_;refine Fe (h:=b_ (h:=Ck (h:=Ay (h:=B2 (h:=GD (h:=?_))))));refine AK (pm) ?_;refine Ft (h:=Jq (h:=D3 (h:=?_)));refine A3 rfl (fun kd ka=>?_) (fun kd ka=>?_)
 ·have k1:A.2≠0:=by simpa using ka
  refine w_ (Jt (h:=?_));refine AO (r:=JQ (EQ s p r front)) none (h5:=?_) (h6:=⟨rfl,rfl,rfl⟩);exact NP (by rw[heq,if_pos k1])
 have k1:¬A.2≠0:=by simpa using ka
 refine AG (C9 (h:=?_));refine AK (ml) ?_;refine Js (h:=?_);refine A3 rfl (fun ke kc=>?_) (fun ke kc=>?_)
 ·have k2:W.2≠0:=by simpa using kc
  refine w_ (Jt (h:=?_));refine AO (r:=JQ (EQ s p r front)) none (h5:=?_) (h6:=⟨rfl,rfl,rfl⟩);exact NP (by rw[heq,if_neg k1,if_pos k2])
 have k2:¬W.2≠0:=by simpa using kc
 refine AG (GE (h:=e_ (?_)));refine A3 rfl (fun kh kf=>?_) (fun kh kf=>?_)
 ·exact Cx
 refine DF (h:=GU (h:=e_ (BF (?_))));refine NZ 13 93 6 rfl (by repeat constructor) ?_;refine BL (fun n S=>∃j:Nat,j<=p.rules.length/\n=p.rules.length - j/\S=⟨look [(3, .v (.bool false)),(4, .bp 0 0),(8, .bp 3 0),(10, .sl 8 (A.1.map AW) none),(12, .bp 4 0),(13, .sl 6 ((p.wats.take j).map Dj) (some 0)),(44, .v (.int .i64 ((p.rules.map AW).length:Int))),(45, .v (.int .i64 (j:Int)))],⟨[C8 p,AQ s,AW r,[.v (.slice none 0 0), .v (.slice none 0 0)],Dj W.1],[(93,6,(p.wats.take j).map Dj)]⟩⟩) (p.rules.length) ((wk 5 1)) (⟨0,BG _,rfl,rfl⟩) ?_;rintro n S ⟨j,hj,rfl,rfl⟩;refine Fz (h:=?_);refine A3 rfl (fun kl kg=>?_) (fun kl kg=>?_)
 ·obtain⟨hlt,r1,hy,ya, -⟩:=Bx AW kg;obtain⟨w,hyw⟩:∃w,p.wats[j]?=some w:=⟨_,B7 (by omega)⟩;refine Bq (h:=Ab (h:=Ay (h:=BU (h:=GD (h:=?_)))));refine AK (cM p j w (by omega) hyw) ?_;refine BT (h:=G8 (h:=a_ (h:=Bu (Bz (t_ (Aq (Ez (h:=m_ (h:=Bu (AT (?_)))))))))));refine⟨_,_,?_,⟨j+1,by omega,rfl,rfl⟩,?_⟩
  ·omega
  rw[show(p.wats.take (j+1)).map Dj=(p.wats.take j).map Dj++[Dj w] by rw[List.take_add_one,hyw,List.map_append];rfl];exact(wk 5 1)
 have e:=CA AW hj kg;subst e;rw[<-h2,List.take_length];refine C4 (h:=Be (h:=CY (h:=?_)));refine A3 rfl (fun ko kk=>?_) (fun ko kk=>?_)
 ·refine Aq (m_ (h:=l_ (h:=BT (h:=G8 (h:=a_ (h:=e_ (w_ (m_ (h:=m_ (h:=Bd (h:=s_ (h:=a_ (h:=e_ (BH (?_)))))))))))))));refine A4 ?_;rw[heq,if_neg k1,if_neg k2];simp[JQ,C8,List.map_append];rfl
 exact Cx
theorem uT(front:Bool)(hf:front=true)(A:List Rul×Int)(hA:Bi p.rules r front=A)(W:Wch×Int)(hW:Cu s r=W):AFn prog 57 [.agg (C8 p), .agg (AQ s), .agg (AW r), .v (.bool true)] (fun x=>x=JQ (EQ s p r front)):=by
 have pm:AFn prog 61 [.sl 8 (p.rules.map AW) none, .agg (AW r), .v (.bool true)] (fun x=>x= .tup [.sl 8 (A.1.map AW) none, .v (.int .i64 A.2)]):=by rw[<-hA,hf];exact cK p.rules r true h1 hi hr
 have ml:AFn prog 90 [.agg (AW r), .agg (AQ s)] (fun x=>x= .tup [.agg (Dj W.1), .v (.int .i64 W.2)]):=by rw[<-hW];exact cL s r hv hm hr
 have heq:EQ s p r front=if A.2≠0 then(JA,A.2)else if W.2≠0 then(JA,W.2)else(⟨A.1,W.1::p.wats⟩,0):=by rw[EQ,hA,hW,hf];rfl
 refine enter Tryz.func57 rfl rfl rfl rfl rfl 0 rfl ?_;refine Fe (h:=b_ (h:=Ck (h:=Ay (h:=B2 (h:=GD (h:=?_))))));refine AK (pm) ?_;refine Ft (h:=Jq (h:=D3 (h:=?_)));refine A3 rfl (fun kd ka=>?_) (fun kd ka=>?_)
 ·have k1:A.2≠0:=by simpa using ka
  refine w_ (Jt (h:=?_));refine AO (r:=JQ (EQ s p r front)) none (h5:=?_) (h6:=⟨rfl,rfl,rfl⟩);exact NP (by rw[heq,if_pos k1])
 have k1:¬A.2≠0:=by simpa using ka
 refine AG (C9 (h:=?_));refine AK (ml) ?_;refine Js (h:=?_);refine A3 rfl (fun ke kc=>?_) (fun ke kc=>?_)
 ·have k2:W.2≠0:=by simpa using kc
  refine w_ (Jt (h:=?_));refine AO (r:=JQ (EQ s p r front)) none (h5:=?_) (h6:=⟨rfl,rfl,rfl⟩);exact NP (by rw[heq,if_neg k1,if_pos k2])
 have k2:¬W.2≠0:=by simpa using kc
 refine D5 (h:=e_ (?_));refine A3 rfl (fun kh kf=>?_) (fun kh kf=>?_)
 ·refine Ab (h:=l_ (h:=?_));refine A7 (Wp (by repeat (first|exact DenseA.nil _|(apply DenseA.cons;(focus exact rfl);(focus exact rfl);(focus exact rfl);(focus exact rfl))|(apply DenseA.consE;(focus exact rfl);(focus exact rfl);(focus exact rfl)))) rfl rfl rfl rfl (by repeat constructor) ?_);refine f_ (h:=l_ (h:=G8 (h:=Bd (h:=s_ (h:=a_ (h:=e_ (BH (Bp (?_)))))))));refine A4 ?_;rw[heq,if_neg k1,if_neg k2];rfl
 exact Cx
theorem uU(front:Bool)(hf:front=false)(A:List Rul×Int)(hA:Bi p.rules r front=A)(W:Wch×Int)(hW:Cu s r=W):AFn prog 57 [.agg (C8 p), .agg (AQ s), .agg (AW r), .v (.bool false)] (fun x=>x=JQ (EQ s p r front)):=by
 have pm:AFn prog 61 [.sl 8 (p.rules.map AW) none, .agg (AW r), .v (.bool false)] (fun x=>x= .tup [.sl 8 (A.1.map AW) none, .v (.int .i64 A.2)]):=by rw[<-hA,hf];exact cK p.rules r false h1 hi hr
 have ml:AFn prog 90 [.agg (AW r), .agg (AQ s)] (fun x=>x= .tup [.agg (Dj W.1), .v (.int .i64 W.2)]):=by rw[<-hW];exact cL s r hv hm hr
 have heq:EQ s p r front=if A.2≠0 then(JA,A.2)else if W.2≠0 then(JA,W.2)else(⟨A.1,p.wats++[W.1]⟩,0):=by rw[EQ,hA,hW,hf];rfl
 refine enter Tryz.func57 rfl rfl rfl rfl rfl 0 rfl ?_;refine Fe (h:=b_ (h:=Ck (h:=Ay (h:=B2 (h:=GD (h:=?_))))));refine AK (pm) ?_;refine Ft (h:=Jq (h:=D3 (h:=?_)));refine A3 rfl (fun kd ka=>?_) (fun kd ka=>?_)
 ·have k1:A.2≠0:=by simpa using ka
  refine w_ (Jt (h:=?_));refine AO (r:=JQ (EQ s p r front)) none (h5:=?_) (h6:=⟨rfl,rfl,rfl⟩);exact NP (by rw[heq,if_pos k1])
 have k1:¬A.2≠0:=by simpa using ka
 refine AG (C9 (h:=?_));refine AK (ml) ?_;refine Js (h:=?_);refine A3 rfl (fun ke kc=>?_) (fun ke kc=>?_)
 ·have k2:W.2≠0:=by simpa using kc
  refine w_ (Jt (h:=?_));refine AO (r:=JQ (EQ s p r front)) none (h5:=?_) (h6:=⟨rfl,rfl,rfl⟩);exact NP (by rw[heq,if_neg k1,if_pos k2])
 have k2:¬W.2≠0:=by simpa using kc
 refine D5 (h:=e_ (?_));refine A3 rfl (fun kh kf=>?_) (fun kh kf=>?_)
 ·exact Cx
 refine AG (q_ (BJ ([(0,C8 p),(1,AQ s),(2,AW r),(4,Dj W.1)]) 10 (h:=AE 0 (h:=AA 1 (h:=A9 2 (h:=A9 4 (h:=KR 5 (h:=?_))))))));refine c_ 3 rfl (N0 rfl rfl (by simp<;>omega) (by repeat constructor) ?_);refine o_ (h:=c_ 6 rfl (G7 rfl rfl rfl (by simp<;>omega) (by repeat constructor) ?_));refine o_ (h:=Kz 7 (h:=?_));refine Ax 8 (h:=B8 9 (h:=z_ (h:=t_ (BH (?_)))));refine A4 ?_;rw[heq,if_neg k1,if_neg k2];simp[JQ,C8,List.map_append];rfl
theorem Sh(front:Bool):AFn prog 57 [.agg (C8 p), .agg (AQ s), .agg (AW r), .v (.bool front)] (fun x=>x=JQ (EQ s p r front)):=by
 cases front
 ·exact uU s p r hv hm h1 h2 hi hr false rfl _ rfl _ rfl
 exact uT s p r hv hm h1 h2 hi hr true rfl _ rfl _ rfl
end
theorem Si(a:Int):0<=IntKind.u64.wrap a/\IntKind.u64.wrap a<18446744073709551616:=by
 simp only[IntKind.wrap,IntKind.signed,IntKind.bits];simp;omega
theorem cU(a b:Int):0<=RR .u64 a b/\RR .u64 a b<18446744073709551616:=Si _
theorem uV(a b:Int):0<=RS .u64 a b/\RS .u64 a b<18446744073709551616:=Si _
section
theorem cV(l:List Int)(a:Nat)(ha:a<=100000000000):GenF prog 82 l a [] 40 (fun r=>∃m:Int,r= .v (.int .u64 m)/\0<=m/\m<18446744073709551616):=by
 refine enter Tryz.func82 rfl rfl rfl rfl rfl 1 rfl ?_;refine GE (h:=?_);refine A7 (B0 0 (hc:=Gn l _ (6) (by omega) (by omega)) (hR:=?_));rintro r a1 ha1 ⟨k1,rfl,p1,q1,o1⟩;refine B1 ?_;refine e_ (BF (Az (h:=?_)));refine A3 rfl (fun kd ka=>?_) (fun kd ka=>?_)
 ·refine BR (h:=?_);refine AO none (h5:=(A6 _)) (h6:=⟨_,rfl,rfl,a1,by omega,rfl,_,rfl,by omega,by omega⟩)
 refine Az (h:=?_);refine A3 rfl (fun ke kc=>?_) (fun ke kc=>?_)
 ·refine Ab (h:=?_);refine A7 (B0 0 (hc:=Gn l _ (32) (by omega) (by omega)) (hR:=?_));rintro r a2 ha2 ⟨k2,rfl,p2,q2,o2⟩;refine B1 ?_;refine A7 (TR rfl Tryz.underlying3 Tryz.underlying113 ?_);refine A7 (Wt rfl rfl (Si _).1 ?_);refine BE (h:=?_);refine AO none (h5:=(A6 _)) (h6:=⟨_,rfl,rfl,a2,by omega,rfl,_,rfl,uV _ _⟩)
 refine Ej (h:=DZ (h:=Cz (h:=?_)));refine BL (fun n s=>∃(j a1:Nat) (m:Int),j<=32/\n=32 - j/\a1<=a+1+j/\0<=m/\m<18446744073709551616/\s=⟨look [(0, .bp 0 0),(3, .v (.int .u64 m)),(4, .v (.int .i64 (j:Int)))],⟨[EE l a1],[]⟩⟩) (32) ((wk 1 0)) (⟨0,a1,0,by omega,rfl,by omega,by omega,by omega,rfl⟩) ?_;rintro n s ⟨j,b1,m,hj,rfl,kd,hm1,hm2,rfl⟩;refine Be (h:=Ff (h:=?_));refine A3 rfl (fun kh kf=>?_) (fun kh kf=>?_)
 ·refine Bq (h:=HU (h:=?_));refine A7 (B0 0 (hc:=Gn l _ (2) (by omega) (by omega)) (hR:=?_));rintro r a3 ha3 ⟨k3,rfl,p3,q3,o3⟩;refine B1 ?_;refine A7 (TR rfl Tryz.underlying3 Tryz.underlying113 ?_);refine m_ (h:=?_);refine A7 (TR rfl Tryz.underlying3 Tryz.underlying113 ?_);refine A7 (Wt rfl rfl (Si _).1 ?_);refine gJ (h:=Ht (h:=FO (h:=?_)));refine⟨_,_,?_,⟨j+1,_,_,by omega,rfl,?_,(cU _ _).1,(cU _ _).2,rfl⟩,(wk 1 0)⟩<;>omega
 refine C4 (h:=EW (h:=?_));refine AO none (h5:=(A6 _)) (h6:=⟨_,rfl,rfl,b1,by omega,rfl,m,rfl,hm1,hm2⟩)
theorem uW(l:List Int)(a:Nat)(list:Int)(ha:a<=100000000000):GenF prog 83 l a [.v (.int .i64 list)] 20 (fun r=>∃t:Tst,r= .agg (DH t)):=by
 refine enter Tryz.func83 rfl rfl rfl rfl rfl 1 rfl ?_;refine w_ (Ck (h:=e_ (Ab (h:=?_))));refine A7 (B0 0 (hc:=EM l _ (1) (8) (by omega) (by omega) (by omega) (by omega)) (hR:=?_));rintro r a1 ha1 ⟨k1,rfl,p1,q1⟩;refine B1 ?_;refine m_ (h:=?_);refine A7 (B0 0 (hc:=EM l _ (1) (8) (by omega) (by omega) (by omega) (by omega)) (hR:=?_));rintro r a2 ha2 ⟨k2,rfl,p2,q2⟩;refine B1 ?_;refine m_ (h:=BT (h:=?_));refine A7 (B0 0 (hc:=Hd l _ _ (fun _=>true) (by omega) (by rfl) (by rfl) (by rfl)) (hR:=?_));rintro r a3 ha3 ⟨k3,rfl,p3⟩;refine B1 ?_;refine Bd (h:=CP (h:=Ab (h:=?_)));refine A7 (B0 0 (hc:=Gn l _ (8) (by omega) (by omega)) (hR:=?_));rintro r a4 ha4 ⟨k4,rfl,p4,q4,o4⟩;refine B1 ?_;refine Ay (h:=?_);refine BD (fun s=>∃(b:Nat) (f o n ot:Int) (t:ByteArray),b<=a+8/\s=⟨look [(0, .bp 0 0),(4, .bp 1 0),(5, .bp 2 0)],⟨[EE l b,[.v (.int .i64 0), .v (.int .i64 0), .v (.int .i64 0), .v (.string ⟨#[]⟩), .v (.int .i64 0)],[.v (.int .i64 f), .v (.int .i64 o), .v (.int .i64 n), .v (.string t), .v (.int .i64 ot)]],[]⟩⟩) ?_ ?_
 ·refine BF (Ab (h:=Et (h:=?_)));refine A3 rfl (fun kd ka=>?_) (fun kd ka=>?_)
  ·refine BU (h:=?_);refine A7 (B0 0 (hc:=EM l _ (13) (14) (by omega) (by omega) (by omega) (by omega)) (hR:=?_));rintro r a5 ha5 ⟨k5,rfl,p5,q5⟩;refine B1 ?_;refine m_ (h:=?_);refine A7 (B0 0 (hc:=EM l _ (1) (2) (by omega) (by omega) (by omega) (by omega)) (hR:=?_));rintro r a6 ha6 ⟨k6,rfl,p6,q6⟩;refine B1 ?_;refine m_ (h:=BT (h:=?_));refine A7 (B0 0 (hc:=NG l _ _ (fun _=>true) (by omega) (by rfl) (by rfl) (by rfl)) (hR:=?_));rintro r a7 ha7 ⟨k7,rfl,p7⟩;refine B1 ?_;refine GR (h:=Bu (Bz (AT (?_))));refine⟨_,⟨_,_,_,_,_,_,?_,rfl⟩,(wk 3 0)⟩<;>omega
  refine Ab (h:=Et (h:=?_));refine A3 rfl (fun ke kc=>?_) (fun ke kc=>?_)
  ·refine BU (h:=?_);refine A7 (B0 0 (hc:=EM l _ (3) (7) (by omega) (by omega) (by omega) (by omega)) (hR:=?_));rintro r a8 ha8 ⟨k8,rfl,p8,q8⟩;refine B1 ?_;refine m_ (h:=?_);refine A7 (B0 0 (hc:=EM l _ (1) (2) (by omega) (by omega) (by omega) (by omega)) (hR:=?_));rintro r a9 ha9 ⟨k9,rfl,p9,q9⟩;refine B1 ?_;refine m_ (h:=?_);refine A7 (B0 0 (hc:=EM l _ (3) (7) (by omega) (by omega) (by omega) (by omega)) (hR:=?_));rintro r a10 ha10 ⟨k10,rfl,p10,q10⟩;refine B1 ?_;refine GR (h:=Bu (Bz (AT (?_))));refine⟨_,⟨_,_,_,_,_,_,?_,rfl⟩,(wk 3 0)⟩<;>omega
  refine Ab (h:=Dv (h:=?_));refine AF true rfl rfl (fun kh kf=>?_) (fun kh kf=>?_)
  ·refine EJ (h:=Ew (h:=?_));refine A3 rfl (fun kl kg=>?_) (fun kl kg=>?_)
   ·refine BU (h:=?_);refine A7 (B0 0 (hc:=EM l _ (19) (20) (by omega) (by omega) (by omega) (by omega)) (hR:=?_));rintro r a11 ha11 ⟨k11,rfl,p11,q11⟩;refine B1 ?_;refine m_ (h:=?_);refine A7 (B0 0 (hc:=EM l _ (1) (2) (by omega) (by omega) (by omega) (by omega)) (hR:=?_));rintro r a12 ha12 ⟨k12,rfl,p12,q12⟩;refine B1 ?_;refine m_ (h:=BT (h:=?_));refine A7 (B0 0 (hc:=Hd l _ _ (fun _=>true) (by omega) (by rfl) (by rfl) (by rfl)) (hR:=?_));rintro r a13 ha13 ⟨k13,rfl,p13⟩;refine B1 ?_;refine GR (h:=Bu (Bz (AT (?_))));refine⟨_,⟨_,_,_,_,_,_,?_,rfl⟩,(wk 3 0)⟩<;>omega
   refine Ab (h:=EG (h:=?_));refine AF true rfl rfl (fun ko kk=>?_) (fun ko kk=>?_)
   ·refine EJ (h:=Ew (h:=Ja (h:=Ab (h:=Jc (h:=Cp (h:=Df (h:=Ew (h:=?_))))))));refine A3 rfl (fun kq km=>?_) (fun kq km=>?_)
    ·refine BU (h:=?_);refine A7 (B0 0 (hc:=EM l _ (9) (12) (by omega) (by omega) (by omega) (by omega)) (hR:=?_));rintro r a14 ha14 ⟨k14,rfl,p14,q14⟩;refine B1 ?_;refine Cy (h:=Bu (Bz (AT (?_))));refine⟨_,⟨_,_,_,_,_,_,?_,rfl⟩,(wk 3 0)⟩<;>omega
    refine Ab (h:=EG (h:=?_));refine AF true rfl rfl (fun ks kp=>?_) (fun ks kp=>?_)
    ·refine EJ (h:=Ew (h:=?_));refine A3 rfl (fun kt kr=>?_) (fun kt kr=>?_)
     ·refine BU (h:=?_);refine A7 (B0 0 (hc:=EM l _ (1) (6) (by omega) (by omega) (by omega) (by omega)) (hR:=?_));rintro r a15 ha15 ⟨k15,rfl,p15,q15⟩;refine B1 ?_;refine m_ (h:=BT (h:=?_));refine A7 (B0 0 (hc:=Hd l _ _ (fun _=>true) (by omega) (by rfl) (by rfl) (by rfl)) (hR:=?_));rintro r a16 ha16 ⟨k16,rfl,p16⟩;refine B1 ?_;refine GR (h:=Bu (Bz (AT (?_))));refine⟨_,⟨_,_,_,_,_,_,?_,rfl⟩,(wk 3 0)⟩<;>omega
     refine JE (h:=AT (?_));refine⟨_,⟨_,_,_,_,_,_,?_,rfl⟩,(wk 3 0)⟩<;>omega
    refine BB (h:=JF (h:=JE (h:=AT (?_))));refine⟨_,⟨_,_,_,_,_,_,?_,rfl⟩,(wk 3 0)⟩<;>omega
   refine BB (h:=JF (h:=Ab (h:=EG (h:=BB (h:=JF (h:=Ab (h:=EG (h:=?_))))))));refine AF true rfl rfl (fun kv ku=>?_) (fun kv ku=>?_)
   ·refine EJ (h:=Ew (h:=?_));refine A3 rfl (fun yf yb=>?_) (fun yf yb=>?_)
    ·refine BU (h:=?_);refine A7 (B0 0 (hc:=EM l _ (1) (6) (by omega) (by omega) (by omega) (by omega)) (hR:=?_));rintro r a17 ha17 ⟨k17,rfl,p17,q17⟩;refine B1 ?_;refine m_ (h:=BT (h:=?_));refine A7 (B0 0 (hc:=Hd l _ _ (fun _=>true) (by omega) (by rfl) (by rfl) (by rfl)) (hR:=?_));rintro r a18 ha18 ⟨k18,rfl,Ko⟩;refine B1 ?_;refine GR (h:=Bu (Bz (AT (?_))));refine⟨_,⟨_,_,_,_,_,_,?_,rfl⟩,(wk 3 0)⟩<;>omega
    refine JE (h:=AT (?_));refine⟨_,⟨_,_,_,_,_,_,?_,rfl⟩,(wk 3 0)⟩<;>omega
   refine BB (h:=JF (h:=JE (h:=AT (?_))));refine⟨_,⟨_,_,_,_,_,_,?_,rfl⟩,(wk 3 0)⟩<;>omega
  refine BB (h:=JF (h:=Ab (h:=EG (h:=?_))));refine AF true rfl rfl (fun yq yc=>?_) (fun yq yc=>?_)
  ·refine EJ (h:=Ew (h:=?_));refine A3 rfl (fun yu yg=>?_) (fun yu yg=>?_)
   ·refine BU (h:=?_);refine A7 (B0 0 (hc:=EM l _ (15) (21) (by omega) (by omega) (by omega) (by omega)) (hR:=?_));rintro r a19 ha19 ⟨k19,rfl,p19,q19⟩;refine B1 ?_;refine m_ (h:=BT (h:=?_));refine A7 (B0 0 (hc:=Hd l _ _ (fun _=>true) (by omega) (by rfl) (by rfl) (by rfl)) (hR:=?_));rintro r a20 ha20 ⟨k20,rfl,p20⟩;refine B1 ?_;refine Cy (h:=Cy (h:=Bu (Bz (AT (?_)))));refine⟨_,⟨_,_,_,_,_,_,?_,rfl⟩,(wk 3 0)⟩<;>omega
   refine Ab (h:=Jc (h:=Cp (h:=Df (h:=Ew (h:=?_)))));refine A3 rfl (fun yy yr=>?_) (fun yy yr=>?_)
   ·refine BU (h:=?_);refine A7 (B0 0 (hc:=EM l _ (9) (12) (by omega) (by omega) (by omega) (by omega)) (hR:=?_));rintro r a21 ha21 ⟨k21,rfl,p21,q21⟩;refine B1 ?_;refine Cy (h:=Bu (Bz (AT (?_))));refine⟨_,⟨_,_,_,_,_,_,?_,rfl⟩,(wk 3 0)⟩<;>omega
   refine Ab (h:=EG (h:=?_));refine AF true rfl rfl (fun ff fc=>?_) (fun ff fc=>?_)
   ·refine EJ (h:=Ew (h:=?_));refine A3 rfl (fun fe fx=>?_) (fun fe fx=>?_)
    ·refine BU (h:=?_);refine A7 (B0 0 (hc:=EM l _ (1) (6) (by omega) (by omega) (by omega) (by omega)) (hR:=?_));rintro r a22 ha22 ⟨k22,rfl,p22,q22⟩;refine B1 ?_;refine m_ (h:=BT (h:=?_));refine A7 (B0 0 (hc:=Hd l _ _ (fun _=>true) (by omega) (by rfl) (by rfl) (by rfl)) (hR:=?_));rintro r a23 ha23 ⟨k23,rfl,p23⟩;refine B1 ?_;refine GR (h:=Bu (Bz (AT (?_))));refine⟨_,⟨_,_,_,_,_,_,?_,rfl⟩,(wk 3 0)⟩<;>omega
    refine JE (h:=AT (?_));refine⟨_,⟨_,_,_,_,_,_,?_,rfl⟩,(wk 3 0)⟩<;>omega
   refine BB (h:=JF (h:=JE (h:=AT (?_))));refine⟨_,⟨_,_,_,_,_,_,?_,rfl⟩,(wk 3 0)⟩<;>omega
  refine BB (h:=JF (h:=Ab (h:=EG (h:=BB (h:=JF (h:=Ab (h:=EG (h:=?_))))))));refine AF true rfl rfl (fun fq od=>?_) (fun fq od=>?_)
  ·refine EJ (h:=Ew (h:=?_));refine A3 rfl (fun fy oe=>?_) (fun fy oe=>?_)
   ·refine BU (h:=?_);refine A7 (B0 0 (hc:=EM l _ (1) (6) (by omega) (by omega) (by omega) (by omega)) (hR:=?_));rintro r a24 ha24 ⟨k24,rfl,p24,q24⟩;refine B1 ?_;refine m_ (h:=BT (h:=?_));refine A7 (B0 0 (hc:=Hd l _ _ (fun _=>true) (by omega) (by rfl) (by rfl) (by rfl)) (hR:=?_));rintro r a25 ha25 ⟨k25,rfl,p25⟩;refine B1 ?_;refine GR (h:=Bu (Bz (AT (?_))));refine⟨_,⟨_,_,_,_,_,_,?_,rfl⟩,(wk 3 0)⟩<;>omega
   refine JE (h:=AT (?_));refine⟨_,⟨_,_,_,_,_,_,?_,rfl⟩,(wk 3 0)⟩<;>omega
  refine BB (h:=JF (h:=JE (h:=AT (?_))));refine⟨_,⟨_,_,_,_,_,_,?_,rfl⟩,(wk 3 0)⟩<;>omega
 rintro s ⟨b,f,o,n,ot,t,hb,rfl⟩;refine Be (h:=?_);refine A7 (B0 0 (hc:=Gn l _ (24) (by omega) (by omega)) (hR:=?_));rintro r a26 ha26 ⟨k26,rfl,p26,q26,o26⟩;refine B1 ?_;refine BO (h:=?_);refine A3 rfl (fun ma fr=>?_) (fun ma fr=>?_)
 ·refine BU (h:=?_);refine A7 (B0 0 (hc:=EM l _ (0) (24) (by omega) (by omega) (by omega) (by omega)) (hR:=?_));rintro r a27 ha27 ⟨k27,rfl,p27,q27⟩;refine B1 ?_;refine m_ (h:=?_);refine A7 (B0 0 (hc:=EM l _ (0) (9) (by omega) (by omega) (by omega) (by omega)) (hR:=?_));rintro r a28 ha28 ⟨k28,rfl,p28,q28⟩;refine B1 ?_;refine Cy (h:=Cg (h:=EX (h:=?_)));refine AO none (h5:=(A6 _)) (h6:=⟨_,rfl,rfl,_,?_,rfl,⟨_,_,_,_,_⟩,rfl⟩)<;>omega
 refine AG (EX (h:=?_));refine AO none (h5:=(A6 _)) (h6:=⟨_,rfl,rfl,_,?_,rfl,⟨_,_,_,_,_⟩,rfl⟩)<;>omega
end
theorem cW{α:Type}{p:Nat->α->Bool}:∀{l:List α} {i:Nat},(∀k x,l[k]?=some x->p (i+k) x=false)->DQ p l i= -1
 |[],_,_=>rfl
 |x::xs,i,h=>by
   rw[DQ,if_neg (by simpa using h 0 x rfl)]
   exact cW fun k y hy=>by
    have:=h (k+1) y (by simpa using hy)
    rwa [show i+1+k=i+(k+1) by omega]
theorem Vp{l:List Rul}{r:Rul}:JO l r<0↔r∉l:=by
 constructor
 ·intro h hm;obtain⟨k,hk⟩:=List.getElem?_of_mem hm;rcases Int.lt_or_le (JO l r) 0 with h1|h1
  ·clear h
   have:∀(l:List Rul) (i k:Nat),l[k]?=some r->0<=DQ (fun _ x=>decide (x=r)) l i:=by
    intro l
    induction l with
    |nil=>intro i k hk;simp at hk
    |cons x xs ih=>
      intro i k hk;rw[DQ];split
      ·omega
      rename_i hne
      cases k with
      |zero=>simp at hk;simp[hk]at hne
      |succ k=>exact ih (i+1) k (by simpa using hk)
   have:=this l 0 k hk;unfold JO at h1;omega
  omega
 intro h
 have:JO l r= -1:=cW fun k x hx=>by
  simp only[decide_eq_false_iff_not];rintro rfl;exact h (Aj hx)
 omega
theorem cY:∀(l pre:List Rul),KF pre l=0↔(∀x∈l,BK x=0/\x∉pre)/\l.Nodup
 |[],pre=>by simp[KF]
 |r::rs,pre=>by
   rw[KF];by_cases h1:BK r=0
   ·rw[if_neg (by simpa using h1)];by_cases h2:0<=JO pre r
    ·rw[if_pos h2];have h3:r∈pre:=Classical.byContradiction fun h=>by have:=Vp.2 h;omega
     exact⟨fun h=>absurd h (by decide),fun h=>absurd h3 (h.1 r (by simp)).2⟩
    rw[if_neg h2,cY rs (pre++[r])];have h3:r∉pre:=Vp.1 (by omega);constructor
    ·rintro⟨k1,k2⟩;refine⟨?_,?_⟩
     ·intro x hx;rcases List.mem_cons.1 hx with rfl|hx
      ·exact⟨h1,h3⟩
      exact⟨(k1 x hx).1,fun hm=>(k1 x hx).2 (by simp[hm])⟩
     exact List.nodup_cons.2 ⟨fun hm=>(k1 r hm).2 (by simp),k2⟩
    rintro⟨k1,k2⟩;obtain⟨k3,k4⟩:=List.nodup_cons.1 k2;refine⟨fun x hx=>⟨(k1 x (by simp[hx])).1,fun hm=>?_⟩,k4⟩;rcases List.mem_append.1 hm with hm|hm
    ·exact(k1 x (by simp[hx])).2 hm
    rw[List.mem_singleton.1 hm]at hx;exact k3 hx
   rw[if_pos (by simpa using h1)];constructor
   ·intro h;exact absurd h h1
   intro h;exact absurd (h.1 r (by simp)).1 h1
theorem Sj(l:List Rul):Ea l=0↔l.length<=24/\(∀x∈l,BK x=0)/\l.Nodup:=by
 unfold Ea;split
 ·simp;omega
 rw[cY];simp;omega
structure LstOk(l:List Rul)(n:Nat):Prop where
 chk:Ea l=0
 ins:∀r∈l,Dz r
 len:l.length<=n
theorem LstOk.nil(n:Nat):LstOk [] n:=⟨(Sj []).2 (by simp),by simp,by simp⟩
theorem LstOk.add{l:List Rul}{n:Nat}{r:Rul}{f:Bool}(h:LstOk l n)(hr:Dz r)(he:(Bi l r f).2=0):LstOk (Bi l r f).1 (n+1):=by
 unfold Bi at he ⊢;rw[if_neg (by rw[h.chk];simp)]at he ⊢;split at he
 ·rename_i h1;exact absurd he h1
 rename_i h1;rw[if_neg h1];split at he
 ·cases he
 rename_i h2;rw[if_neg h2];split at he
 ·cases he
 rename_i h3;rw[if_neg h3];have hm:r∉l:=Vp.1 (by omega);obtain⟨c1,c2,c3⟩:=(Sj l).1 h.chk;have h1':BK r=0:=by simpa using h1
 cases f
 ·refine⟨(Sj _).2 ⟨by simp;omega,?_,?_⟩,?_,?_⟩
  ·intro x hx;rcases(by simpa using hx:x∈l\/x=r)with hx|hx
   ·exact c2 x hx
   rw[hx];exact h1'
  ·simp only[Bool.false_eq_true,if_false];exact List.nodup_append.2 ⟨c3,by simp,fun a ha b hb=>by rw[List.mem_singleton.1 hb];rintro rfl;exact hm ha⟩
  ·intro x hx;rcases(by simpa using hx:x∈l\/x=r)with hx|hx
   ·exact h.ins x hx
   rw[hx];exact hr
  have:=h.len;simp;omega
 refine⟨(Sj _).2 ⟨by simp;omega,?_,?_⟩,?_,?_⟩
 ·intro x hx;rcases(by simpa using hx:x=r\/x∈l)with hx|hx
  ·rw[hx];exact h1'
  exact c2 x hx
 ·simp only[if_true];exact List.nodup_cons.2 ⟨hm,c3⟩
 ·intro x hx;rcases(by simpa using hx:x=r\/x∈l)with hx|hx
  ·rw[hx];exact hr
  exact h.ins x hx
 have:=h.len;simp;omega
theorem LstOk.mono{l:List Rul}{n m:Nat}(h:LstOk l n)(hm:n<=m):LstOk l m:=⟨h.chk,h.ins,Nat.le_trans h.len hm⟩
def Qd:Rul:=⟨3,1,4294967295,[],0,⟨#[]⟩,0,⟨#[]⟩⟩
theorem uX:Dz Qd:=by unfold Dz Qd;simp;decide
theorem uY:BK Qd=0:=by decide
section
theorem uZ(l:List Int)(a:Nat)(ha:a<=10000000000):GenF prog 40 l a [] 200 (fun r=>∃x:Rul,Dz x/\r= .agg (AW x)):=by
 refine enter Tryz.func40 rfl rfl rfl rfl rfl 1 rfl ?_;refine w_ (Ck (h:=e_ (Ab (h:=BT (h:=?_)))));refine A7 (B0 0 (hc:=Hd l _ _ (fun _=>true) (by omega) (by rfl) (by rfl) (by rfl)) (hR:=?_));rintro r a1 ha1 ⟨k1,rfl,p1⟩;refine B1 ?_;refine m_ (h:=BT (h:=?_));refine A7 (B0 0 (hc:=Hd l _ _ (fun _=>true) (by omega) (by rfl) (by rfl) (by rfl)) (hR:=?_));rintro r a2 ha2 ⟨k2,rfl,p2⟩;refine B1 ?_;refine m_ (h:=BT (h:=?_));refine A7 (B0 0 (hc:=NG l _ _ (fun _=>true) (by omega) (by rfl) (by rfl) (by rfl)) (hR:=?_));rintro r a3 ha3 ⟨k3,rfl,p3⟩;refine B1 ?_;refine Bd (h:=CP (h:=?_));refine BD (fun s=>∃(b:Nat) (li ac ca:Int) (key:ByteArray),b<=a+50/\0<=ca/\ca<18446744073709551616/\s=⟨look [(0, .bp 0 0),(2, .bp 1 0),(3, .bp 2 0)],⟨[EE l b,[.v (.int .i64 0), .v (.int .i64 0), .v (.int .u64 0), .v (.slice none 0 0), .v (.int .i64 0), .v (.string ⟨#[]⟩), .v (.int .i64 0), .v (.string ⟨#[]⟩)],[.v (.int .i64 li), .v (.int .i64 ac), .v (.int .u64 ca), .v (.slice none 0 0), .v (.int .i64 0), .v (.string ⟨#[]⟩), .v (.int .i64 0), .v (.string key)]],[]⟩⟩) ?_ ?_
 ·refine B2 (h:=Dv (h:=?_));refine AF false rfl rfl (fun kd ka=>?_) (fun kd ka=>?_)
  ·refine EV (h:=Ab (h:=?_));refine A7 (B0 0 (hc:=cV l _ (by omega)) (hR:=?_));rintro r a4 ha4 ⟨k4,rfl,p4,q4⟩;refine B1 ?_;refine Cg (h:=Be (h:=?_));refine A7 (B0 0 (hc:=Gn l _ (3) (by omega) (by omega)) (hR:=?_));rintro r a5 ha5 ⟨k5,rfl,p5,q5,o5⟩;refine B1 ?_;refine ET (h:=e_ (?_));refine A3 rfl (fun ke kc=>?_) (fun ke kc=>?_)
   ·refine Aq (Cg (h:=B2 (h:=BO (h:=?_))));refine A3 rfl (fun kh kf=>?_) (fun kh kf=>?_)
    ·refine Aq (Jf (h:=?_));refine⟨_,⟨_,_,_,_,_,?_,?_,?_,rfl⟩,(wk 3 0)⟩<;>omega
    refine Ci (AT (?_));refine⟨_,⟨_,_,_,_,_,?_,?_,?_,rfl⟩,(wk 3 0)⟩<;>omega
   refine AG (B2 (h:=BO (h:=?_)));refine A3 rfl (fun kl kg=>?_) (fun kl kg=>?_)
   ·refine Aq (Jf (h:=?_));refine⟨_,⟨_,_,_,_,_,?_,?_,?_,rfl⟩,(wk 3 0)⟩<;>omega
   refine Ci (AT (?_));refine⟨_,⟨_,_,_,_,_,?_,?_,?_,rfl⟩,(wk 3 0)⟩<;>omega
  refine D2 (h:=Cq (h:=?_));refine A3 rfl (fun ko kk=>?_) (fun ko kk=>?_)
  ·refine Ab (h:=?_);refine A7 (B0 0 (hc:=cV l _ (by omega)) (hR:=?_));rintro r a6 ha6 ⟨k6,rfl,p6,q6⟩;refine B1 ?_;refine Cg (h:=Be (h:=?_));refine A7 (B0 0 (hc:=Gn l _ (3) (by omega) (by omega)) (hR:=?_));rintro r a7 ha7 ⟨k7,rfl,p7,q7,o7⟩;refine B1 ?_;refine ET (h:=e_ (?_));refine A3 rfl (fun kq km=>?_) (fun kq km=>?_)
   ·refine Aq (Cg (h:=B2 (h:=BO (h:=?_))));refine A3 rfl (fun ks kp=>?_) (fun ks kp=>?_)
    ·refine Aq (Jf (h:=?_));refine⟨_,⟨_,_,_,_,_,?_,?_,?_,rfl⟩,(wk 3 0)⟩<;>omega
    refine Ci (AT (?_));refine⟨_,⟨_,_,_,_,_,?_,?_,?_,rfl⟩,(wk 3 0)⟩<;>omega
   refine AG (B2 (h:=BO (h:=?_)));refine A3 rfl (fun kt kr=>?_) (fun kt kr=>?_)
   ·refine Aq (Jf (h:=?_));refine⟨_,⟨_,_,_,_,_,?_,?_,?_,rfl⟩,(wk 3 0)⟩<;>omega
   refine Ci (AT (?_));refine⟨_,⟨_,_,_,_,_,?_,?_,?_,rfl⟩,(wk 3 0)⟩<;>omega
  refine Ci (AT (?_));refine⟨_,⟨_,_,_,_,_,?_,?_,?_,rfl⟩,(wk 3 0)⟩<;>omega
 rintro s ⟨b,li,ac,ca,key,hb,hca1,hca2,rfl⟩;refine Be (h:=BT (h:=?_));refine A7 (B0 0 (hc:=Hd l _ _ (fun z=>decide (0<=z/\z<=3)) (by omega) (by rfl) (by rfl) (by rfl)) (hR:=?_));rintro r a8 ha8 ⟨k8,rfl,p8⟩;refine B1 ?_;obtain⟨hz1,hz2⟩:=of_decide_eq_true p8;obtain⟨m,rfl⟩:=Int.eq_ofNat_of_zero_le (show 0<=k8 by omega);refine Ay (h:=BF (?_));refine MN 2 3 115 5 rfl rfl (by repeat constructor) (by repeat constructor) (by repeat constructor) ?_;refine BL (fun n s=>∃(j b1:Nat) (ts:List Tst),j<=m/\n=j/\b1<=b+1+20 * (m - j)/\ts.length=m - j/\s=⟨look [(0, .bp 0 0),(2, .bp 1 0),(3, .bp 2 0),(4, .v (.int .i64 (j:Int)))],⟨[EE l b1,[.v (.int .i64 0), .v (.int .i64 0), .v (.int .u64 0), .v (.slice none 0 0), .v (.int .i64 0), .v (.string ⟨#[]⟩), .v (.int .i64 0), .v (.string ⟨#[]⟩)],[.v (.int .i64 li), .v (.int .i64 ac), .v (.int .u64 ca), .sl 5 (ts.map DH) (some 0), .v (.int .i64 0), .v (.string ⟨#[]⟩), .v (.int .i64 0), .v (.string key)]],[(115,5,ts.map DH)]⟩⟩) (m) ((wk 3 1)) (⟨m,_,[],by omega,rfl,by omega,by simp,rfl⟩) ?_;rintro n s ⟨j,b1,ts,hj,hn,kd,hts,rfl⟩;subst n;refine Be (h:=ET (h:=e_ (?_)));refine A3 rfl (fun kv ku=>?_) (fun kv ku=>?_)
 ·refine AG (q_ (BF (BJ ([(1,[.v (.int .i64 0), .v (.int .i64 0), .v (.int .u64 0), .v (.slice none 0 0), .v (.int .i64 0), .v (.string ⟨#[]⟩), .v (.int .i64 0), .v (.string ⟨#[]⟩)]),(2,[.v (.int .i64 li), .v (.int .i64 ac), .v (.int .u64 ca), .sl 5 (ts.map DH) (some 0), .v (.int .i64 0), .v (.string ⟨#[]⟩), .v (.int .i64 0), .v (.string key)])]) 9 (h:=AA 0 (h:=A9 1 (h:=AE 2 (h:=AA 3 (h:=A9 4 (h:=?_)))))))));refine c_ 5 rfl (B0 0 (hc:=uW l _ _ (by omega)) (hR:=?_));rintro r a9 ha9 ⟨T9,rfl⟩;refine B1 ?_;refine o_ (h:=KR 6 (h:=?_));refine c_ 7 rfl (G7 rfl rfl rfl (by simp<;>omega) (by repeat constructor) ?_);refine o_ (h:=AA 8 (h:=?_));refine Ax 9 (h:=z_ (h:=Bz (t_ (Aq (m_ (h:=LQ (h:=a_ (h:=Bu (AT (?_))))))))));obtain⟨j,rfl⟩:∃i,j=i+1:=⟨j - 1,by omega⟩;refine⟨_,_,?_,⟨j,_,ts++[T9],by omega,rfl,?_,?_,rfl⟩,(by rw[List.map_append];exact At 3 1 rfl rfl rfl rfl (by repeat (first|exact Sub.nil|refine Aw rfl rfl ?_|(apply Sub.of;(focus exact rfl);(focus exact LeA.of_eq (vi (by omega)));(focus exact rfl)))))⟩
  ·omega
  ·omega
  simp;omega
 refine C4 (h:=?_);refine BD (fun s=>∃(b2:Nat) (wa pe:Int) (pa:ByteArray),b2<=a+140/\pa.size<=60/\s=⟨look [(0, .bp 0 0),(2, .bp 1 0),(3, .bp 2 0)],⟨[EE l b2,[.v (.int .i64 0), .v (.int .i64 0), .v (.int .u64 0), .v (.slice none 0 0), .v (.int .i64 0), .v (.string ⟨#[]⟩), .v (.int .i64 0), .v (.string ⟨#[]⟩)],[.v (.int .i64 li), .v (.int .i64 ac), .v (.int .u64 ca), .sl 5 (ts.map DH) (some 0), .v (.int .i64 wa), .v (.string pa), .v (.int .i64 pe), .v (.string key)]],[(115,5,ts.map DH)]⟩⟩) ?_ ?_
 ·refine B2 (h:=Dv (h:=?_));refine AF true rfl rfl (fun yf yb=>?_) (fun yf yb=>?_)
  ·refine m_ (h:=?_);refine Ak (B0 0 (hc:=Gn l _ (3) (by omega) (by omega)) (hR:=?_));rintro r a10 ha10 ⟨k10,rfl,p10,q10,o10⟩;refine B1 ?_;refine Df (h:=Bm (h:=e_ (?_)));refine A3 rfl (fun yq yc=>?_) (fun yq yc=>?_)
   ·refine Ab (h:=?_);refine A7 (B0 0 (hc:=EM l _ (1) (2) (by omega) (by omega) (by omega) (by omega)) (hR:=?_));rintro r a11 ha11 ⟨k11,rfl,p11,q11⟩;refine B1 ?_;refine m_ (h:=?_);refine A7 (B0 0 (hc:=uQ l _ (by omega)) (hR:=?_));rintro r a12 ha12 ⟨k12,rfl,p12⟩;refine B1 ?_;refine m_ (h:=?_);refine A7 (B0 0 (hc:=EM l _ (1) (15) (by omega) (by omega) (by omega) (by omega)) (hR:=?_));rintro r a13 ha13 ⟨k13,rfl,p13,q13⟩;refine B1 ?_;refine Cy (h:=Cy (h:=Cg (h:=Ab (h:=?_))));refine A7 (B0 0 (hc:=Gn l _ (8) (by omega) (by omega)) (hR:=?_));rintro r a14 ha14 ⟨k14,rfl,p14,q14,o14⟩;refine B1 ?_;refine BO (h:=?_);refine A3 rfl (fun yu yg=>?_) (fun yu yg=>?_)
    ·refine Aq (Jf (h:=?_));refine⟨_,⟨_,_,_,_,?_,?_,rfl⟩,(wk 3 1)⟩<;>first|omega|exact Bl rfl
    refine Ci (AT (?_));refine⟨_,⟨_,_,_,_,?_,?_,rfl⟩,(wk 3 1)⟩<;>first|omega|exact Bl rfl
   refine Ci (AT (?_));refine⟨_,⟨_,_,_,_,?_,?_,rfl⟩,(wk 3 1)⟩<;>first|omega|exact Bl rfl
  refine DE (h:=e_ (Ja (h:=Ci (AT (?_)))));refine⟨_,⟨_,_,_,_,?_,?_,rfl⟩,(wk 3 1)⟩<;>first|omega|exact Bl rfl
 rintro s ⟨b2,wa,pe,pa,ke,hpa,rfl⟩;refine Be (h:=?_);refine A7 (B0 0 (hc:=Gn l _ (24) (by omega) (by omega)) (hR:=?_));rintro r a15 ha15 ⟨k15,rfl,p15,q15,o15⟩;refine B1 ?_;refine BO (h:=?_);refine A3 rfl (fun yy yr=>?_) (fun yy yr=>?_)
 ·refine BU (h:=?_);refine A7 (B0 0 (hc:=EM l _ (-1) (16) (by omega) (by omega) (by omega) (by omega)) (hR:=?_));rintro r a16 ha16 ⟨k16,rfl,p16,q16⟩;refine B1 ?_;refine m_ (h:=?_);refine A7 (B0 0 (hc:=EM l _ (0) (6) (by omega) (by omega) (by omega) (by omega)) (hR:=?_));rintro r a17 ha17 ⟨k17,rfl,p17,q17⟩;refine B1 ?_;refine m_ (h:=?_);refine A7 (B0 0 (hc:=EM l _ (0) (3) (by omega) (by omega) (by omega) (by omega)) (hR:=?_));rintro r a18 ha18 ⟨k18,rfl,Ko,q18⟩;refine B1 ?_;refine Cy (h:=Cy (h:=Cg (h:=EX (h:=?_))));refine AO none (h5:=(A6 _)) (h6:=⟨_,rfl,rfl,_,?_,rfl,⟨_,_,_,ts,_,pa,_,_⟩,⟨hca1,hca2,Nat.le_trans hpa (by decide),by show ts.length<=1000;omega⟩,rfl⟩)<;>omega
 refine AG (EX (h:=?_));refine AO none (h5:=(A6 _)) (h6:=⟨_,rfl,rfl,_,?_,rfl,⟨_,_,_,ts,_,pa,_,_⟩,⟨hca1,hca2,Nat.le_trans hpa (by decide),by show ts.length<=1000;omega⟩,rfl⟩)<;>omega
end
structure PolOk(s:Spc)(p:Pol)(n:Nat):Prop where
 lst:LstOk p.rules n
 wat:p.wats=KG s p.rules
 ok:∀r∈p.rules,(Cu s r).2=0
theorem PolOk.nil(s:Spc)(n:Nat):PolOk s JA n:=⟨LstOk.nil n,rfl,by simp[JA]⟩
theorem PolOk.mono{s:Spc}{p:Pol}{n m:Nat}(h:PolOk s p n)(hm:n<=m):PolOk s p m:=⟨h.lst.mono hm,h.wat,h.ok⟩
theorem PolOk.len{s:Spc}{p:Pol}{n:Nat}(h:PolOk s p n):p.wats.length=p.rules.length:=by rw[h.wat];simp[KG]
theorem Vq{l:List Rul}{r:Rul}{f:Bool}(h:(Bi l r f).2=0):(Bi l r f).1=if f=true then r::l else l++[r]:=by
 unfold Bi at h ⊢;by_cases c1:Ea l≠0
 ·rw[if_pos c1]at h;exact absurd h c1
 rw[if_neg c1]at h ⊢;by_cases c2:BK r≠0
 ·rw[if_pos c2]at h;exact absurd h c2
 rw[if_neg c2]at h ⊢;by_cases c3:0<=JO l r
 ·rw[if_pos c3]at h;cases h
 rw[if_neg c3]at h ⊢;by_cases c4:24<=(l.length:Int)
 ·rw[if_pos c4]at h;cases h
 rw[if_neg c4]
theorem PolOk.add{s:Spc}{p:Pol}{n:Nat}{r:Rul}{f:Bool}(h:PolOk s p n)(hr:Dz r)(he:(EQ s p r f).2=0):PolOk s (EQ s p r f).1 (n+1):=by
 unfold EQ at he ⊢;by_cases c1:(Bi p.rules r f).2≠0
 ·rw[if_pos c1]at he;exact absurd he c1
 rw[if_neg c1]at he ⊢;by_cases c2:(Cu s r).2≠0
 ·rw[if_pos c2]at he;exact absurd he c2
 rw[if_neg c2];have d1:(Bi p.rules r f).2=0:=by simpa using c1
 have d2:(Cu s r).2=0:=by simpa using c2
 refine⟨h.lst.add hr d1,?_,?_⟩
 ·simp only[Vq d1,h.wat];cases f<;>simp[KG]
 intro x hx;simp only[Vq d1]at hx
 have:x=r\/x∈p.rules:=by
  cases f
  ·exact(by simpa using hx:x∈p.rules\/x=r).symm
  simpa using hx
 rcases this with rfl|hx
 ·exact d2
 exact h.ok x hx
section
theorem Sk(l:List Int)(a:Nat)(ha:a<=1000000000):GenF prog 56 l a [] 1600 (fun r=>∃x:Rul,Dz x/\BK x=0/\r= .agg (AW x)):=by
 refine enter Tryz.func56 rfl rfl rfl rfl rfl 1 rfl ?_;refine w_ (Ck (h:=e_ (Cz (h:=?_))));refine BL (fun n s=>∃(j b:Nat),j<=8/\n=8 - j/\b<=a+200 * j/\s=⟨look [(0, .bp 0 0),(2, .bp 1 0),(3, .v (.int .i64 (j:Int)))],⟨[EE l b,[.v (.int .i64 0), .v (.int .i64 0), .v (.int .u64 0), .v (.slice none 0 0), .v (.int .i64 0), .v (.string ⟨#[]⟩), .v (.int .i64 0), .v (.string ⟨#[]⟩)]],[]⟩⟩) (8) ((wk 2 0)) (⟨0,a,by omega,rfl,by omega,rfl⟩) ?_;rintro n s ⟨j,b,hj,rfl,hb,rfl⟩;refine Be (h:=Ff (h:=?_));refine A3 rfl (fun kd ka=>?_) (fun kd ka=>?_)
 ·refine Bq (h:=Ab (h:=?_));refine A7 (B0 0 (hc:=uZ l _ (by omega)) (hR:=?_));rintro r a1 ha1 ⟨x,hx,rfl⟩;refine B1 ?_;refine CP (h:=Bw (h:=?_));refine AK (Sc x hx) ?_;refine BO (h:=?_);refine A3 rfl (fun ke kc=>?_) (fun ke kc=>?_)
  ·refine EX (h:=DG (h:=C1 (h:=?_)));refine AO none (h5:=(A6 _)) (h6:=⟨_,rfl,rfl,_,?_,rfl,x,hx,kc,rfl⟩)<;>omega
  refine Dg (h:=?_);refine⟨_,_,?_,⟨j+1,_,by omega,rfl,?_,rfl⟩,(wk 2 0)⟩<;>omega
 refine C4 (h:=Gq (h:=e_ (BH (?_))));refine AO (r:= .agg (AW Qd)) none (h5:=(by repeat (first|exact A6 _|exact LeA.nil _|exact LeL.refl _|refine LeA.agg ?_|refine LeA.tup ?_|exact LeL.nil|refine LeL.cons ?_ ?_|exact LeA.any _))) (h6:=⟨_,rfl,rfl,b,by omega,rfl,Qd,uX,uY,rfl⟩)
end
end Go.Proofs.YtbgnigjfkbmceaaGreatDoor
