/-
  Part 12 of the proof of FilterSilentP: what the statement's proof uses of the texts in wip/tpl.
-/
import Derived.Test.YtbgnigjfkbmceaaGreatDoorShelf
import Derived.Laws.RangeAny
import Derived.Deep.LoopGhost
import Derived.Lib.OthersKept
import Derived.Shelf.Abstract
import Derived.Shelf.RegionOpen
import Derived.OwnWalkIn
import Derived.TacticsInMore
import Derived.LoopNIn
import Derived.LoopIn
import Derived.Maps.AppendAt
import Derived.StillTailTactics
import Derived.Test.YtbgnigjfkbmceaaGreatDoorQe11
open Go.Proofs.Tryz (prog)
set_option maxRecDepth 10000
set_option maxHeartbeats 4000000
set_option linter.unusedVariables false
set_option linter.unusedSimpArgs false
namespace Go.Proofs.YtbgnigjfkbmceaaGreatDoor
open Go.RowKit
def NG(r:AE×Int×Int×Int×Int):List AV:=[.v (.string r.1), .v (.int .i64 r.2.1), .v (.int .i64 r.2.2.1), .v (.int .i64 r.2.2.2.1), .v (.int .i64 r.2.2.2.2)]
theorem jO{a b:Nat}(h:a<b):Nat.blt a b=true:=by rw[Nat.blt_eq];exact h
theorem jP{c:Cal}{j:Nat}(h:j<4):∃x,(O6 c)[j]?=some x∧(FM c)[1+j]?=some (.v (.int .i64 x)):=by
 match j,h with
 |0,_=>exact⟨_,rfl,rfl⟩
 |1,_=>exact⟨_,rfl,rfl⟩
 |2,_=>exact⟨_,rfl,rfl⟩
 |3,_=>exact⟨_,rfl,rfl⟩
theorem jQ{l:List Int}{n j:Nat}{x:Int}(hn:n≤j)(hy:l[j]?=some x)(hx:x≠0):((l.drop n).any fun x=>decide (x≠0))=true:=by
 rw[List.any_eq_true];refine⟨x,?_,by simpa using hx⟩;refine Aj (i:=j - n) ?_;rw[List.getElem?_drop,show n+(j - n)=j by omega];exact hy
theorem jR{l:List Int}{n:Nat}(h:∀i x,n≤i→l[i]?=some x→x=0):((l.drop n).any fun x=>decide (x≠0))=false:=by
 rw[List.any_eq_false];intro x hx;obtain⟨i,hi⟩:=List.mem_iff_getElem?.1 hx;rw[List.getElem?_drop]at hi;simp[h _ x (Nat.le_add_right n i) hi]
theorem Xx(n:Int):0≤(Bv n).2.1∧(Bv n).2.1≤2:=by
 unfold Bv;split
 ·decide
 rename_i h;obtain⟨m,rfl⟩:=Int.eq_ofNat_of_zero_le (show 0≤n by omega);have hm:m<22:=by omega
 have key:∀m,m<22→0≤((FY[m]?).getD (⟨#[]⟩,0,0,0,0)).2.1∧((FY[m]?).getD (⟨#[]⟩,0,0,0,0)).2.1≤2:=by decide
 exact key m hm
section
theorem Xy(n:Nod)(euid egid want:Int):AFn prog 249 [.agg (AZ n), .v (.int .i64 euid), .v (.int .i64 egid), .v (.int .i64 want)] (fun r=>r= .v (.bool (GV n euid egid want))):=by
 refine enter Tryz.func249 rfl rfl rfl rfl rfl 0 rfl ?_;refine Ef (h:=Bn (h:=DZ (h:=?_)));refine AJ false rfl rfl (fun hb1 hc1=>?_) (fun hb1 hc1=>?_)
 ·refine B7 (h:=FS (h:=?_));refine A6 ?_
  first|(exfalso;first|contradiction|omega)|(exact vb (by first|(simp[GV,H4, *];done)|(simp[GV,H4, *];intro h;exact absurd ((by assumption:euid=n.uid).trans h) (by assumption))))
 refine m_ (h:=E6 (h:=CH (h:=?_)));refine A4 rfl (fun hb2 hc2=>?_) (fun hb2 hc2=>?_)
 ·refine BL (h:=?_);refine A6 ?_
  first|(exfalso;first|contradiction|omega)|(exact vb (by first|(simp[GV,H4, *];done)|(simp[GV,H4, *];intro h;exact absurd ((by assumption:euid=n.uid).trans h) (by assumption))))
 refine Ds (h:=BN (h:=?_));refine A4 rfl (fun hb3 hc3=>?_) (fun hb3 hc3=>?_)
 ·refine AX (h:=Eu (h:=Dy (h:=?_)));refine AJ false rfl rfl (fun hb4 hc4=>?_) (fun hb4 hc4=>?_)
  ·refine Cg (h:=Fh (h:=E8 (h:=?_)));refine A6 ?_
   first|(exfalso;first|contradiction|omega)|(exact vb (by first|(simp[GV,H4, *];done)|(simp[GV,H4, *];intro h;exact absurd ((by assumption:euid=n.uid).trans h) (by assumption))))
  refine Cs (h:=Be (h:=?_));refine AJ false rfl rfl (fun hb5 hc5=>?_) (fun hb5 hc5=>?_)
  ·refine Fh (h:=E8 (h:=?_));refine A6 ?_
   first|(exfalso;first|contradiction|omega)|(exact vb (by first|(simp[GV,H4, *];done)|(simp[GV,H4, *];intro h;exact absurd ((by assumption:euid=n.uid).trans h) (by assumption))))
  refine Aa (h:=Eu (h:=HA (h:=Bx (h:=E8 (h:=?_)))));refine A6 ?_
  first|(exfalso;first|contradiction|omega)|(exact vb (by first|(simp[GV,H4, *];done)|(simp[GV,H4, *];intro h;exact absurd ((by assumption:euid=n.uid).trans h) (by assumption))))
 refine AF (B0 (h:=Eu (h:=Bn (h:=Aa (h:=BN (h:=?_))))));refine A4 rfl (fun hb6 hc6=>?_) (fun hb6 hc6=>?_)
 ·refine Aw (Aa (h:=Qg (h:=Eu (h:=Bu (h:=m_ (h:=Eu (h:=D9 (h:=B8 (h:=?_)))))))));refine A6 ?_
  first|(exfalso;first|contradiction|omega)|(exact vb (by first|(simp[GV,H4, *];done)|(simp[GV,H4, *];intro h;exact absurd ((by assumption:euid=n.uid).trans h) (by assumption))))
 refine AX (h:=Aa (h:=BN (h:=?_)));refine A4 rfl (fun hb7 hc7=>?_) (fun hb7 hc7=>?_)
 ·refine Aw (Aa (h:=Qg (h:=Eu (h:=Bu (h:=m_ (h:=Eu (h:=D9 (h:=B8 (h:=?_)))))))));refine A6 ?_
  first|(exfalso;first|contradiction|omega)|(exact vb (by first|(simp[GV,H4, *];done)|(simp[GV,H4, *];intro h;exact absurd ((by assumption:euid=n.uid).trans h) (by assumption))))
 refine AF (E9 (h:=Eu (h:=D9 (h:=B8 (h:=?_)))));refine A6 ?_
 first|(exfalso;first|contradiction|omega)|(exact vb (by first|(simp[GV,H4, *];done)|(simp[GV,H4, *];intro h;exact absurd ((by assumption:euid=n.uid).trans h) (by assumption))))
theorem Ty(n:Int):AFn prog 144 [.v (.int .i64 n)] (fun r=>r= .v (.bool (PL n))):=by
 refine enter Tryz.func144 rfl rfl rfl rfl rfl 0 rfl ?_;refine EX (h:=E7 (h:=m_ (h:=?_)));refine AJ true rfl rfl (fun hb1 hc1=>?_) (fun hb1 hc1=>?_)
 ·refine m_ (h:=Gg (h:=Gp (h:=?_)));refine A6 ?_
  first|(exfalso;first|contradiction|omega)|(exact vb (by simp[PL, *]))
 refine HU (h:=B8 (h:=?_));refine A6 ?_
 first|(exfalso;first|contradiction|omega)|(exact vb (by simp[PL, *]))
theorem Xz:AFn prog 190 [] (fun r=>r= .sl 5 (FY.map NG) none):=by
 refine enter Tryz.func190 rfl rfl rfl rfl rfl 0 rfl ?_;refine DG (h:=w_ (Bi (h:=Bi (h:=Bi (h:=Bi (h:=Bi (h:=Bi (h:=Bi (h:=Bi (h:=Bi (h:=Bi (h:=Bi (h:=Bi (h:=Bi (h:=Bi (h:=Bi (h:=Bi (h:=Bi (h:=Bi (h:=Bi (h:=Bi (h:=?_))))))))))))))))))))));refine Bi (h:=Bi (h:=BY (h:=B8 (h:=?_))));refine A6 ?_;rfl
theorem jS:AFn prog 189 [] (fun r=>r= .v (.int .i64 22)):=by
 refine enter Tryz.func189 rfl rfl rfl rfl rfl 0 rfl ?_;refine DG (h:=w_ (?_));refine A3 rfl (A8 (Xz) ?_);rintro r rfl;refine n_ (h:=B8 (h:=?_));refine A6 ?_;rfl
theorem Y0(n:Int):AFn prog 139 [.v (.int .i64 n)] (fun r=>r= .agg (NG (Bv n))):=by
 refine enter Tryz.func139 rfl rfl rfl rfl rfl 0 rfl ?_;refine w_ (CY (h:=e_ (Bk (h:=DZ (h:=?_)))));refine AJ false rfl rfl (fun hb1 hc1=>?_) (fun hb1 hc1=>?_)
 ·refine ER (h:=CX (h:=Jp (h:=e_ (B5 (Ba (?_))))));refine A6 ?_;rw[Bv,if_pos (by omega)];rfl
 refine m_ (h:=?_);refine Aq (A8 (jS) ?_);rintro r rfl;refine E7 (h:=CH (h:=?_));refine A4 rfl (fun hb2 hc2=>?_) (fun hb2 hc2=>?_)
 ·refine Jp (h:=e_ (B5 (Ba (?_))));refine A6 ?_;rw[Bv,if_pos (by omega)];rfl
 refine AF (w_ (?_));refine A3 rfl (A8 (Xz) ?_);rintro r rfl;obtain⟨m,rfl⟩:=Int.eq_ofNat_of_zero_le (show 0≤n by omega);obtain⟨row,hrow⟩:∃row,FY[m]?=some row:=⟨FY[m]'(by show m<22;omega),B2 (by show m<22;omega)⟩;have hrow2:(FY.map NG)[m]?=some (NG row):=by rw[List.getElem?_map,hrow];rfl
 refine m_ (h:=?_);refine A3 rfl (D7 (n:=m) rfl rfl rfl hrow2 ?_);refine l_ (h:=s_ (h:=e_ (B5 (?_))));refine A6 ?_;rw[Bv,if_neg (by omega),Int.toNat_natCast,hrow];rfl
theorem Y1(c:Cal)(hp:c.paths.length≤1000)(ha:c.args.length≤1000):AFn prog 95 [.agg (FM c)] (fun r=>r= .v (.int .i64 (Bl c))):=by
 obtain⟨n0,hn0⟩:=Int.eq_ofNat_of_zero_le (Xx c.num).1;have hpl:(c.paths.map DE).length=c.paths.length:=List.length_map _;have hal:(c.args.map DE).length=c.args.length:=List.length_map _;have hn2:n0≤2:=by have:=(Xx c.num).2;omega
 refine enter Tryz.func95 rfl rfl rfl rfl rfl 0 rfl ?_;refine Ef (h:=B4 (h:=B0 (h:=?_)));refine A3 rfl (A8 (Y0 c.num) ?_);rintro r rfl;refine Dz (h:=Fe (h:=BN (h:=?_)));refine A4 rfl (fun hb1 hc1=>?_) (fun hb1 hc1=>?_)
 ·refine BL (h:=?_);refine A6 ?_
  first|(exfalso;first|contradiction|omega)|(exact vi (by first|(rw[Bl,if_pos hc1];done)|(rw[Bl,if_neg hc1,if_pos hany];done)|(rw[Bl,if_neg hc1,if_neg (by rw[hany];simp),if_pos (by omega)];done)|(rw[Bl,if_neg hc1,if_neg (by rw[hany];simp),if_neg (by omega),if_pos hany2];done)|(rw[Bl,if_neg hc1,if_neg (by rw[hany];simp),if_neg (by omega),if_neg (by rw[hany2];simp),if_pos hany3];done)|(rw[Bl,if_neg hc1,if_neg (by rw[hany];simp),if_neg (by omega),if_neg (by rw[hany2];simp),if_neg (by rw[hany3];simp)];done)))
 refine DQ (h:=B4 (h:=BK (?_)));refine BU (fun m s=>∃j:Nat,n0≤j∧j≤4∧m=4 - j∧(∀i x,n0≤i→i<j→(O6 c)[i]?=some x→x=0)∧s=⟨look [(1, .bp 0 0),(3, .bp 1 0),(4, .v (.int .i64 (j:Int)))],⟨[FM c,NG (Bv c.num)],[]⟩⟩) (4 - n0) (by rw[←hn0];exact(wk 2 0)) (⟨n0,B3 _,by omega,rfl,fun i x h1 h2=>by omega,rfl⟩) ?_;rintro m s ⟨j,hlo,hj,rfl,hz,rfl⟩;refine Bk (h:=D2 (h:=?_));refine A4 rfl (fun hb2 hc2=>?_) (fun hb2 hc2=>?_)
 ·obtain⟨x,hy,hrx⟩:=jP (c:=c) (j:=j) (by omega);refine C0 (h:=AX (h:=f_ (h:=?_)));refine A3 rfl (Bw (len:=4) (sz:=1) (n:=j) (by kernel_rfl) rfl rfl rfl (jO (by omega)) ?_);refine A3 rfl (Dl rfl rfl (by rw[show 1+j * 1=1+j by omega];exact hrx) ?_);refine Bo (h:=?_);refine A4 rfl (fun hb3 hc3=>?_) (fun hb3 hc3=>?_)
  ·have hany:(((O6 c).drop (Bv c.num).2.1.toNat).any fun x=>decide (x≠0))=true:=by rw[hn0,Int.toNat_natCast];exact jQ hlo hy hc3
   refine Bh (h:=CT (h:=?_));refine A6 ?_
   first|(exfalso;first|contradiction|omega)|(exact vi (by first|(rw[Bl,if_pos hc1];done)|(rw[Bl,if_neg hc1,if_pos hany];done)|(rw[Bl,if_neg hc1,if_neg (by rw[hany];simp),if_pos (by omega)];done)|(rw[Bl,if_neg hc1,if_neg (by rw[hany];simp),if_neg (by omega),if_pos hany2];done)|(rw[Bl,if_neg hc1,if_neg (by rw[hany];simp),if_neg (by omega),if_neg (by rw[hany2];simp),if_pos hany3];done)|(rw[Bl,if_neg hc1,if_neg (by rw[hany];simp),if_neg (by omega),if_neg (by rw[hany2];simp),if_neg (by rw[hany3];simp)];done)))
  have hx0:x=0:=by simpa using hc3
  refine DH (h:=?_)
  refine⟨_,_,?_,⟨j+1,by omega,by omega,rfl,(fun i x h1 h2 h3=>by
   by_cases e:i=j
   ·subst e;rw[hy]at h3;injection h3 with h3;rw[←h3];exact hx0
   exact hz i x h1 (by omega) h3),rfl⟩,(wk 2 0)⟩
  omega
 have hany:(((O6 c).drop (Bv c.num).2.1.toNat).any fun x=>decide (x≠0))=false:=by
  rw[hn0,Int.toNat_natCast];refine jR fun i x h1 h2=>hz i x h1 ?_ h2;have:=(Ab.1 h2).1;have h4:(O6 c).length=4:=rfl;omega
 refine CJ (h:=Fe (h:=n_ (h:=C6 (h:=m_ (h:=?_)))));refine AJ false rfl rfl (fun hb4 hc4=>?_) (fun hb4 hc4=>?_)
 ·refine BT (h:=B7 (h:=Bz (h:=BT (h:=B7 (h:=FS (h:=?_))))));refine A6 ?_
  first|(exfalso;first|contradiction|omega)|(exact vi (by first|(rw[Bl,if_pos hc1];done)|(rw[Bl,if_neg hc1,if_pos hany];done)|(rw[Bl,if_neg hc1,if_neg (by rw[hany];simp),if_pos (by omega)];done)|(rw[Bl,if_neg hc1,if_neg (by rw[hany];simp),if_neg (by omega),if_pos hany2];done)|(rw[Bl,if_neg hc1,if_neg (by rw[hany];simp),if_neg (by omega),if_neg (by rw[hany2];simp),if_pos hany3];done)|(rw[Bl,if_neg hc1,if_neg (by rw[hany];simp),if_neg (by omega),if_neg (by rw[hany2];simp),if_neg (by rw[hany3];simp)];done)))
 refine GG (h:=Aa (h:=Jn (h:=Be (h:=?_))));refine AJ false rfl rfl (fun hb5 hc5=>?_) (fun hb5 hc5=>?_)
 ·refine BT (h:=B7 (h:=FS (h:=?_)));refine A6 ?_
  first|(exfalso;first|contradiction|omega)|(exact vi (by first|(rw[Bl,if_pos hc1];done)|(rw[Bl,if_neg hc1,if_pos hany];done)|(rw[Bl,if_neg hc1,if_neg (by rw[hany];simp),if_pos (by omega)];done)|(rw[Bl,if_neg hc1,if_neg (by rw[hany];simp),if_neg (by omega),if_pos hany2];done)|(rw[Bl,if_neg hc1,if_neg (by rw[hany];simp),if_neg (by omega),if_neg (by rw[hany2];simp),if_pos hany3];done)|(rw[Bl,if_neg hc1,if_neg (by rw[hany];simp),if_neg (by omega),if_neg (by rw[hany2];simp),if_neg (by rw[hany3];simp)];done)))
 refine GG (h:=J0 (h:=CH (h:=?_)));refine A4 rfl (fun hb6 hc6=>?_) (fun hb6 hc6=>?_)
 ·refine BL (h:=?_);refine A6 ?_
  first|(exfalso;first|contradiction|omega)|(exact vi (by first|(rw[Bl,if_pos hc1];done)|(rw[Bl,if_neg hc1,if_pos hany];done)|(rw[Bl,if_neg hc1,if_neg (by rw[hany];simp),if_pos (by omega)];done)|(rw[Bl,if_neg hc1,if_neg (by rw[hany];simp),if_neg (by omega),if_pos hany2];done)|(rw[Bl,if_neg hc1,if_neg (by rw[hany];simp),if_neg (by omega),if_neg (by rw[hany2];simp),if_pos hany3];done)|(rw[Bl,if_neg hc1,if_neg (by rw[hany];simp),if_neg (by omega),if_neg (by rw[hany2];simp),if_neg (by rw[hany3];simp)];done)))
 refine AF (Ca (h:=?_));refine BU (fun m s=>∃j:Nat,j≤c.paths.length∧m=c.paths.length - j∧(∀i y,i<j→c.paths[i]?=some y→decide (128<y.size)=false)∧s=⟨look [(1, .bp 0 0),(3, .bp 1 0),(5, .v (.int .i64 (j:Int)))],⟨[FM c,NG (Bv c.num)],[]⟩⟩) (c.paths.length) ((wk 2 0)) (⟨0,BH _,rfl,fun i y hi=>by omega,rfl⟩) ?_;rintro m s ⟨j,hj,rfl,ha1,rfl⟩;refine Gs (h:=?_);refine A4 rfl (fun hb7 hc7=>?_) (fun hb7 hc7=>?_)
 ·obtain⟨hlt,y,hy,hrow, -⟩:=C1 DE hc7;refine C0 (h:=Gt (h:=l_ (h:=Gu (h:=e_ (?_)))));refine A4 rfl (fun hb8 hc8=>?_) (fun hb8 hc8=>?_)
  ·have hany2:(c.paths.any fun p=>decide (128<p.size))=true:=N1 hy (by simp;omega);refine Bh (h:=CT (h:=?_));refine A6 ?_
   first|(exfalso;first|contradiction|omega)|(exact vi (by first|(rw[Bl,if_pos hc1];done)|(rw[Bl,if_neg hc1,if_pos hany];done)|(rw[Bl,if_neg hc1,if_neg (by rw[hany];simp),if_pos (by omega)];done)|(rw[Bl,if_neg hc1,if_neg (by rw[hany];simp),if_neg (by omega),if_pos hany2];done)|(rw[Bl,if_neg hc1,if_neg (by rw[hany];simp),if_neg (by omega),if_neg (by rw[hany2];simp),if_pos hany3];done)|(rw[Bl,if_neg hc1,if_neg (by rw[hany];simp),if_neg (by omega),if_neg (by rw[hany2];simp),if_neg (by rw[hany3];simp)];done)))
  refine DH (h:=?_);refine⟨_,_,?_,⟨j+1,by omega,rfl,GL hy ha1 (by simp;omega),rfl⟩,(wk 2 0)⟩;omega
 have e:=CF DE hj hc7;have hany2:(c.paths.any fun p=>decide (128<p.size))=false:=Nl (by rw[←e];exact ha1);refine CJ (h:=Ca (h:=?_));refine BU (fun m s=>∃j:Nat,j≤c.args.length∧m=c.args.length - j∧(∀i y,i<j→c.args[i]?=some y→decide (64<y.size)=false)∧s=⟨look [(1, .bp 0 0),(3, .bp 1 0),(6, .v (.int .i64 (j:Int)))],⟨[FM c,NG (Bv c.num)],[]⟩⟩) (c.args.length) ((wk 2 0)) (⟨0,BH _,rfl,fun i y hi=>by omega,rfl⟩) ?_;rintro m s ⟨j3,hj3,rfl,ha3,rfl⟩;refine Gs (h:=?_);refine A4 rfl (fun hb9 hc9=>?_) (fun hb9 hc9=>?_)
 ·obtain⟨hlt,y,hy,hrow, -⟩:=C1 DE hc9;refine C0 (h:=Gt (h:=l_ (h:=Gu (h:=e_ (?_)))));refine A4 rfl (fun hb10 hc10=>?_) (fun hb10 hc10=>?_)
  ·have hany3:(c.args.any fun p=>decide (64<p.size))=true:=N1 hy (by simp;omega);refine Bh (h:=CT (h:=?_));refine A6 ?_
   first|(exfalso;first|contradiction|omega)|(exact vi (by first|(rw[Bl,if_pos hc1];done)|(rw[Bl,if_neg hc1,if_pos hany];done)|(rw[Bl,if_neg hc1,if_neg (by rw[hany];simp),if_pos (by omega)];done)|(rw[Bl,if_neg hc1,if_neg (by rw[hany];simp),if_neg (by omega),if_pos hany2];done)|(rw[Bl,if_neg hc1,if_neg (by rw[hany];simp),if_neg (by omega),if_neg (by rw[hany2];simp),if_pos hany3];done)|(rw[Bl,if_neg hc1,if_neg (by rw[hany];simp),if_neg (by omega),if_neg (by rw[hany2];simp),if_neg (by rw[hany3];simp)];done)))
  refine DH (h:=?_);refine⟨_,_,?_,⟨j3+1,by omega,rfl,GL hy ha3 (by simp;omega),rfl⟩,(wk 2 0)⟩;omega
 have e3:=CF DE hj3 hc9;have hany3:(c.args.any fun p=>decide (64<p.size))=false:=Nl (by rw[←e3];exact ha3);refine HQ (h:=?_);refine A6 ?_
 first|(exfalso;first|contradiction|omega)|(exact vi (by first|(rw[Bl,if_pos hc1];done)|(rw[Bl,if_neg hc1,if_pos hany];done)|(rw[Bl,if_neg hc1,if_neg (by rw[hany];simp),if_pos (by omega)];done)|(rw[Bl,if_neg hc1,if_neg (by rw[hany];simp),if_neg (by omega),if_pos hany2];done)|(rw[Bl,if_neg hc1,if_neg (by rw[hany];simp),if_neg (by omega),if_neg (by rw[hany2];simp),if_pos hany3];done)|(rw[Bl,if_neg hc1,if_neg (by rw[hany];simp),if_neg (by omega),if_neg (by rw[hany2];simp),if_neg (by rw[hany3];simp)];done)))
theorem Y2(c:Cal):AFn prog 140 [.agg (FM c)] (fun r=>r= .sl 1 ((D6 c).map C7) none):=by
 refine enter Tryz.func140 rfl rfl rfl rfl rfl 0 rfl ?_;refine Ef (h:=J1 (h:=e_ (BK (Ar (h:=?_)))));refine A4 rfl (fun hb1 hc1=>?_) (fun hb1 hc1=>?_)
 ·refine w_ (BY (h:=BA (h:=?_)));refine A6 ?_
  first|(exfalso;first|contradiction|omega)|(simp only[D6,C9];first|(simp[*,C7];done)|(simp[*,C7];rfl))
 refine Ar (h:=?_);refine A4 rfl (fun hb2 hc2=>?_) (fun hb2 hc2=>?_)
 ·refine DG (h:=q_ (w_ (f_ (h:=?_))));refine A3 rfl (Bw (len:=4) (sz:=1) (n:=0) (by kernel_rfl) rfl rfl rfl rfl ?_);refine l_ (h:=Eu (h:=Bo (h:=?_)));refine A4 rfl (fun hb3 hc3=>?_) (fun hb3 hc3=>?_)
  ·refine Qh (h:=B4 (h:=q_ (w_ (f_ (h:=?_)))));refine A3 rfl (Bw (len:=4) (sz:=1) (n:=0) (by kernel_rfl) rfl rfl rfl rfl ?_);refine l_ (h:=Eu (h:=Bo (h:=?_)));refine A4 rfl (fun hb4 hc4=>?_) (fun hb4 hc4=>?_)
   ·refine Qh (h:=Bu (h:=BY (h:=BA (h:=?_))));refine A6 ?_
    first|(exfalso;first|contradiction|omega)|(simp only[D6,C9];first|(simp[*,C7];done)|(simp[*,C7];rfl))
   refine AF (AX (h:=BY (h:=BA (h:=?_))));refine A6 ?_
   first|(exfalso;first|contradiction|omega)|(simp only[D6,C9];first|(simp[*,C7];done)|(simp[*,C7];rfl))
  refine FD (h:=w_ (f_ (h:=?_)));refine A3 rfl (Bw (len:=4) (sz:=1) (n:=0) (by kernel_rfl) rfl rfl rfl rfl ?_);refine l_ (h:=Eu (h:=Bo (h:=?_)));refine A4 rfl (fun hb5 hc5=>?_) (fun hb5 hc5=>?_)
  ·refine Qh (h:=Bu (h:=BY (h:=BA (h:=?_))));refine A6 ?_
   first|(exfalso;first|contradiction|omega)|(simp only[D6,C9];first|(simp[*,C7];done)|(simp[*,C7];rfl))
  refine AF (AX (h:=BY (h:=BA (h:=?_))));refine A6 ?_
  first|(exfalso;first|contradiction|omega)|(simp only[D6,C9];first|(simp[*,C7];done)|(simp[*,C7];rfl))
 refine Ar (h:=?_);refine A4 rfl (fun hb6 hc6=>?_) (fun hb6 hc6=>?_)
 ·refine w_ (BY (h:=BA (h:=?_)));refine A6 ?_
  first|(exfalso;first|contradiction|omega)|(simp only[D6,C9];first|(simp[*,C7];done)|(simp[*,C7];rfl))
 refine Ar (h:=?_);refine A4 rfl (fun hb7 hc7=>?_) (fun hb7 hc7=>?_)
 ·refine w_ (BY (h:=BA (h:=?_)));refine A6 ?_
  first|(exfalso;first|contradiction|omega)|(simp only[D6,C9];first|(simp[*,C7];done)|(simp[*,C7];rfl))
 refine q_ (Ar (h:=?_));refine A4 rfl (fun hb8 hc8=>?_) (fun hb8 hc8=>?_)
 ·refine AF (CX (h:=w_ (BY (h:=BA (h:=?_)))));refine A6 ?_
  first|(exfalso;first|contradiction|omega)|(simp only[D6,C9];first|(simp[*,C7];done)|(simp[*,C7];rfl))
 refine Ar (h:=?_);refine A4 rfl (fun hb9 hc9=>?_) (fun hb9 hc9=>?_)
 ·refine AF (CX (h:=w_ (BY (h:=BA (h:=?_)))));refine A6 ?_
  first|(exfalso;first|contradiction|omega)|(simp only[D6,C9];first|(simp[*,C7];done)|(simp[*,C7];rfl))
 refine Aw (EW (h:=?_));refine A4 rfl (fun hb10 hc10=>?_) (fun hb10 hc10=>?_)
 ·refine w_ (BY (h:=BA (h:=?_)));refine A6 ?_
  first|(exfalso;first|contradiction|omega)|(simp only[D6,C9];first|(simp[*,C7];done)|(simp[*,C7];rfl))
 refine Ar (h:=?_);refine A4 rfl (fun hb11 hc11=>?_) (fun hb11 hc11=>?_)
 ·refine w_ (BY (h:=BA (h:=?_)));refine A6 ?_
  first|(exfalso;first|contradiction|omega)|(simp only[D6,C9];first|(simp[*,C7];done)|(simp[*,C7];rfl))
 refine BD (BE (t_ (w_ (BY (h:=B8 (h:=?_))))));refine A6 ?_
 first|(exfalso;first|contradiction|omega)|(simp only[D6,C9];first|(simp[*,C7];done)|(simp[*,C7];rfl))
theorem jT(c:Cal):AFn prog 142 [.agg (FM c)] (fun r=>r= .v (.bool (DT c))):=by
 refine enter Tryz.func142 rfl rfl rfl rfl rfl 0 rfl ?_;refine Ef (h:=J1 (h:=e_ (BK (Ar (h:=?_)))));refine A4 rfl (fun hb1 hc1=>?_) (fun hb1 hc1=>?_)
 ·refine w_ (f_ (h:=?_));refine A3 rfl (Bw (len:=4) (sz:=1) (n:=0) (by kernel_rfl) rfl rfl rfl rfl ?_);refine l_ (h:=Eu (h:=EG (h:=BA (h:=?_))));refine A6 ?_
  first|(exfalso;first|contradiction|omega)|(exact vb (by simp[DT, *]))
 refine q_ (Ar (h:=?_));refine A4 rfl (fun hb2 hc2=>?_) (fun hb2 hc2=>?_)
 ·refine AF (D3 (h:=?_));refine A6 ?_
  first|(exfalso;first|contradiction|omega)|(exact vb (by simp[DT, *]))
 refine Ar (h:=?_);refine A4 rfl (fun hb3 hc3=>?_) (fun hb3 hc3=>?_)
 ·refine AF (D3 (h:=?_));refine A6 ?_
  first|(exfalso;first|contradiction|omega)|(exact vb (by simp[DT, *]))
 refine Ar (h:=?_);refine A4 rfl (fun hb4 hc4=>?_) (fun hb4 hc4=>?_)
 ·refine AF (D3 (h:=?_));refine A6 ?_
  first|(exfalso;first|contradiction|omega)|(exact vb (by simp[DT, *]))
 refine Ar (h:=?_);refine A4 rfl (fun hb5 hc5=>?_) (fun hb5 hc5=>?_)
 ·refine AF (D3 (h:=?_));refine A6 ?_
  first|(exfalso;first|contradiction|omega)|(exact vb (by simp[DT, *]))
 refine Ar (h:=?_);refine A4 rfl (fun hb6 hc6=>?_) (fun hb6 hc6=>?_)
 ·refine AF (D3 (h:=?_));refine A6 ?_
  first|(exfalso;first|contradiction|omega)|(exact vb (by simp[DT, *]))
 refine Aw (EW (h:=?_));refine A4 rfl (fun hb7 hc7=>?_) (fun hb7 hc7=>?_)
 ·refine Bh (h:=?_);refine A6 ?_
  first|(exfalso;first|contradiction|omega)|(exact vb (by simp[DT, *]))
 refine FE (h:=?_);refine A6 ?_
 first|(exfalso;first|contradiction|omega)|(exact vb (by simp[DT, *]))
end
theorem Ls(s:ByteArray):s.toList=s.data.toList:=Lib.toList_data s
theorem Y3{a b:ByteArray}(h:a.data.toList=b.data.toList):a=b:=by
 cases a;cases b;simp at h;simp[h]
theorem jU{a b:ByteArray}:a.data.toList=b.data.toList↔a=b:=⟨Y3,fun h=>by rw[h]⟩
theorem jV(a b:ByteArray):(a.toList==b.toList)=decide (a=b):=by
 rw[Ls,Ls,Bool.eq_iff_iff,beq_iff_eq,decide_eq_true_iff];exact jU
theorem Y4(s:ByteArray):s.toList.isEmpty=decide (s.size=0):=by
 rw[Ls,Lib.size_eq,Bool.eq_iff_iff,List.isEmpty_iff,decide_eq_true_iff,List.length_eq_zero_iff]
set_option maxRecDepth 100000 in
set_option maxHeartbeats 400000 in
theorem jW(s:ByteArray)(w:World):
    Calls prog 289 #[.string s, .string ⟨#[47]⟩] w fun e w'=>e= .returned (.int .i64 (Lib.indexByte s.data.toList 47))∧w=w':=by
 by_cases h:s=⟨#[47]⟩
 ·subst h
  go_enter Tryz.func289,Tryz.ntmps289
  go_wp2
  go_ret
  exact⟨rfl,rfl⟩
 have h1:([47]==s.toList)=false:=by
  have:=jV ⟨#[47]⟩ s;rw[decide_eq_false (fun e=>h e.symm),Ls ⟨#[47]⟩]at this;exact this
 go_enter Tryz.func289,Tryz.ntmps289
 go_wp2_with (go_at_call 292;refine(Tryz.stringslite_IndexByte _ _ _).mono ?_;rintro e w' ⟨rfl,rfl⟩)
 go_ret
 exact⟨rfl,rfl⟩
theorem jX(s:ByteArray)(w:World):
    Calls prog 276 #[.string s, .string ⟨#[47]⟩] w fun e w'=>e= .returned (.int .i64 (Lib.indexByte s.data.toList 47))∧w=w':=by
 go_enter Tryz.func276,Tryz.ntmps276
 go_wp2_with (go_at_call 289;refine(jW _ _).mono ?_;rintro e w' ⟨rfl,rfl⟩)
 go_ret
 exact⟨rfl,rfl⟩
theorem Y5{l:Bs}(h:(47:UInt8)∈l):∃i:Nat,Lib.indexByte l 47=i∧i<l.length∧l=l.take i++47::l.drop (i+1)∧(47:UInt8)∉l.take i:=by
 have hge:=Lib.indexByte_ge l 47;by_cases hm:Lib.indexByte l 47= -1
 ·have:=Lib.indexByte_none hm;obtain⟨k,hk⟩:=List.mem_iff_getElem?.1 h;exact absurd hk (this k)
 obtain⟨i,hi⟩:=Int.eq_ofNat_of_zero_le (show 0≤Lib.indexByte l 47 by omega);obtain⟨h1,h2⟩:=Lib.indexByte_some hi;have hlt:i<l.length:=(Ab.1 h1).1;refine⟨i,hi,hlt,?_,?_⟩
 ·have h3:l[i]=47:=(Ab.1 h1).2;rw[←h3,List.getElem_cons_drop,List.take_append_drop]
 intro hmem;obtain⟨k,hk⟩:=List.mem_iff_getElem?.1 hmem;rw[List.getElem?_take]at hk;split at hk
 ·exact h2 k (by assumption) hk
 cases hk
theorem jY{l:Bs}(h:(47:UInt8)∉l):Lib.indexByte l 47= -1:=by
 have hge:=Lib.indexByte_ge l 47;by_cases hm:Lib.indexByte l 47= -1
 ·exact hm
 obtain⟨i,hi⟩:=Int.eq_ofNat_of_zero_le (show 0≤Lib.indexByte l 47 by omega);obtain⟨h1,_⟩:=Lib.indexByte_some hi;exact absurd (Aj h1) h
theorem jZ(r:Int)(h0:128≤r)(h1:Lib.validRune r=true):
    (∃a b:UInt8,Utf8.encode r=⟨#[a,b]⟩∧128≤b.toNat)∨(∃a b c:UInt8,Utf8.encode r=⟨#[a,b,c]⟩)∨(∃a b c d:UInt8,Utf8.encode r=⟨#[a,b,c,d]⟩):=by
 have hv:Utf8.valid r=true:=by
  have:=of_decide_eq_true h1;unfold Utf8.valid;simp only[Bool.or_eq_true,Bool.and_eq_true,decide_eq_true_iff];omega
 unfold Utf8.encode;simp only[hv,if_true];have hn:¬r.toNat<128:=by omega
 rw[if_neg hn];by_cases h2:r.toNat<2048
 ·rw[if_pos h2];refine .inl ⟨_,_,rfl,?_⟩;simp only[UInt8.toNat_ofNat'];omega
 rw[if_neg h2];by_cases h3:r.toNat<65536
 ·rw[if_pos h3];exact .inr (.inl ⟨_,_,_,rfl⟩)
 rw[if_neg h3];exact .inr (.inr ⟨_,_,_,_,rfl⟩)
set_option maxRecDepth 1000000 in
set_option maxHeartbeats 2000000 in
theorem kA(r:Int)(w:World)(h0:128≤r)(h1:r≤2147483647)(h2:r≠65533)(hv:Lib.validRune r=false):
    Calls prog 269 #[.string ⟨#[0,47]⟩, .int .i32 r] w fun e w'=>e= .returned (.int .i64 (-1))∧w=w':=by
 have h2':(r==65533)=false:=by simpa using h2
 go_enter Tryz.func269,Tryz.ntmps269
 go_wp2_with (go_at_call 285;refine(Tryz.utf8_ValidRune _ _).mono ?_;rintro e w' ⟨rfl,rfl⟩;rw[hv])
 go_ret
 exact⟨rfl,rfl⟩
set_option maxRecDepth 1000000 in
set_option maxHeartbeats 2000000 in
theorem kB(r:Int)(w:World)(h0:128≤r)(h1:r≤2147483647)(h2:r≠65533)(hv:Lib.validRune r=true):
    Calls prog 269 #[.string ⟨#[0,47]⟩, .int .i32 r] w fun e w'=>e= .returned (.int .i64 (-1))∧Below w.heap.size w w':=by
 have h2':(r==65533)=false:=by simpa using h2
 have hlt:decide (r<128)=false:=by simpa using h0
 rcases jZ r h0 hv with⟨a,b,he,hb⟩|⟨a,b,c,he⟩|⟨a,b,c,d,he⟩
 ·have hne:((((⟨#[0,47]⟩:ByteArray)[1]'(by decide)).toNat:Int) != (((⟨#[a,b]⟩:ByteArray)[1]'(by show 1<2;decide)).toNat:Int))=true:=by
     show((47:Int) != (b.toNat:Int))=true;rw[bne_iff_ne];omega
  go_enter Tryz.func269,Tryz.ntmps269
  go_wp2_with (go_at_call 285;refine(Tryz.utf8_ValidRune _ _).mono ?_;rintro e w' ⟨rfl,rfl⟩;rw[hv])
  go_step3
  go_wp2
  refine wp_loop_rounds 1 ?_;rw[rounds_succ]
  go_wp2
  go_step3
  go_wp2
  go_quiet (fail)
  have hb:=Sj (Below.refl w'.heap.size w') nq;generalize w'.drewN nq=wq at *
  go_wp2
  go_quiet ((go_at_call 284;exact Calls.quiet_of_same (Tryz.strings_IndexByte _ _ _)))
  go_wp2
  rw[Exit.noGoto_ret]
  go_wp2
  rw[Exit.noGoto_ret]
  go_wp2
  go_ret
  exact⟨rfl,Sj hb _⟩
 ·go_enter Tryz.func269,Tryz.ntmps269
  go_wp2_with (go_at_call 285;refine(Tryz.utf8_ValidRune _ _).mono ?_;rintro e w' ⟨rfl,rfl⟩;rw[hv])
  go_step3
  go_wp2
  refine wp_loop_rounds 1 ?_;rw[rounds_succ]
  go_wp2
  rw[Exit.noGoto_ret]
  go_wp2
  go_ret
  exact⟨rfl,Below.refl _ _⟩
 go_enter Tryz.func269,Tryz.ntmps269
 go_wp2_with (go_at_call 285;refine(Tryz.utf8_ValidRune _ _).mono ?_;rintro e w' ⟨rfl,rfl⟩;rw[hv])
 go_step3
 go_wp2
 refine wp_loop_rounds 1 ?_;rw[rounds_succ]
 go_wp2
 rw[Exit.noGoto_ret]
 go_wp2
 go_ret
 exact⟨rfl,Below.refl _ _⟩
theorem kC(i:Nat)(hi:i<2):((⟨#[0,47]⟩:ByteArray)[i]'hi).toNat<128:=by
 match i,hi with
 |0,_=>show(0:UInt8).toNat<128;decide
 |1,_=>show(47:UInt8).toNat<128;decide
set_option maxRecDepth 1000000 in
set_option maxHeartbeats 2000000 in
theorem kF(w:World):
    Calls prog 269 #[.string ⟨#[0,47]⟩, .int .i32 65533] w fun e w'=>e= .returned (.int .i64 (-1))∧Below w.heap.size w w':=by
 go_enter Tryz.func269,Tryz.ntmps269
 go_wp2
 go_loopg [5,6] 2 (fun g _ _ wx=>∃i:Nat,i+g=2∧wx=w.iter ⟨#[0,47]⟩ i)
 case atStart=>exact⟨0,by omega,rfl⟩
 case round=>
  obtain⟨i,hig,rfl⟩:=hrel
  cases gk with
  |zero=>
    obtain rfl:i=2:=by omega
    have hnx:=run_next_end (P:=prog) w ⟨#[0,47]⟩ 2
    go_wp2
    go_ret
    exact⟨rfl,(Below.refl _ _).alloc (B3 _) _⟩
  |succ g=>
    have hi:i<2:=by omega
    have hx:=kC i hi;have hnx:=fun ty=>run_next_ascii (P:=prog) w ⟨#[0,47]⟩ i ty hi hx;generalize ((⟨#[0,47]⟩:ByteArray)[i]'hi)=x at *;have hne:((x.toNat:Int)==65533)=false:=beq_eq_false_iff_ne.2 (by omega)
    go_wp2
    go_roundg g
    case measure=>omega
    case rel=>exact⟨i+1,by omega,rfl⟩
theorem Y6(s:ByteArray)(i:Nat)(h:i<s.size)(ha:128≤(s[i]'h).toNat):
    1≤(Utf8.decode s i).2∧i+(Utf8.decode s i).2≤s.size∧∀k,k<(Utf8.decode s i).2→128≤(s.get! (i+k)).toNat:=by
 have hn:¬(s[i]'h).toNat<128:=by omega
 have h0:s.get! (i+0)=s[i]'h:=get_at s i h;have g0:128≤(s.get! (i+0)).toNat:=by rw[h0];exact ha
 have c1:∀k,(decide (i+k<s.size)&&(s.get! (i+k)).toNat / 64==2)=true→i+k<s.size∧128≤(s.get! (i+k)).toNat:=by
  intro k hk;simp only[Bool.and_eq_true,decide_eq_true_iff,beq_iff_eq]at hk;exact⟨hk.1,by omega⟩
 have one:1≤1∧i+1≤s.size∧∀k,k<1→128≤(s.get! (i+k)).toNat:=by
  refine⟨B3 _,h,fun k hk=>?_⟩;obtain rfl:k=0:=by omega
  exact g0
 unfold Utf8.decode;simp only[h0,hn,if_false];split
 ·rename_i hc;rw[Bool.and_eq_true]at hc;obtain⟨a1,b1⟩:=c1 1 hc.2;split
  ·refine⟨by simp,a1,fun k hk=>?_⟩;have:k=0∨k=1:=by simp at hk;omega
   rcases this with rfl|rfl
   ·exact g0
   exact b1
  exact one
 split
 ·rename_i hc;rw[Bool.and_eq_true,Bool.and_eq_true]at hc;obtain⟨a1,b1⟩:=c1 1 hc.1.2;obtain⟨a2,b2⟩:=c1 2 hc.2;split
  ·refine⟨by simp,a2,fun k hk=>?_⟩;have:k=0∨k=1∨k=2:=by simp at hk;omega
   rcases this with rfl|rfl|rfl
   ·exact g0
   ·exact b1
   exact b2
  exact one
 split
 ·rename_i hc;rw[Bool.and_eq_true,Bool.and_eq_true,Bool.and_eq_true]at hc;obtain⟨a1,b1⟩:=c1 1 hc.1.1.2;obtain⟨a2,b2⟩:=c1 2 hc.1.2;obtain⟨a3,b3⟩:=c1 3 hc.2;split
  ·refine⟨by simp,a3,fun k hk=>?_⟩;have:k=0∨k=1∨k=2∨k=3:=by simp at hk;omega
   rcases this with rfl|rfl|rfl|rfl
   ·exact g0
   ·exact b1
   ·exact b2
   exact b3
  exact one
 exact one
theorem kG(s:ByteArray)(j:Nat)(hj:j<s.size):s.data.toList[j]?=some (s.get! j):=by
 have:=get_at s j hj;rw[Nat.add_zero]at this;rw[this];exact Lib.data_getElem? s j hj
theorem kH{s:ByteArray}{i:Nat}(h:i<s.size)(ha:128≤(s[i]'h).toNat)(hno:Lib.NoAny s.data.toList [0,47] i):Lib.NoAny s.data.toList [0,47] (i+(Utf8.decode s i).2):=by
 obtain⟨_,h2,h3⟩:=Y6 s i h ha;intro j b hj hb;by_cases hlt:j<i
 ·exact hno j b hlt hb
 have:=h3 (j - i) (by omega);rw[show i+(j - i)=j by omega]at this;rw[kG s j (by omega)]at hb;injection hb with hb;rw[hb]at this;have h0:b≠0:=by rintro rfl;simp at this
 have h47:b≠47:=by
  rintro rfl;have:(47:UInt8).toNat=47:=rfl;omega
 simp[h0,h47]
theorem kJ(r:Int)(w:World)(h0:128≤r)(h1:r≤2147483647):
    Calls prog 269 #[.string ⟨#[0,47]⟩, .int .i32 r] w fun e w'=>e= .returned (.int .i64 (-1))∧Below w.heap.size w w':=by
 by_cases h2:r=65533
 ·subst h2;exact kF w
 cases hv:Lib.validRune r with
 |true=>exact kB r w h0 h1 h2 hv
 |false=>exact(kA r w h0 h1 h2 hv).mono fun e w' h=>⟨h.1,by rw[←h.2];exact Below.refl _ _⟩
def Y7(s:ByteArray)(w:World)(e:Ending)(w':World):Prop:=∃v:Int,e= .returned (.int .i64 v)∧Below w.heap.size w w'∧((0≤v)↔((0:UInt8)∈s.data.toList∨(47:UInt8)∈s.data.toList))
theorem kK{s:ByteArray}(h:Lib.NoAny s.data.toList [0,47] s.size):¬((0:UInt8)∈s.data.toList∨(47:UInt8)∈s.data.toList):=by
 rintro(h'|h')
 ·obtain⟨j,hj⟩:=List.mem_iff_getElem?.1 h';have:=h j 0 (by rw[Lib.size_eq];exact(Ab.1 hj).1) hj;simp at this
 obtain⟨j,hj⟩:=List.mem_iff_getElem?.1 h';have:=h j 47 (by rw[Lib.size_eq];exact(Ab.1 hj).1) hj;simp at this
theorem kL{s:ByteArray}{i:Nat}{x:UInt8}(hx:s.data.toList[i]?=some x)(h:[0,47].contains x=true):((0:UInt8)∈s.data.toList∨(47:UInt8)∈s.data.toList):=by
 have hm:=Aj hx;simp at h;rcases h with rfl|rfl
 ·exact .inl hm
 exact .inr hm
set_option maxRecDepth 1000000 in
set_option maxHeartbeats 4000000 in
theorem kM(s:ByteArray)(w:World)(h8:s.size≤8):Calls prog 245 #[.string s, .string ⟨#[0,47]⟩] w (Y7 s w):=by
 have h8z:decide ((8:Int)<(s.size:Int))=false:=decide_eq_false (by omega)
 go_enter Tryz.func245,Tryz.ntmps245
 go_wp2_with (go_at_call 270;refine(Tryz.strings_shouldUseASCIISet _ _).mono ?_;rintro e w' ⟨rfl,hw⟩;rw[hw,h8z])
 clear hw
 go_loopg [9,10] s.size (fun g _ _ wx=>∃i:Nat,s.size≤i+g∧i≤s.size∧wx.heap[w.heap.size]?=some (.stringIter s i)∧Below w.heap.size w wx∧Hid (Lib.NoAny s.data.toList [0,47] i))
 case atStart=>exact⟨0,by omega,by omega,World.iter_heap w s 0,(Below.refl _ _).alloc (B3 _) _,Lib.hid (Lib.NoAny.zero _ _)⟩
 case round=>
  obtain⟨i,hg,hi,hit,hbel,hno⟩:=hrel;have hks:=hbel.size;by_cases hlt:i<s.size
  ·obtain⟨g,rfl⟩:∃g,gk=g+1:=⟨gk - 1,by omega⟩;by_cases hx:(s[i]'hlt).toNat<128
   ·have hnx:=fun ty=>Lib.run_next_ascii_at (P:=prog) wr w.heap.size s i ty hit hlt hx;have hxl:s.data.toList[i]?=some (s[i]'hlt):=Lib.data_getElem? s i hlt;generalize (s[i]'hlt)=x at *;have Hx:=Lib.hid hxl;have hit':=Lib.iterAt_heap wr w.heap.size s i (i+1) hit;have hbel':=Lib.below_iterAt hbel (B3 _) s (i+1);generalize wr.iterAt w.heap.size s (i+1)=w1 at *;have hcon:=Lib.contains_iff_indexByte [0,47] x;have hback:((x.toNat:Int)).toNat.toUInt8=x:=by simp
    have HI:=Lib.hid hit';clear hxl hit hit';cases hin:[0,47].contains x
    ·rw[hin]at hcon;have hneg:¬((0:Int)≤Lib.indexByte [0,47] x):=of_decide_eq_false hcon.symm;clear hcon
     go_wp2_with (go_at_call 269;refine(Tryz.strings_IndexRune_ascii _ _ _ (by omega) (by omega)).mono ?_;rintro e w' ⟨rfl,hw⟩;rw[hw,hback])
     go_roundg g
     case measure=>omega
     case rel=>exact⟨i+1,by omega,by omega,HI.out,hbel',Lib.hid (hno.out.succ Hx.out hin)⟩
    rw[hin]at hcon;have hpos:(0:Int)≤Lib.indexByte [0,47] x:=of_decide_eq_true hcon.symm;clear hcon
    go_wp2_with (go_at_call 269;refine(Tryz.strings_IndexRune_ascii _ _ _ (by omega) (by omega)).mono ?_;rintro e w' ⟨rfl,hw⟩;rw[hw,hback])
    go_ret
    exact⟨_,rfl,hbel',⟨fun _=>kL Hx.out hin,fun _=>by omega⟩⟩
   have hx':128≤(s[i]'hlt).toNat:=by omega
   obtain⟨p1,p2,_⟩:=Y6 s i hlt hx';have HN:=Lib.hid (kH hlt hx' hno.out);have q1:=(decode_high s i hlt hx').1;have q2:=decode_le s i;have hnx:=fun ty=>Lib.run_next_any_at (P:=prog) wr w.heap.size s i ty hit hlt;generalize Utf8.decode s i=d at *;obtain⟨d1,d2⟩:=d;simp only at *;have hit':=Lib.iterAt_heap wr w.heap.size s i (i+d2) hit;have hbel':=Lib.below_iterAt hbel (B3 _) s (i+d2);have hsz:=Lib.iterAt_size wr w.heap.size s (i+d2);generalize wr.iterAt w.heap.size s (i+d2)=w1 at *;have hk1:w.heap.size<w1.heap.size:=(Array.getElem?_eq_some_iff.1 hit').1;have HI:=Lib.hid hit';clear hit hit' hsz
   go_wp2_with fail
   refine(kJ _ _ (by omega) (by omega)).mono ?_;rintro e w2 ⟨rfl,hb2⟩
   go_wp2
   go_roundg g
   case measure=>omega
   case rel=>exact⟨i+d2,by omega,by omega,(hb2.block _ hk1).trans HI.out,hbel'.trans (hb2.mono (by omega)),HN⟩
  obtain rfl:i=s.size:=by omega
  have hnx:=fun ty=>Lib.run_next_end_at (P:=prog) wr w.heap.size s s.size ty hit hlt
  go_wp2
  go_ret
  exact⟨_,rfl,hbel,⟨fun h=>absurd h (by decide),fun h=>absurd h (kK hno.out)⟩⟩
theorem kN(s:ByteArray):(0≤Lib.indexAny s.data.toList [0,47])↔((0:UInt8)∈s.data.toList∨(47:UInt8)∈s.data.toList):=by
 generalize s.data.toList=l
 induction l with
 |nil=>simp[Lib.indexAny]
 |cons b l ih=>
   have hge:=Lib.indexAny_ge [0,47] l;unfold Lib.indexAny;by_cases hb:[0,47].contains b=true
   ·rw[if_pos hb];simp only[List.contains_cons,List.contains_nil,Bool.or_false,Bool.or_eq_true,beq_iff_eq]at hb;rcases hb with rfl|rfl<;>simp
   rw[if_neg hb];have h0:(0:UInt8)≠b:=by rintro rfl;simp at hb
   have h47:(47:UInt8)≠b:=by rintro rfl;simp at hb
   simp only[List.mem_cons,h0,h47,false_or];rw[←ih];split
   ·rename_i h;have:Lib.indexAny l [0,47]= -1:=by simpa using h
    rw[this]
   rename_i h;have:Lib.indexAny l [0,47]≠ -1:=by simpa using h
   constructor<;>intro h'<;>omega
theorem kO(s:ByteArray)(w:World)(hs:s.size≤1000000):Calls prog 245 #[.string s, .string ⟨#[0,47]⟩] w (Y7 s w):=by
 by_cases h8:s.size≤8
 ·exact kM s w h8
 refine(Tryz.strings_IndexAny_long (fun w=>by kernel_rfl) s ⟨#[0,47]⟩ w (by decide) (by omega) (by omega) (by decide) ?_).mono ?_
 ·intro j b hj;have:b∈[0,47]:=Aj hj;simp at this;rcases this with rfl|rfl<;>decide
 rintro e w' ⟨rfl,rfl⟩;exact⟨_,rfl,N4 _ _ _,kN s⟩
def Tz(s:ByteArray):Bool:=decide ((0:UInt8)∈s.data.toList∨(47:UInt8)∈s.data.toList)
theorem kP(s:ByteArray)(w:World)(hs:s.size≤1000000):
    Calls prog 186 #[.string s, .string ⟨#[0,47]⟩] w fun e w'=>e= .returned (.bool (Tz s))∧Below w.heap.size w w':=by
 go_enter Tryz.func186,Tryz.ntmps186
 go_wp2_with fail
 refine(kO s w hs).mono ?_;rintro e w' ⟨v,rfl,hb,hv⟩;have HV:=Lib.hid hv;clear hv
 go_wp2
 go_ret
 exact⟨N2 (decide_eq_decide.2 HV.out),hb⟩
theorem Y8(s:ByteArray):(s.toList==[46])=decide (s.data.toList=[46]):=by rw[Ls,Bool.eq_iff_iff];simp
theorem Y9(s:ByteArray):(s.toList==[46,46])=decide (s.data.toList=[46,46]):=by rw[Ls,Bool.eq_iff_iff];simp
set_option maxHeartbeats 1000000 in
theorem kQ(s:ByteArray)(w:World):
    Calls prog 131 #[.string s] w fun e w'=>e= .returned (.bool (FU s.data.toList))∧Below w.heap.size w w':=by
 have hsz:=Lib.size_eq s;by_cases h0:s.size=0
 ·have he:s.toList.isEmpty=true:=by rw[Y4];simp[h0]
  have he':s.toList=[]:=List.isEmpty_iff.1 he
  have HF:Hid (FU s.data.toList=false):=Lib.hid (by
   rw[←Ls,he'];rfl)
  clear hsz
  go_enter Tryz.func131,Tryz.ntmps131
  go_wp2
  go_ret
  exact⟨N2 HF.out.symm,Below.refl _ _⟩
 have he:s.toList.isEmpty=false:=by rw[Y4];simp[h0]
 have hne:s.data.toList≠[]:=by intro e;rw[e]at hsz;exact h0 hsz
 by_cases h12:s.size≤12
 ·have hle:decide ((s.size:Int)≤12)=true:=decide_eq_true (by omega);by_cases h1:s.data.toList=[46]
  ·have e1:(s.toList==[46])=true:=by rw[Y8];simp[h1]
   have e1':(s.toList != [46])=false:=by simp[bne,e1]
   have HF:Hid (FU s.data.toList=false):=Lib.hid (by rw[h1];rfl);clear hsz hne h1
   go_enter Tryz.func131,Tryz.ntmps131
   go_wp2
   go_ret
   exact⟨N2 HF.out.symm,Below.refl _ _⟩
  have e1:(s.toList==[46])=false:=by rw[Y8];simp[h1]
  have e1':(s.toList != [46])=true:=by simp[bne,e1]
  by_cases h2:s.data.toList=[46,46]
  ·have e2:(s.toList==[46,46])=true:=by rw[Y9];simp[h2]
   have e2':(s.toList != [46,46])=false:=by simp[bne,e2]
   have HF:Hid (FU s.data.toList=false):=Lib.hid (by rw[h2];rfl);clear hsz hne h1 h2
   go_enter Tryz.func131,Tryz.ntmps131
   go_wp2
   go_ret
   exact⟨N2 HF.out.symm,Below.refl _ _⟩
  have e2:(s.toList==[46,46])=false:=by rw[Y9];simp[h2]
  have e2':(s.toList != [46,46])=true:=by simp[bne,e2]
  have HF:Hid (FU s.data.toList= !Tz s):=Lib.hid (by
   unfold Tz;rw[Bool.eq_iff_iff,Qs];simp only[Bool.not_eq_true',decide_eq_false_iff_not,not_or]
   exact⟨fun h=>h.2.2.2.2,fun h=>⟨hne,by omega,h1,h2,h⟩⟩)
  clear hsz hne h1 h2
  go_enter Tryz.func131,Tryz.ntmps131
  go_wp2_with fail
  refine(kP s _ (by omega)).mono ?_;rintro e w' ⟨rfl,hb⟩
  go_wp2
  go_ret
  exact⟨N2 HF.out.symm,hb⟩
 have hle:decide ((s.size:Int)≤12)=false:=decide_eq_false (by omega);have HF:Hid (FU s.data.toList=false):=Lib.hid (decide_eq_false (fun h=>by have:=h.2.1;omega));clear hsz hne
 go_enter Tryz.func131,Tryz.ntmps131
 go_wp2
 go_ret
 exact⟨N2 HF.out.symm,Below.refl _ _⟩
theorem U0{α:Type}(p:α→Bool):∀(l:List α) (i:Nat) (m:α),(l.filter p)[i]?=some m→∃j:Nat,l[j]?=some m∧(l.filter p).take i=(l.take j).filter p
 |[],i,m,h=>by simp at h
 |x::l,i,m,h=>by
   rw[List.filter_cons]at h ⊢
   cases hx:p x with
   |false=>
     rw[hx]at h;obtain⟨j,h1,h2⟩:=U0 p l i m (by simpa using h);exact⟨j+1,by simpa using h1,by simp[hx,h2]⟩
   |true=>
     rw[hx]at h
     cases i with
     |zero=>exact⟨0,by simpa using h,by simp⟩
     |succ i=>
       obtain⟨j,h1,h2⟩:=U0 p l i m (by simpa using h);exact⟨j+1,by simpa using h1,by simp[hx,h2]⟩
theorem kT{s:Spc}(hv:SpcV s)(dev:Int)(h0:(Hi s dev).2=0):SpcV (Hi s dev).1∧(Hi s dev).1=⟨s.files,s.mounts.filter fun m:E0=>decide (m.1≠dev)⟩:=by
 unfold Hi at h0 ⊢;split at h0
 ·exact absurd h0 (by decide)
 rename_i c1;split at h0
 ·exact absurd h0 (by decide)
 rename_i c2;rw[if_neg c1,if_neg c2];refine⟨⟨hv.files,hv.pos,fun i m hi=>?_⟩,rfl⟩;obtain⟨j,h1,h2⟩:=U0 _ s.mounts i m hi;have hm:=hv.mnt j m h1;show MntOK s.files ((s.mounts.filter _).take i) m;rw[h2];refine⟨hm.dev1,hm.dev2,?_,hm.dir,?_,?_⟩
 ·have hf:=hm.fresh;rw[←Bool.not_eq_true]at hf ⊢;exact fun h=>hf (XQ h fun x hx=>(List.mem_filter.1 hx).1)
 ·by_cases hz:m.2.1=0
  ·unfold DL;simp[hz]
  obtain⟨m',hm',e⟩:=Th hm.there hz;rw[←e];refine Ti (s:=⟨s.files,(s.mounts.take j).filter fun m:E0=>decide (m.1≠dev)⟩) (List.mem_filter.2 ⟨hm',decide_eq_true ?_⟩);intro e2;have hany:(s.mounts.any fun m:E0=>decide (m.2.1=dev))=true:=List.any_eq_true.2 ⟨m,Aj h1,decide_eq_true (by rw[←e,e2])⟩;exact c2 hany
 have hf:=hm.free
 cases hc:Di ⟨s.files,(s.mounts.take j).filter fun m:E0=>decide (m.1≠dev)⟩ m.2 with
 |none=>rfl
 |some d=>
   exfalso;obtain⟨k,hk⟩:=Tk hc;have hmem:=(List.mem_filter.1 (Aj hk)).1
   cases hc2:Di ⟨s.files,s.mounts.take j⟩ m.2 with
   |some d'=>rw[hc2]at hf;cases hf
   |none=>
     unfold Di at hc2
     cases hq:(s.mounts.take j).find? fun x:E0=>decide (x.2=m.2)with
     |some y=>rw[hq]at hc2;cases hc2
     |none=>have:=List.find?_eq_none.1 hq _ hmem;simp at this
section
theorem kU(s:Spc)(hs:SpcB s):AFn prog 126 [.agg (AY s)] (fun r=>r= .agg (AY s)):=by
 have hfew:=hs.few;refine enter Tryz.func126 rfl rfl rfl rfl rfl 0 rfl ?_;refine w_ (b_ (h:=CY (h:=e_ (q_ (BO ([(0,AY s)]) 8 (h:=AD 0 (h:=?_)))))));refine A9 1 (h:=?_);refine AD 3 (h:=?_);refine A9 4 (h:=?_);refine c_ 2 rfl (A8 (TZ s.files hs.files) ?_);rintro r rfl;refine o_ (h:=?_)
 first|refine c_ 5 rfl (EF rfl rfl rfl (by simp;omega) (by repeat constructor) ?_)|refine c_ 5 rfl (Ht rfl rfl (by simp;omega) (by repeat constructor) ?_)
 refine o_ (h:=JE 6 (h:=?_));refine B6 7 (h:=z_ (h:=t_ (B5 (?_))));refine AU (r:= .agg (AY s)) none (h5:=?_) (h6:=⟨rfl,rfl,rfl⟩);exact LeA.agg (LeL.cons (A7 _) (LeL.cons (LeA.tok _ _ _) LeL.nil))
end
end Go.Proofs.YtbgnigjfkbmceaaGreatDoor
namespace Go.Proofs.YtbgnigjfkbmceaaGreatDoor
open Go.RowKit Go.Shelf
attribute [local go_sem] Oper.semAt_some
theorem kV(s:ByteArray)(w:World):
    Calls prog 239 #[.string s, .string ⟨#[47]⟩] w fun e w'=>
     e= .returned (.func (.func 274) #[] #[.pointer (some ⟨w.heap.size+1,0,none⟩), .pointer (some ⟨w.heap.size,0,none⟩), .pointer (some ⟨w.heap.size+1+1,0,none⟩)])∧
     w'=((w.alloc (.cells #[.string s] 9)).alloc (.cells #[.string ⟨#[47]⟩] 9)).alloc (.cells #[.int .i64 0] 3):=by
 go_enter Tryz.func239,Tryz.ntmps239
 go_wp2
 go_ret
 exact⟨rfl,rfl⟩
def U1(w:World)(b:Nat):Nat:=match w.cell? ⟨b,0,none⟩with
 |some (.string r)=>r.size
 |_=>0
theorem YA{w:World}{b:Nat}{t:TypeId}{r:ByteArray}(h:Boxed w b t (.string r)):U1 w b=r.size:=by simp[U1,h.cell]
def Keep3(a b c:Nat)(X Y:World):Prop:=Y.heap[a]?=X.heap[a]?∧Y.heap[b]?=X.heap[b]?∧Y.heap[c]?=X.heap[c]?
theorem Keep3.trans{a b c:Nat}{X Y Z:World}(h:Keep3 a b c X Y)(k:Keep3 a b c Y Z):Keep3 a b c X Z:=⟨k.1.trans h.1,k.2.1.trans h.2.1,k.2.2.trans h.2.2⟩
theorem kW{a b c N:Nat}(ha:a<N)(hb:b<N)(hc:c<N)(W:World)(l:Nat)(o':Obj)(hl:N≤l):Keep3 a b c W (W.putObj l o'):=
 ⟨World.putObj_heap_other (by omega),World.putObj_heap_other (by omega),World.putObj_heap_other (by omega)⟩
theorem kX{a b c:Nat}{X Y:World}(h:Below X.heap.size X Y)(ha:a<X.heap.size)(hb:b<X.heap.size)(hc:c<X.heap.size):Keep3 a b c X Y:=⟨h.block _ ha,h.block _ hb,h.block _ hc⟩
theorem YB(s:ByteArray)(i:Nat)(h:i<s.size):(s.extract (i+1) s.size).size<s.size:=by
 rw[ByteArray.size_extract];omega
theorem kY{s:ByteArray}{i:Nat}(hi:Lib.indexByte s.data.toList 47=i):i<s.size∧Cp s.data.toList=(s.extract 0 i).data.toList::Cp (s.extract (i+1) s.size).data.toList:=by
 have hm:(47:UInt8)∈s.data.toList:=by
  apply Classical.byContradiction;intro h;rw[jY h]at hi;omega
 obtain⟨j,hj,hlt,hl,hn⟩:=Y5 hm;obtain rfl:j=i:=by omega
 refine⟨by rw[Lib.size_eq];exact hlt,?_⟩;rw[Lib.extract_data,Lib.extract_to_end];simp only[List.drop_zero,Nat.sub_zero]
 conv=>lhs;rw[hl]
 exact WS hn _
theorem kZ{s:ByteArray}(hi:Lib.indexByte s.data.toList 47<0):Cp s.data.toList=[s.data.toList]:=by
 refine Qt fun h=>?_;obtain⟨i,hi',_⟩:=Y5 h;omega
def Hn(xs:List AE):List Bs:=xs.map fun x=>x.data.toList
set_option maxRecDepth 100000 in
set_option maxHeartbeats 1000000 in
theorem l0(n:Nat)(s:ByteArray)(hs:s.size≤1000000)(b0 b1 b2:Nat)(w:World)(h0:Boxed w b0 9 (.string s))(h1:Boxed w b1 9 (.string ⟨#[47]⟩))(h2:Boxed w b2 3 (.int .i64 0))(h01:b0≠b1)(h02:b0≠b2):
    R3 Fence.wide n prog 274 #[.pointer (some ⟨b1,0,none⟩), .pointer (some ⟨b0,0,none⟩), .pointer (some ⟨b2,0,none⟩)] (fun x:AE=>#[.string x]) (fun b=>b=b0) (Keep3 b0 b1 b2) (fun xs=>Hn xs<+:Cp s.data.toList)
     (fun xs=>Hn xs=Cp s.data.toList) (fun pre=>Hn pre<+:Cp s.data.toList) w:=fun l J Jx W hW hJ hJx hY hst=>by
 have k0:Boxed W b0 9 (.string s):=FH h0 hW h0.lt;have k1:Boxed W b1 9 (.string ⟨#[47]⟩):=FH h1 hW h1.lt;have k2:Boxed W b2 3 (.int .i64 0):=FH h2 hW h2.lt;refine callsIn_of_wp Tryz.func274 rfl trivial ?_ rfl;simp only[Tryz.ntmps274,List.size_toArray,List.length_cons,List.length_nil,Nat.reduceAdd,Nat.reduceSub,Array.replicate_succ,Array.replicate_zero,List.push_toArray,List.append_toArray,List.nil_append,List.cons_append];have c1:=k1.cell
 gi_wp2
 gi_loopw [7] (fun _ wr=>∃(pre:List AE) (r:ByteArray),Boxed wr b0 9 (.string r)∧Boxed wr b1 9 (.string ⟨#[47]⟩)∧Boxed wr b2 3 (.int .i64 0)∧J pre wr∧Hid (Hn pre++Cp r.data.toList=Cp s.data.toList)∧r.size≤s.size) (fun _ wr=>U1 wr b0)
 case atStart=>exact⟨[],s,k0,k1,k2,hst,rfl,B3 _⟩
 case round=>
  obtain⟨pre,r,m0,m1,m2,hj,hpre,hle⟩:=hrel;clear k0 k1 k2 c1 hst;have c0:=m0.cell;have c1:=m1.cell;have c2:=m2.cell;have f0:=m0.frozen
  gi_wp2_with fail
  refine N9 ((callsIn_wide.2 (jX _ _)).mono ?_);rintro e w' ⟨rfl,rfl⟩;have hge:=Lib.indexByte_ge r.data.toList 47;by_cases hneg:Lib.indexByte r.data.toList 47<0
  ·have HS:=Lib.hid (kZ hneg);obtain⟨fn,tmps,assign,body,hy,hR⟩:=hY pre r wr hj (by rw[←hpre.out,HS.out];simp[Hn])
   gi_wp2
   refine⟨(fun h=>by cases h),hR.mono ?_⟩;rintro e W3 (⟨rfl,hJ3,hk3⟩|⟨rfl,hJx3⟩)
   ·gi_wp2
    go_end0
    exact⟨⟨_,rfl⟩, .inl ⟨pre++[r],by rw[←hpre.out,HS.out];simp[Hn],hJ3⟩⟩
   gi_wp2
   go_end0
   exact⟨⟨_,rfl⟩, .inr ⟨pre++[r],by rw[←hpre.out,HS.out];simp[Hn],hJx3⟩⟩
  obtain⟨i,hi⟩:=Int.eq_ofNat_of_zero_le (show 0≤Lib.indexByte r.data.toList 47 by omega);obtain⟨hlt,hseg⟩:=kY hi;have HS:=Lib.hid hseg;clear hseg hge hneg;rw[hi];clear hi;obtain⟨fn,tmps,assign,body,hy,hR⟩:=hY pre (r.extract 0 i) wr hj (by rw[←hpre.out,HS.out];simp[Hn])
  gi_wp2
  refine⟨(fun h=>by cases h),hR.mono ?_⟩;rintro e W3 (⟨rfl,hJ3,hk3⟩|⟨rfl,hJx3⟩)
  ·have q0:Boxed W3 b0 9 (.string r):=hk3.1.trans m0;have q1:Boxed W3 b1 9 (.string ⟨#[47]⟩):=hk3.2.1.trans m1;have q2:Boxed W3 b2 3 (.int .i64 0):=hk3.2.2.trans m2;clear c0 c1 c2 f0 hy hR;have c0:=q0.cell;have c1:=q1.cell;have c2:=q2.cell;have f0:=q0.frozen
   gi_wp2
   go_roundw
   case rel=>exact⟨pre++[r.extract 0 i],r.extract (i+1) r.size,q0.set _,q1.other (Ne.symm h01) _,q2.other (Ne.symm h02) _,hJ _ _ _ hJ3 (Moves.set_ (own:=fun b=>b=b0) _ rfl _),Lib.hid (by rw[←hpre.out,HS.out];simp[Hn]),Nat.le_trans (Nat.le_of_lt (YB r i hlt)) hle⟩
   case measure=>rw[YA (q0.set _),YA m0];exact YB r i hlt
  gi_wp2
  refine bodyPost_ret (results_none rfl _ _ _) rfl ?_;exact⟨⟨_,rfl⟩, .inr ⟨pre++[r.extract 0 i],by rw[←hpre.out,HS.out];simp[Hn],hJx3⟩⟩
end Go.Proofs.YtbgnigjfkbmceaaGreatDoor
namespace Go.Proofs.YtbgnigjfkbmceaaGreatDoor
open Go.RowKit Go.Shelf
attribute [local go_sem] Oper.semAt_some
theorem U2(l:Bs):Lib.hasPrefix l [47]=decide (l.head?=some 47):=by
 unfold Lib.hasPrefix
 cases l with
 |nil=>simp
 |cons c t=>
   rw[Bool.eq_iff_iff,List.isPrefixOf_iff_prefix];simp[List.cons_prefix_cons,eq_comm]
theorem l3{l:Bs}(h:l.head?=some 47):Lib.trimPrefix l [47]=l.tail:=by
 unfold Lib.trimPrefix;rw[U2,if_pos (by simp[h])];simp
set_option maxRecDepth 100000 in
set_option maxHeartbeats 1000000 in
theorem YC(s:ByteArray)(w:World)(h:s.data.toList=[47]∨s.data.toList.head?≠some 47):
    Calls prog 183 #[.string s] w fun e w'=>e= .returned (.bool (FV s.data.toList))∧Below w.heap.size w w':=by
 by_cases h1:s.data.toList=[47]
 ·obtain rfl:s=⟨#[47]⟩:=Y3 h1
  go_enter Tryz.func183,Tryz.ntmps183
  go_wp2
  exact bodyPost_ret (v:= .bool true) (by simp[results,Tryz.results183,go_sem]) rfl ⟨rfl,(Below.refl _ _).alloc (B3 _) _⟩
 have h2:s.data.toList.head?≠some 47:=h.resolve_left h1;have e1:(s.toList==[47])=false:=by rw[Ls,beq_eq_false_iff_ne];exact h1
 have HP:=Lib.hid (U2 s.data.toList);have HF:Hid (FV s.data.toList=false):=Lib.hid (by unfold FV;simp[h1,h2]);have HD:Hid (decide (s.data.toList.head?=some 47)=false):=Lib.hid (decide_eq_false h2);clear h h1 h2
 go_enter Tryz.func183,Tryz.ntmps183
 go_wp2_with fail
 refine(Tryz.strings_CutPrefix _ _ _).mono ?_;rintro e w' ⟨rfl,rfl⟩;rw[HP.out,HD.out]
 go_wp2
 exact bodyPost_ret (v:= .bool false) (by simp[results,Tryz.results183,go_sem]) rfl ⟨by rw[HF.out],(Below.refl _ _).alloc (B3 _) _⟩
set_option maxRecDepth 100000 in
set_option maxHeartbeats 1000000 in
theorem l4(n:Nat)(hn:Hid (1≤n))(s:ByteArray)(w:World)(hs:s.size≤1000000)(h1:s.data.toList≠[47])(h2:s.data.toList.head?=some 47):
    CallsIn Fence.wide n prog 183 #[.string s] w fun e w'=>e= .returned (.bool (FV s.data.toList))∧Below w.heap.size w w':=by
 have e1:(s.toList==[47])=false:=by rw[Ls,beq_eq_false_iff_ne];exact h1
 have HP:=Lib.hid (U2 s.data.toList);have HT:=Lib.hid (l3 h2);have HF:Hid (FV s.data.toList=(Cp s.data.toList.tail).all FU):=Lib.hid (by unfold FV;simp[h1,h2]);have HD:Hid (decide (s.data.toList.head?=some 47)=true):=Lib.hid (decide_eq_true h2);clear h1 h2;refine callsIn_of_wp_marks Tryz.func183 rfl trivial ?_ rfl;simp only[Tryz.ntmps183,List.size_toArray,List.length_cons,List.length_nil,Nat.reduceAdd,Nat.reduceSub,Array.replicate_succ,Array.replicate_zero,List.push_toArray,List.append_toArray,List.nil_append,List.cons_append]
 gi_wp2_with fail
 refine N9 ((callsIn_wide.2 (Tryz.strings_CutPrefix _ _ _)).mono ?_);rintro e w' ⟨rfl,rfl⟩;obtain⟨r,hr⟩:∃r:ByteArray,r=⟨(Lib.trimPrefix s.data.toList [47]).toArray⟩:=⟨_,rfl⟩;have hrl:r.data.toList=s.data.toList.tail:=by rw[hr,←HT.out]
 have HR:=Lib.hid hrl;have hrs:r.size≤1000000:=by rw[Lib.size_eq,hrl,List.length_tail,←Lib.size_eq];omega
 rw[HP.out,HD.out];rw[show(⟨(Lib.trimPrefix s.data.toList (ByteArray.mk #[47]).data.toList).toArray⟩:ByteArray)=r from hr.symm];clear hrl hr
 gi_wp2_with fail
 refine N9 ((callsIn_wide.2 (kV _ _)).mono ?_);rintro e w' ⟨rfl,rfl⟩
 gi_wp2_with fail
 have hR:Boxed (w.alloc (.cells #[.bool false] 4)) w.heap.size 4 (.bool false):=Boxed.new _ _ _;obtain⟨W0,hW0⟩:∃W0,w.alloc (.cells #[.bool false] 4)=W0:=⟨_,rfl⟩;have hz0:W0.heap.size=w.heap.size+1:=by rw[←hW0];simp
 have hB0:Below w.heap.size w W0:=by rw[←hW0];exact LC _ _
 rw[hW0]at hR ⊢;obtain⟨WL,hWL⟩:∃WL,((W0.alloc (.cells #[.string r] 9)).alloc (.cells #[.string ⟨#[47]⟩] 9)).alloc (.cells #[.int .i64 0] 3)=WL:=⟨_,rfl⟩;have hzL:WL.heap.size=w.heap.size+1+1+1+1:=by rw[←hWL];simp[hz0]
 have hBL:Below W0.heap.size W0 WL:=by rw[←hWL];exact Ol _ _ _ _
 have k0:Boxed WL (w.heap.size+1) 9 (.string r):=by rw[←hWL,←hz0];exact Sn _ _ _ _
 have k1:Boxed WL (w.heap.size+1+1) 9 (.string ⟨#[47]⟩):=by rw[←hWL,←hz0];exact Om _ _ _ _
 have k2:Boxed WL (w.heap.size+1+1+1) 3 (.int .i64 0):=by rw[←hWL,←hz0];exact So _ _ _ _
 have kR:Boxed WL w.heap.size 4 (.bool false):=FH hR hBL hR.lt;have hBw:Below w.heap.size w WL:=hB0.trans (hBL.mono (by omega));rw[hWL];have HB0:=Lib.hid hz0;have HBL:=Lib.hid hzL;clear hW0 hWL hz0 hR hB0 hBL hzL
 refine eZ rfl hn.out (gf:=274) rfl trivial (enters_of Tryz.func274 (by kernel_rfl) rfl)
  (l0 (n - 1) r hrs (w.heap.size+1) (w.heap.size+1+1) (w.heap.size+1+1+1) WL k0 k1 k2 (by omega) (by omega))
  (fun b hb=>by have:=HBL.out;omega) Keep3.trans (fun W l o o' hl _ _=>by have:=HBL.out;exact kW (N:=WL.heap.size) (by omega) (by omega) (by omega) W l o' hl) (Below.refl _ _) (fun _=>rfl)
  (fun pre W=>Boxed W w.heap.size 4 (.bool false)∧(∀p∈Hn pre,FU p=true)∧Below w.heap.size w W)
  (fun c pre W=>c= .ret∧Boxed W w.heap.size 4 (.bool false)∧(∃p∈Hn pre,FU p=false)∧Below w.heap.size w W)
  (fun s X Y h hm=>⟨hm.boxed h.1 (by omega),h.2.1,hm.under h.2.2 (B3 _) (fun b hb=>by omega) (by have:=HBL.out;omega)⟩)
  (fun c s X Y h hm=>⟨h.1,hm.boxed h.2.1 (by omega),h.2.2.1,hm.under h.2.2.2 (B3 _) (fun b hb=>by omega) (by have:=HBL.out;omega)⟩)
  ⟨kR,by simp[Hn],hBw⟩
  (fun x=>{tmps:=#[.string s,undef, .pointer (some ⟨w.heap.size,0,none⟩), .string r, .bool true, .string x, .string s, .bool false, .tuple #[.string r, .bool true], .string s, .tuple #[.string r, .bool true], .string r, .bool true, .bool true, .bool false, .string r,
    .func (.func 274) #[] #[.pointer (some ⟨w.heap.size+1+1,0,none⟩), .pointer (some ⟨w.heap.size+1,0,none⟩), .pointer (some ⟨w.heap.size+1+1+1,0,none⟩)], .string x,undef,undef,undef],defers:=[]}) ?assign ?body ?done ?stop
 case assign=>
  intro l x W K hK
  gi_wp2
  exact hK
 case body=>
  rintro l pre x W ⟨hc,hnm,hbw⟩ _ hsz;have hcell:=hc.cell;have hfz:=hc.frozen;have HN:=Lib.hid hnm;have HZ:=Lib.hid hsz;clear hnm hsz
  gi_wp2_with fail
  refine N9 ((CallsIn.inRound l (callsIn_wide.2 (kQ x W))).mono ?_);rintro e W' ⟨rfl,hb'⟩;have hc':Boxed W' w.heap.size 4 (.bool false):=FH hc hb' hc.lt;have hbw':Below w.heap.size w W':=hbw.trans (hb'.mono hbw.size);clear hcell hfz;have hcell:=hc'.cell;have hfz:=hc'.frozen;have HX:Hid (Hn (pre++[x])=Hn pre++[x.data.toList]):=Lib.hid (by simp[Hn])
  cases hnx:FU x.data.toList with
  |true=>
    gi_wp2
    have h1:=HBL.out;have h2:=HZ.out;exact⟨Qx hb',kX hb' (by omega) (by omega) (by omega),hc',by rw[HX.out];intro p hp;rcases List.mem_append.1 hp with hp|hp;exact HN.out p hp;simp at hp;rw[hp];exact hnx,hbw'⟩
  |false=>
    gi_wp2
    have h1:=HBL.out;exact⟨Wa (Qx hb') (by omega) _,rfl,hc'.set _,⟨x.data.toList,by rw[HX.out];simp,hnx⟩,hbw'.setCell (B3 _) _⟩
 case done=>
  rintro D xs W hD hS ⟨hc,hnm,hbw⟩ hK;have HS:=Lib.hid hS;have HN:=Lib.hid hnm;clear hS hnm;have hcell:=hc.cell;have hfz:=hc.frozen
  gi_wp2
  refine⟨by simp, .inl ⟨_,_,rfl,run_takeDeferred ((KeepsOthers.setCell _ _ _).same D _ hK rfl),?_⟩⟩;have h1:=HBL.out;have hcb:=(Qy (hc.set (.bool true)) (show w.heap.size≠D by omega) (.deferred none)).cell;refine⟨.bool true,by simp[results,Tryz.f183,go_sem,hcb],by rw[HF.out,←HR.out,←HS.out,List.all_eq_true.2 HN.out],Qz (hbw.setCell (p:=⟨w.heap.size,0,none⟩) (B3 _) _) (by omega) _⟩
 case stop=>
  rintro D c pre W hD hSp ⟨rfl,hc,hnm,hbw⟩ hK;have HS:=Lib.hid hSp;have HN:=Lib.hid hnm;clear hSp hnm;have hcell:=hc.cell
  gi_wp2
  refine⟨by simp, .inl ⟨_,_,rfl,run_takeDeferred hK,?_⟩⟩;have h1:=HBL.out;have hcb:=(Qy hc (show w.heap.size≠D by omega) (.deferred none)).cell;refine⟨.bool false,by simp[results,Tryz.f183,go_sem,hcb],?_,Qz hbw (by omega) _⟩;obtain⟨p,hp,hpf⟩:=HN.out;rw[HF.out,←HR.out,List.all_eq_false.2 ⟨p,HS.out.subset hp,by simp[hpf]⟩]
theorem l6(s:ByteArray)(w:World)(hs:s.size≤1000000):
    Calls prog 183 #[.string s] w fun e w'=>e= .returned (.bool (FV s.data.toList))∧Below w.heap.size w w':=by
 by_cases h1:s.data.toList=[47]
 ·exact YC s w (.inl h1)
 by_cases h2:s.data.toList.head?=some 47
 ·exact callsIn_wide.1 (l4 6 (Lib.hid (by omega)) s w hs h1 h2)
 exact YC s w (.inr h2)
end Go.Proofs.YtbgnigjfkbmceaaGreatDoor
namespace Go.Proofs.YtbgnigjfkbmceaaGreatDoor
open Go.RowKit Go.Shelf
attribute [local go_sem] Oper.semAt_some
end Go.Proofs.YtbgnigjfkbmceaaGreatDoor
namespace Go.Proofs.YtbgnigjfkbmceaaGreatDoor
open Go.RowKit Go.Shelf
attribute [local go_sem] Oper.semAt_some
end Go.Proofs.YtbgnigjfkbmceaaGreatDoor
namespace Go.Proofs.YtbgnigjfkbmceaaGreatDoor
open Go.RowKit
theorem l7{s:Spc}{start:AB}{p:AE}{fl:Bool}(h1:¬p=⟨#[]⟩)(h2:128<p.size):C2 s start p fl=(G7,36):=by unfold C2;rw[if_neg h1,if_pos h2]
section
variable {s:Spc}{start a:AB}{p:AE}{fl:Bool}(h1:¬p=⟨#[]⟩)(h2:¬128<p.size)(ha:(if Hk p=true then Hl s else start)=a)
include h1 h2 ha
theorem l8(hd:Af s.files a=false):C2 s start p fl=(G7,2):=by
 unfold C2;rw[if_neg h1,if_neg h2,ha,if_pos hd]
variable (hd:Af s.files a=true)
include hd
theorem PR{e:Int}{τ:Lk}(h:G8 s (fl||Bf p) (Ks (FX p) a)=(e,τ))(he:e≠0):C2 s start p fl=(G7,e):=by
 unfold C2;rw[if_neg h1,if_neg h2,ha,if_neg (by simp[hd]),h,if_pos he]
theorem l9{τ:Lk}(h:G8 s (fl||Bf p) (Ks (FX p) a)=(0,τ))(hs:Bf p=true∧τ.ex=true∧Af s.files τ.file=false):C2 s start p fl=(G7,20):=by
 unfold C2;rw[if_neg h1,if_neg h2,ha,if_neg (by simp[hd]),h,if_neg (by simp),if_pos hs]
theorem U3{τ:Lk}(h:G8 s (fl||Bf p) (Ks (FX p) a)=(0,τ))(hs:¬(Bf p=true∧τ.ex=true∧Af s.files τ.file=false)):C2 s start p fl=(MZ s (Bf p) τ,0):=by
 unfold C2;rw[if_neg h1,if_neg h2,ha,if_neg (by simp[hd]),h,if_neg (by simp),if_neg hs]
end
section
theorem U4{s:Spc}(hs:SpcB s)(hv:SpcV s)(a:AB):AFn prog 193 [.agg (AY s), .agg (AA a)] (fun r=>r= .agg (AA (FG s s.mounts.length a))):=
 (cL s a hs).mono fun r hr=>by rw[hr,iT hv]
end
def PS(σ:Lk):List AV:=Ah ⟨σ.dir,σ.name,σ.file,σ.ex,false,⟨#[]⟩⟩
theorem Kw{s:Spc}(hv:FlsV s.files){F:Bool}{q:AE}{qs:List AE}{da:AB}{na:AE}{a:AB}{ea:Bool}{lk:Nat}(h8:lk≤8):(∀e,DS s F q qs a lk= .inl e→G8 s F ⟨q::qs,da,na,a,ea,lk⟩=(e,Tr))∧∀τ,DS s F q qs a lk= .inr τ→τ.links≤8∧G8 s F ⟨q::qs,da,na,a,ea,lk⟩=G8 s F τ∧GS τ<(8 - lk) * 200+(qs.length+1):=by
 have hc:=jE hv (fl:=F) (σ:=⟨q::qs,da,na,a,ea,lk⟩) (p:=q) (ps:=qs) h8 rfl;refine⟨fun e he=>?_,fun τ hτ=>?_⟩
 ·rw[hc];simp only[he]
 obtain⟨h1,h2⟩:=Ts hv h8 hτ;refine⟨h1,?_,h2⟩;rw[hc];simp only[hτ]
section
theorem YD(s:Spc)(hs:SpcB s)(hv:SpcV s):AFn prog 192 [.agg (AY s)] (fun r=>r= .agg (AA (Hl s))):=by
 refine enter Tryz.func192 rfl rfl rfl rfl rfl 0 rfl ?_;refine EH (h:=e_ (C5 (h:=Bi (h:=?_))));refine A3 rfl (A8 (U4 hs hv (0,1)) ?_);rintro r rfl;refine s_ (h:=e_ (B5 (?_)));refine A6 ?_;rfl
theorem YE(s:Spc)(start:AB)(p:AE)(fl:Bool)(hs:SpcN s)(hv:SpcV s)(hp:p.size≤100000):AFn prog 141 [.agg (AY s), .agg (AA start), .v (.string p), .v (.bool fl)] (fun r=>r= .tup [.agg (Ah (C2 s start p fl).1), .v (.int .i64 (C2 s start p fl).2)]):=by
 have hw:=XW hv;have hsp:=Tq p;refine enter Tryz.func141 rfl rfl rfl rfl rfl 0 rfl ?_;refine Ff (h:=Bu (h:=?_));refine A3 rfl (A8 (To p hp) ?_);rintro r ⟨ps,hps,rfl⟩;obtain rfl:=Xj hps;clear hps;refine GF (h:=x_ (h:=a_ (h:=a_ (h:=Bn (h:=BN (h:=?_))))));refine A4 rfl (fun hb1 hc1=>?_) (fun hb1 hc1=>?_)
 ·refine Bq (h:=?_);refine A6 ?_;rw[show C2 s start p fl=(G7,2) from if_pos hc1];rfl
 refine Ds (h:=Gu (h:=e_ (?_)));refine A4 rfl (fun hb2 hc2=>?_) (fun hb2 hc2=>?_)
 ·refine Bq (h:=?_);refine A6 ?_;rw[l7 hc1 (by omega)];rfl
 refine AF (C5 (h:=Dz (h:=?_)));refine B9 (fun t=>∃a,(if Hk p=true then Hl s else start)=a∧t=⟨look [(3, .v (.bool fl)),(4, .bp 0 0),(8, .bp 2 0),(10, .sl 1 ((FX p).map Hj) none),(12, .v (.bool (Bf p))),(13, .bp 3 0)],⟨[AY s,AA start,Ah G7,AA a],[]⟩⟩) ?_ ?_
 ·skip
  refine AX (h:=e_ (?_));refine A4 rfl (fun hb3 hc3=>?_) (fun hb3 hc3=>?_)
  ·refine Aw (l_ (h:=?_));refine A3 rfl (A8 (YD s hs.b hv) ?_);rintro r rfl;refine s_ (h:=DC (h:=?_));exact⟨_,⟨Hl s,if_pos hc3,rfl⟩,(wk 4 0)⟩
  refine BD (AT (?_))
  first|exact⟨_,⟨Hl s,if_pos hc3,rfl⟩,(wk 4 0)⟩|exact⟨_,⟨start,if_neg (by simp[hc3]),rfl⟩,(wk 4 0)⟩
 rintro t ⟨a0,ha,rfl⟩;refine Fe (h:=l_ (h:=?_));refine A3 rfl (A8 (Ki s.files a0 hs.b.files) ?_);rintro r rfl;refine DA (h:=?_);refine A4 rfl (fun hb4 hc4=>?_) (fun hb4 hc4=>?_)
 ·refine Bq (h:=?_);refine A6 ?_;rw[l8 hc1 (by omega) ha (by simpa using hc4)];rfl
 have had:Af s.files a0=true:=by simpa using hc4
 refine AF (CN (h:=Bi (h:=Dz (h:=DG (h:=?_)))));refine B9 (fun t=>∃(τ:Lk) (d:AB),G8 s (fl||Bf p) (Ks (FX p) a0)=(0,τ)∧τ.name.size≤1000∧t=⟨look [(4, .bp 0 0),(8, .bp 2 0),(12, .v (.bool (Bf p))),(14, .bp 4 0)],⟨[AY s,AA start,Ah G7,AA d,PS τ],[]⟩⟩) ?_ ?_
 ·skip
  refine BK (?_);refine BU (fun m t=>∃(σ:Lk) (d:AB),σ.links≤8∧σ.name.size≤12∧G8 s (fl||Bf p) σ=G8 s (fl||Bf p) (Ks (FX p) a0)∧m=GS σ∧m≤1729∧t=⟨look [(3, .v (.bool fl)),(4, .bp 0 0),(8, .bp 2 0),(10, .sl 1 (σ.ps.map Hj) none),(12, .v (.bool (Bf p))),(13, .bp 3 0),(14, .bp 4 0),(15, .v (.int .i64 (σ.links:Int)))],⟨[AY s,AA start,Ah G7,AA d,PS σ],[]⟩⟩) (GS (Ks (FX p) a0)) ((wk 5 0)) (⟨_,a0,BH _,BH _,rfl,rfl,by show(8 - 0) * 200+(FX p).length≤1729;omega,rfl⟩) ?_;rintro m t ⟨⟨ps0,da,na,a,ea,lk⟩,d,h8,hna,hT,rfl,hm,rfl⟩;have hm:(8 - lk) * 200+ps0.length≤1729:=hm;have h8:lk≤8:=h8;have hml:(ps0.map Hj).length=ps0.length:=by simp
  refine Bk (h:=Gu (h:=e_ (?_)));refine A4 rfl (fun hb5 hc5=>?_) (fun hb5 hc5=>?_)
  ·obtain⟨q,qs,hps⟩:∃q qs,ps0=q::qs:=by
    cases ps0 with
    |nil=>simp at hc5
    |cons q qs=>exact⟨q,qs,rfl⟩
   subst hps;have hml:(qs.map Hj).length=qs.length:=by simp
   have hmq:(8 - lk) * 200+(qs.length+1)≤1729:=hm;have htg:=TY hv.files (AK s.files a q).1;have htp:=Tq (Ac s.files (AK s.files a q).1).target;refine AF (BK (AX (h:=?_)));refine A3 rfl (D7 (n:=0) rfl rfl rfl rfl ?_);refine l_ (h:=B4 (h:=?_));refine Kd (⟨look [(3, .v (.bool fl)),(4, .bp 0 0),(8, .bp 2 0),(10, .sl 1 (qs.map Hj) none),(12, .v (.bool (Bf p))),(13, .bp 3 0),(14, .bp 4 0),(15, .v (.int .i64 (lk:Int))),(16, .v (.string q))],⟨[AY s,AA start,Ah G7,AA d,PS ⟨q::qs,da,na,a,ea,lk⟩],[]⟩⟩) ?_ ?_
   ·skip
    refine Bt (h:=?_);refine A3 rfl (Up (l:=1) rfl rfl rfl (by simp) ?_);refine Ch (h:=?_)
    first|(exfalso;first|contradiction|omega)|exact Ao 5 0 rfl rfl rfl rfl (by repeat (first|exact Sub.nil|refine Ap rfl rfl ?_|refine At ?_|refine Au rfl ?_|refine Av rfl ?_|(apply Sub.of;(focus exact rfl);(focus exact LeA.of_eq (vb (by rfl)));(focus exact rfl))))
   skip
   refine B0 (h:=s_ (h:=e_ (Fe (h:=l_ (h:=?_)))));refine A3 rfl (A8 (Ki s.files a hs.b.files) ?_);rintro r rfl;refine DA (h:=?_);refine A4 rfl (fun hb6 hc6=>?_) (fun hb6 hc6=>?_)
   ·have hst:DS s (fl||Bf p) q qs a lk= .inl 20:=by unfold DS;rw[if_pos hc6]
    refine Bq (h:=D1 (h:=D1 (h:=?_)));refine A6 ?_;rw[PR hc1 (by omega) ha had (hT.symm.trans ((Kw (F:=fl||Bf p) (da:=da) (na:=na) (ea:=ea) hv.files h8).1 _ hst)) (by decide)];rfl
   refine Ds (h:=Gu (h:=e_ (?_)));refine A4 rfl (fun hb7 hc7=>?_) (fun hb7 hc7=>?_)
   ·have hst:DS s (fl||Bf p) q qs a lk= .inl 36:=by unfold DS;rw[if_neg (by simp[hc6]),if_pos (by omega)]
    refine Bq (h:=D1 (h:=D1 (h:=?_)));refine A6 ?_;rw[PR hc1 (by omega) ha had (hT.symm.trans ((Kw (F:=fl||Bf p) (da:=da) (na:=na) (ea:=ea) hv.files h8).1 _ hst)) (by decide)];rfl
   have hq12:q.size≤12:=by omega
   refine Ds (h:=Dy (h:=?_));refine AJ false rfl rfl (fun hb8 hc8=>?_) (fun hb8 hc8=>?_)
   ·refine B7 (h:=DY (h:=CX (h:=Bk (h:=BN (h:=?_)))));refine A4 rfl (fun hb9 hc9=>?_) (fun hb9 hc9=>?_)
    ·rw[hc8]at hc9;exact absurd hc9 (by decide)
    have hst:DS s (fl||Bf p) q qs a lk= .inr ⟨qs,a,⟨#[]⟩,a,true,lk⟩:=by unfold DS;rw[if_neg (by simp[hc6]),if_neg (by omega),if_pos hc8]
    refine AF (CN (h:=HL (h:=e_ (SU (h:=LW (AT (?_)))))));obtain⟨g1,g2,g3⟩:=(Kw (F:=fl||Bf p) (da:=da) (na:=na) (ea:=ea) hv.files h8).2 _ hst;exact⟨_,_,g3,⟨_,_,g1,(by first|exact BH _|exact hq12),g2.symm.trans hT,rfl,Nat.le_trans (Nat.le_of_lt g3) hmq,rfl⟩,(by(try simp only[List.map_append]);exact Ao 5 0 rfl rfl rfl rfl ((by repeat (first|exact Sub.nil|refine Ap rfl rfl ?_|refine At ?_|refine Au rfl ?_|refine Av rfl ?_))))⟩
   refine D9 (h:=CH (h:=?_));refine A4 rfl (fun hb10 hc10=>?_) (fun hb10 hc10=>?_)
   ·refine Bk (h:=BN (h:=?_));refine A4 rfl (fun hb11 hc11=>?_) (fun hb11 hc11=>?_)
    ·have hst:DS s (fl||Bf p) q qs a lk= .inr ⟨qs,FG s s.mounts.length (GR s (s.mounts.length+1) a),⟨#[]⟩,FG s s.mounts.length (GR s (s.mounts.length+1) a),true,lk⟩:=by unfold DS;rw[if_neg (by simp[hc6]),if_neg (by omega),if_neg hc8,if_pos hc11]
     refine BO ([(0,AY s),(3,AA a)]) 5 (h:=A9 0 (h:=A9 1 (h:=A9 2 (h:=?_))));refine c_ 3 rfl (A8 (jA hs.b hv (s.mounts.length+1) a (by have:=iP (s:=s) a.1;omega)) ?_);rintro r rfl;refine o_ (h:=?_);refine c_ 4 rfl (A8 (U4 hs.b hv (GR s (s.mounts.length+1) a)) ?_);rintro r rfl;refine o_ (h:=?_);refine B6 5 (h:=z_ (h:=t_ (w_ (l_ (h:=l_ (h:=Bi (h:=s_ (h:=e_ (Mi (Ke (LW (AT (?_)))))))))))));obtain⟨g1,g2,g3⟩:=(Kw (F:=fl||Bf p) (da:=da) (na:=na) (ea:=ea) hv.files h8).2 _ hst;exact⟨_,_,g3,⟨_,_,g1,(by first|exact BH _|exact hq12),g2.symm.trans hT,rfl,Nat.le_trans (Nat.le_of_lt g3) hmq,rfl⟩,(by(try simp only[List.map_append]);exact Ao 5 0 rfl rfl rfl rfl ((by repeat (first|exact Sub.nil|refine Ap rfl rfl ?_|refine At ?_|refine Au rfl ?_|refine Av rfl ?_))))⟩
    exact absurd hc10 hc11
   refine AF (B0 (h:=Gv (h:=?_)));refine A3 rfl (A8 (Kk s.files a q hs.b.files) ?_);rintro r rfl;refine JG (h:=Bo (h:=?_));refine A4 rfl (fun hb12 hc12=>?_) (fun hb12 hc12=>?_)
   ·refine Bk (h:=Gu (h:=m_ (h:=?_)));refine AJ false rfl rfl (fun hb13 hc13=>?_) (fun hb13 hc13=>?_)
    ·have hne:qs≠[]:=fun e=>by rw[e]at hc13;simp at hc13
     have hst:DS s (fl||Bf p) q qs a lk= .inl 2:=by unfold DS;rw[if_neg (by simp[hc6]),if_neg (by omega),if_neg hc8,if_neg hc10,if_pos hc12,if_pos (.inl hne)]
     refine ER (h:=CX (h:=Bq (h:=CT (h:=D1 (h:=?_)))));refine A6 ?_;rw[PR hc1 (by omega) ha had (hT.symm.trans ((Kw (F:=fl||Bf p) (da:=da) (na:=na) (ea:=ea) hv.files h8).1 _ hst)) (by decide)];rfl
    have hne:¬qs≠[]:=fun e=>e (FN (by omega));refine m_ (h:=?_);refine Aq (A8 (Sa q (by omega)) ?_);rintro r rfl;refine DP (h:=CH (h:=?_));refine A4 rfl (fun hb14 hc14=>?_) (fun hb14 hc14=>?_)
    ·have hst:DS s (fl||Bf p) q qs a lk= .inl 2:=by unfold DS;rw[if_neg (by simp[hc6]),if_neg (by omega),if_neg hc8,if_neg hc10,if_pos hc12,if_pos (.inr hc14)]
     refine Bq (h:=CT (h:=D1 (h:=?_)));refine A6 ?_;rw[PR hc1 (by omega) ha had (hT.symm.trans ((Kw (F:=fl||Bf p) (da:=da) (na:=na) (ea:=ea) hv.files h8).1 _ hst)) (by decide)];rfl
    have hst:DS s (fl||Bf p) q qs a lk= .inr ⟨[],a,q,(0,0),false,lk⟩:=by unfold DS;rw[if_neg (by simp[hc6]),if_neg (by omega),if_neg hc8,if_neg hc10,if_pos hc12,if_neg (fun e=>e.elim hne (by simp[hc14]))]
    have hfin:=hT.symm.trans (((Kw (F:=fl||Bf p) (da:=da) (na:=na) (ea:=ea) hv.files h8).2 _ hst).2.1.trans (Xk rfl));refine AF (w_ (l_ (h:=m_ (h:=Bi (h:=s_ (h:=e_ (Mi (Ke (ZV rfl (Ke (LW (AT (?_)))))))))))));exact⟨_,⟨_,_,hfin,(by first|exact Nat.le_trans hna (by decide)|exact Nat.le_trans hq12 (by decide)),rfl⟩,(wk 5 0)⟩
   refine AF (B0 (h:=l_ (h:=?_)));refine A3 rfl (A8 (FF s.files (AK s.files a q).1 hs.b.files) ?_);rintro r rfl;refine FC (h:=B4 (h:=q_ (?_)));refine Kd (⟨look [(3, .v (.bool fl)),(4, .bp 0 0),(8, .bp 2 0),(10, .sl 1 (qs.map Hj) none),(12, .v (.bool (Bf p))),(13, .bp 3 0),(14, .bp 4 0),(15, .v (.int .i64 (lk:Int))),(16, .v (.string q)),(17, .bp 5 0),(19, .bp 6 0),(130, .v (.bool (decide ((Ac s.files (AK s.files a q).1).kind=3)&&(decide (0<((qs.map Hj).length:Int))||(fl||Bf p)))))],⟨[AY s,AA start,Ah G7,AA a,PS ⟨q::qs,da,na,a,ea,lk⟩,AA (AK s.files a q).1,AZ (Ac s.files (AK s.files a q).1)],[]⟩⟩) ?_ ?_
   ·skip
    refine Aw (Cs (h:=m_ (h:=?_)));refine AJ true rfl rfl (fun hb15 hc15=>?_) (fun hb15 hc15=>?_)
    ·refine m_ (h:=Gu (h:=m_ (h:=?_)));refine AJ false rfl rfl (fun hb16 hc16=>?_) (fun hb16 hc16=>?_)
     ·refine Dc (h:=Bz (h:=Dc (h:=CZ (h:=JL (h:=?_)))))
      first|(exfalso;first|contradiction|omega)|exact Ao 7 0 rfl rfl rfl rfl (by repeat (first|exact Sub.nil|refine Ap rfl rfl ?_|refine At ?_|refine Au rfl ?_|refine Av rfl ?_|(apply Sub.of;(focus exact rfl);(focus exact LeA.of_eq (vb (by first|(rw[hb15];rfl)|(rw[hb15,hb16];rfl)|(rw[hb15,hb16,hb17];rfl))));(focus exact rfl))))
     refine m_ (h:=Be (h:=?_));refine AJ false rfl rfl (fun hb17 hc17=>?_) (fun hb17 hc17=>?_)
     ·refine Dc (h:=CZ (h:=JL (h:=?_)))
      first|(exfalso;first|contradiction|omega)|exact Ao 7 0 rfl rfl rfl rfl (by repeat (first|exact Sub.nil|refine Ap rfl rfl ?_|refine At ?_|refine Au rfl ?_|refine Av rfl ?_|(apply Sub.of;(focus exact rfl);(focus exact LeA.of_eq (vb (by first|(rw[hb15];rfl)|(rw[hb15,hb16];rfl)|(rw[hb15,hb16,hb17];rfl))));(focus exact rfl))))
     refine m_ (h:=Bx (h:=JL (h:=?_)))
     first|(exfalso;first|contradiction|omega)|exact Ao 7 0 rfl rfl rfl rfl (by repeat (first|exact Sub.nil|refine Ap rfl rfl ?_|refine At ?_|refine Au rfl ?_|refine Av rfl ?_|(apply Sub.of;(focus exact rfl);(focus exact LeA.of_eq (vb (by first|(rw[hb15];rfl)|(rw[hb15,hb16];rfl)|(rw[hb15,hb16,hb17];rfl))));(focus exact rfl))))
    refine BT (h:=MG (h:=B7 (h:=MG (h:=Dc (h:=Fi (h:=?_))))))
    first|(exfalso;first|contradiction|omega)|exact Ao 7 0 rfl rfl rfl rfl (by repeat (first|exact Sub.nil|refine Ap rfl rfl ?_|refine At ?_|refine Au rfl ?_|refine Av rfl ?_|(apply Sub.of;(focus exact rfl);(focus exact LeA.of_eq (vb (by first|(rw[hb15];rfl)|(rw[hb15,hb16];rfl)|(rw[hb15,hb16,hb17];rfl))));(focus exact rfl))))
   skip
   refine A4 rfl (fun hb18 hc18=>?_) (fun hb18 hc18=>?_)
   ·have hlk:(Ac s.files (AK s.files a q).1).kind=3∧(qs≠[]∨(fl||Bf p)=true):=by
     rw[Bool.and_eq_true,decide_eq_true_eq,Bool.or_eq_true,decide_eq_true_eq]at hc18;exact⟨hc18.1,hc18.2.imp (fun h e=>by rw[e]at h;simp at h) id⟩
    refine Bk (h:=BN (h:=?_));refine A4 rfl (fun hb19 hc19=>?_) (fun hb19 hc19=>?_)
    ·have hst:DS s (fl||Bf p) q qs a lk= .inl 40:=by unfold DS;rw[if_neg (by simp[hc6]),if_neg (by omega),if_neg hc8,if_neg hc10,if_neg (by simp[hc12]),if_pos hlk,if_pos (by omega)]
     refine Bq (h:=CT (h:=D1 (h:=?_)));refine A6 ?_;rw[PR hc1 (by omega) ha had (hT.symm.trans ((Kw (F:=fl||Bf p) (da:=da) (na:=na) (ea:=ea) hv.files h8).1 _ hst)) (by decide)];rfl
    refine AF (AX (h:=?_));refine A3 rfl (NT rfl rfl (by omega) ?_);refine B4 (h:=B0 (h:=?_));refine A3 rfl (A8 (To (Ac s.files (AK s.files a q).1).target (by omega)) ?_);rintro r ⟨ps,hps,rfl⟩;obtain rfl:=Xj hps;clear hps;refine GF (h:=x_ (h:=a_ (h:=a_ (h:=Bn (h:=e_ (?_))))));refine A4 rfl (fun hb20 hc20=>?_) (fun hb20 hc20=>?_)
    ·have hst:DS s (fl||Bf p) q qs a lk= .inr ⟨FX (Ac s.files (AK s.files a q).1).target++qs,Hl s,⟨#[]⟩,Hl s,true,lk+1⟩:=by unfold DS;rw[if_neg (by simp[hc6]),if_neg (by omega),if_neg hc8,if_neg hc10,if_neg (by simp[hc12]),if_pos hlk,if_neg (by omega),if_pos hc20]
     refine Aw (l_ (h:=?_));refine A3 rfl (A8 (YD s hs.b hv) ?_);rintro r rfl;refine s_ (h:=e_ (w_ (m_ (h:=Hw (h:=m_ (h:=Hw (h:=a_ (h:=e_ (w_ (l_ (h:=l_ (h:=Bi (h:=s_ (h:=e_ (Mi (Ke (LW (AT (?_)))))))))))))))))));obtain⟨g1,g2,g3⟩:=(Kw (F:=fl||Bf p) (da:=da) (na:=na) (ea:=ea) hv.files h8).2 _ hst;exact⟨_,_,g3,⟨_,_,g1,(by first|exact BH _|exact hq12),g2.symm.trans hT,rfl,Nat.le_trans (Nat.le_of_lt g3) hmq,rfl⟩,(by(try simp only[List.map_append]);exact Ao 5 0 rfl rfl rfl rfl ((by repeat (first|exact Sub.nil|refine Ap rfl rfl ?_|refine At ?_|refine Au rfl ?_|refine Av rfl ?_))))⟩
    have hst:DS s (fl||Bf p) q qs a lk= .inr ⟨FX (Ac s.files (AK s.files a q).1).target++qs,a,⟨#[]⟩,a,true,lk+1⟩:=by unfold DS;rw[if_neg (by simp[hc6]),if_neg (by omega),if_neg hc8,if_neg hc10,if_neg (by simp[hc12]),if_pos hlk,if_neg (by omega),if_neg (by simp[hc20])]
    refine AF (w_ (m_ (h:=Hw (h:=m_ (h:=Hw (h:=a_ (h:=e_ (w_ (l_ (h:=l_ (h:=Bi (h:=s_ (h:=e_ (Mi (Ke (LW (AT (?_))))))))))))))))));obtain⟨g1,g2,g3⟩:=(Kw (F:=fl||Bf p) (da:=da) (na:=na) (ea:=ea) hv.files h8).2 _ hst;exact⟨_,_,g3,⟨_,_,g1,(by first|exact BH _|exact hq12),g2.symm.trans hT,rfl,Nat.le_trans (Nat.le_of_lt g3) hmq,rfl⟩,(by(try simp only[List.map_append]);exact Ao 5 0 rfl rfl rfl rfl ((by repeat (first|exact Sub.nil|refine Ap rfl rfl ?_|refine At ?_|refine Au rfl ?_|refine Av rfl ?_))))⟩
   have hlk:¬((Ac s.files (AK s.files a q).1).kind=3∧(qs≠[]∨(fl||Bf p)=true)):=fun h=>by
    rw[decide_eq_true h.1,Bool.true_and,Bool.or_eq_false_iff]at hc18;rcases h.2 with e|e
    ·exact e (FN (by have:=of_decide_eq_false hc18.1;omega))
    rw[hc18.2]at e;cases e
   have hst:DS s (fl||Bf p) q qs a lk= .inr ⟨qs,a,q,FG s s.mounts.length (AK s.files a q).1,true,lk⟩:=by unfold DS;rw[if_neg (by simp[hc6]),if_neg (by omega),if_neg hc8,if_neg hc10,if_neg (by simp[hc12]),if_neg hlk]
   refine AF (BO ([(0,AY s),(3,AA a),(5,AA (AK s.files a q).1)]) 6 (h:=A9 0 (h:=AG 1 (h:=A9 2 (h:=A9 3 (h:=?_))))));refine c_ 4 rfl (A8 (U4 hs.b hv (AK s.files a q).1) ?_);rintro r rfl;refine o_ (h:=JE 5 (h:=?_));refine B6 6 (h:=z_ (h:=BE (AT (?_))));obtain⟨g1,g2,g3⟩:=(Kw (F:=fl||Bf p) (da:=da) (na:=na) (ea:=ea) hv.files h8).2 _ hst;exact⟨_,_,g3,⟨_,_,g1,(by first|exact BH _|exact hq12),g2.symm.trans hT,rfl,Nat.le_trans (Nat.le_of_lt g3) hmq,rfl⟩,(by(try simp only[List.map_append]);exact Ao 5 0 rfl rfl rfl rfl ((by repeat (first|exact Sub.nil|refine Ap rfl rfl ?_|refine At ?_|refine Au rfl ?_|refine Av rfl ?_))))⟩
  have hc5:¬(0:Int)<((ps0.map Hj).length:Int):=hc5;have e5:ps0=[]:=FN (by omega);subst e5;have hfin:=hT.symm.trans (Xk (s:=s) (fl:=fl||Bf p) (σ:=⟨[],da,na,a,ea,lk⟩) rfl);refine Kh (h:=AT (?_));exact⟨_,⟨_,_,hfin,(by first|exact Nat.le_trans hna (by decide)|exact Nat.le_trans hq12 (by decide)),rfl⟩,(wk 5 0)⟩
 rintro t ⟨τ,d,hT,hnm,rfl⟩;refine q_ (?_);refine Kd (⟨look [(4, .bp 0 0),(8, .bp 2 0),(12, .v (.bool (Bf p))),(14, .bp 4 0),(171, .v (.bool (Bf p&&(τ.ex&& !Af s.files τ.file))))],⟨[AY s,AA start,Ah G7,AA d,PS τ],[]⟩⟩) ?_ ?_
 ·skip
  refine EQ (h:=?_);refine AJ true rfl rfl (fun hb21 hc21=>?_) (fun hb21 hc21=>?_)
  ·refine Aa (h:=Bz (h:=?_));refine AJ true rfl rfl (fun hb22 hc22=>?_) (fun hb22 hc22=>?_)
   ·have hx:τ.ex=true:=hb22;refine JM (h:=?_);refine Aq (A8 (Ki s.files τ.file hs.b.files) ?_);rintro r rfl;refine DP (h:=JL (h:=?_))
    first|(exfalso;first|contradiction|omega)|exact Ao 5 0 rfl rfl rfl rfl (by repeat (first|exact Sub.nil|refine Ap rfl rfl ?_|refine At ?_|refine Au rfl ?_|refine Av rfl ?_|(apply Sub.of;(focus exact rfl);(focus exact LeA.of_eq (vb (by first|(rw[hb21];rfl)|(rw[hb21,hx];rfl))));(focus exact rfl))))
   have hx:τ.ex=false:=hb22;refine BT (h:=B7 (h:=Fi (h:=?_)))
   first|(exfalso;first|contradiction|omega)|exact Ao 5 0 rfl rfl rfl rfl (by repeat (first|exact Sub.nil|refine Ap rfl rfl ?_|refine At ?_|refine Au rfl ?_|refine Av rfl ?_|(apply Sub.of;(focus exact rfl);(focus exact LeA.of_eq (vb (by first|(rw[hb21];rfl)|(rw[hb21,hx];rfl))));(focus exact rfl))))
  refine B7 (h:=Be (h:=BT (h:=B7 (h:=Fi (h:=?_)))))
  first|(exfalso;first|contradiction|omega)|exact Ao 5 0 rfl rfl rfl rfl (by repeat (first|exact Sub.nil|refine Ap rfl rfl ?_|refine At ?_|refine Au rfl ?_|refine Av rfl ?_|(apply Sub.of;(focus exact rfl);(focus exact LeA.of_eq (vb (by first|(rw[hb21];rfl)|(rw[hb21,hx];rfl))));(focus exact rfl))))
 skip
 refine A4 rfl (fun hb23 hc23=>?_) (fun hb23 hc23=>?_)
 ·refine Bq (h:=?_);refine A6 ?_;rw[l9 hc1 (by omega) ha had hT (by simp only[Bool.and_eq_true,Bool.not_eq_true']at hc23;exact hc23)];rfl
 refine AF (AX (h:=Ct (h:=q_ (C5 (h:=Aa (h:=?_))))));refine A3 rfl (A8 (j8 hs.b hv τ.dir) ?_);rintro r rfl;refine GF (h:=a_ (h:=Bu (h:=e_ (?_))));refine A4 rfl (fun hb24 hc24=>?_) (fun hb24 hc24=>?_)
 ·refine AX (h:=Ct (h:=B0 (h:=Bo (h:=?_))));refine A4 rfl (fun hb25 hc25=>?_) (fun hb25 hc25=>?_)
  ·refine Bt (h:=Aa (h:=?_));refine A3 rfl (A8 (XY (ES s τ.dir).1 τ.name (by have:=hw τ.dir;omega) (by omega)) ?_);rintro r rfl;refine Ct (h:=Dr (h:=B8 (h:=?_)));refine A6 ?_;rw[U3 hc1 (by omega) ha had hT (fun h=>by rw[h.1,h.2.1,h.2.2]at hc23;cases hc23),show MZ s (Bf p) τ=⟨τ.dir,τ.name,τ.file,τ.ex,Bf p,KP (ES s τ.dir).1 τ.name⟩ by unfold MZ;rw[if_pos hc24,if_neg hc25]];rfl
  refine AF (Dr (h:=B8 (h:=?_)));refine A6 ?_;rw[U3 hc1 (by omega) ha had hT (fun h=>by rw[h.1,h.2.1,h.2.2]at hc23;cases hc23),show MZ s (Bf p) τ=⟨τ.dir,τ.name,τ.file,τ.ex,Bf p,(ES s τ.dir).1⟩ by unfold MZ;rw[if_pos hc24,if_pos hc25]];rfl
 refine AF (Dr (h:=B8 (h:=?_)));refine A6 ?_;rw[U3 hc1 (by omega) ha had hT (fun h=>by rw[h.1,h.2.1,h.2.2]at hc23;cases hc23),show MZ s (Bf p) τ=⟨τ.dir,τ.name,τ.file,τ.ex,Bf p,⟨#[]⟩⟩ by unfold MZ;rw[if_neg (by simp[hc24])]];rfl
end
end Go.Proofs.YtbgnigjfkbmceaaGreatDoor
