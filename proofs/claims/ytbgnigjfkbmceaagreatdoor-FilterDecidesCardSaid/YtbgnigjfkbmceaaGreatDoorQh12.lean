/-
  Part 12 of the proof of FilterDecidesP: what the statement's proof uses of the texts in wip/tpl.
-/
import Derived.Test.YtbgnigjfkbmceaaGreatDoorShelf
import Derived.Laws.RangeAny
import Derived.Deep.LoopGhost
import Derived.Lib.OthersKept
import Derived.Shelf.Abstract
import Derived.Shelf.RegionOpen
import Derived.OwnWalkIn
import Derived.TacticsInMore
import Derived.LoopNIn
import Derived.LoopIn
import Derived.Maps.AppendAt
import Derived.StillTailTactics
import Derived.Test.YtbgnigjfkbmceaaGreatDoorQh11
open Go.Proofs.Tryz (prog)
set_option maxRecDepth 10000
set_option maxHeartbeats 4000000
set_option linter.unusedVariables false
set_option linter.unusedSimpArgs false
namespace Go.Proofs.YtbgnigjfkbmceaaGreatDoor
open Go.RowKit
def Nh(r:AF×Int×Int×Int×Int):List AV:=[.v (.string r.1), .v (.int .i64 r.2.1), .v (.int .i64 r.2.2.1), .v (.int .i64 r.2.2.2.1), .v (.int .i64 r.2.2.2.2)]
theorem kV{a b:Nat}(h:a<b):Nat.blt a b=true:=by rw[Nat.blt_eq];exact h
theorem kW{c:Cal}{j:Nat}(h:j<4):∃x,(OT c)[j]?=some x∧(Fe c)[1+j]?=some (.v (.int .i64 x)):=by
 match j,h with
 |0,_=>exact⟨_,rfl,rfl⟩
 |1,_=>exact⟨_,rfl,rfl⟩
 |2,_=>exact⟨_,rfl,rfl⟩
 |3,_=>exact⟨_,rfl,rfl⟩
theorem kX{l:List Int}{n j:Nat}{x:Int}(hn:n≤j)(hy:l[j]?=some x)(hx:x≠0):((l.drop n).any fun x=>decide (x≠0))=true:=by
 rw[List.any_eq_true];refine⟨x,?_,by simpa using hx⟩;refine Am (i:=j - n) ?_;rw[List.getElem?_drop,show n+(j - n)=j by omega];exact hy
theorem kY{l:List Int}{n:Nat}(h:∀i x,n≤i→l[i]?=some x→x=0):((l.drop n).any fun x=>decide (x≠0))=false:=by
 rw[List.any_eq_false];intro x hx;obtain⟨i,hi⟩:=List.mem_iff_getElem?.1 hx;rw[List.getElem?_drop]at hi;simp[h _ x (Nat.le_add_right n i) hi]
theorem YW(n:Int):0≤(C3 n).2.1∧(C3 n).2.1≤2:=by
 unfold C3;split
 ·decide
 rename_i h;obtain⟨m,rfl⟩:=Int.eq_ofNat_of_zero_le (show 0≤n by omega);have hm:m<22:=by omega
 have key:∀m,m<22→0≤((Fr[m]?).getD (⟨#[]⟩,0,0,0,0)).2.1∧((Fr[m]?).getD (⟨#[]⟩,0,0,0,0)).2.1≤2:=by decide
 exact key m hm
section
theorem YX(n:Nod)(euid egid want:Int):AFn prog 249 [.agg (AZ n), .v (.int .i64 euid), .v (.int .i64 egid), .v (.int .i64 want)] (fun r=>r= .v (.bool (Gs n euid egid want))):=by
 refine enter Tryz.func249 rfl rfl rfl rfl rfl 0 rfl ?_;refine EG (h:=Bo (h:=DK (h:=?_)));refine AJ false rfl rfl (fun hb1 hc1=>?_) (fun hb1 hc1=>?_)
 ·refine BY (h:=Fl (h:=?_));refine A6 ?_
  first|(exfalso;first|contradiction|omega)|(exact vb (by first|(simp[Gs,Hd, *];done)|(simp[Gs,Hd, *];intro h;exact absurd ((by assumption:euid=n.uid).trans h) (by assumption))))
 refine m_ (h:=Ed (h:=CO (h:=?_)));refine A4 rfl (fun hb2 hc2=>?_) (fun hb2 hc2=>?_)
 ·refine BK (h:=?_);refine A6 ?_
  first|(exfalso;first|contradiction|omega)|(exact vb (by first|(simp[Gs,Hd, *];done)|(simp[Gs,Hd, *];intro h;exact absurd ((by assumption:euid=n.uid).trans h) (by assumption))))
 refine EX (h:=Bd (h:=?_));refine A4 rfl (fun hb3 hc3=>?_) (fun hb3 hc3=>?_)
 ·refine Aa (h:=ES (h:=E4 (h:=?_)));refine AJ false rfl rfl (fun hb4 hc4=>?_) (fun hb4 hc4=>?_)
  ·refine Cl (h:=Ho (h:=Dd (h:=?_)));refine A6 ?_
   first|(exfalso;first|contradiction|omega)|(exact vb (by first|(simp[Gs,Hd, *];done)|(simp[Gs,Hd, *];intro h;exact absurd ((by assumption:euid=n.uid).trans h) (by assumption))))
  refine CN (h:=Bc (h:=?_));refine AJ false rfl rfl (fun hb5 hc5=>?_) (fun hb5 hc5=>?_)
  ·refine Ho (h:=Dd (h:=?_));refine A6 ?_
   first|(exfalso;first|contradiction|omega)|(exact vb (by first|(simp[Gs,Hd, *];done)|(simp[Gs,Hd, *];intro h;exact absurd ((by assumption:euid=n.uid).trans h) (by assumption))))
  refine AO (h:=ES (h:=Gd (h:=Bh (h:=Dd (h:=?_)))));refine A6 ?_
  first|(exfalso;first|contradiction|omega)|(exact vb (by first|(simp[Gs,Hd, *];done)|(simp[Gs,Hd, *];intro h;exact absurd ((by assumption:euid=n.uid).trans h) (by assumption))))
 refine FY (h:=ES (h:=Bo (h:=CN (h:=e_ (?_)))));refine A4 rfl (fun hb6 hc6=>?_) (fun hb6 hc6=>?_)
 ·refine Aw (AO (h:=P5 (h:=ES (h:=Bt (h:=m_ (h:=ES (h:=CE (h:=Az (h:=?_)))))))));refine A6 ?_
  first|(exfalso;first|contradiction|omega)|(exact vb (by first|(simp[Gs,Hd, *];done)|(simp[Gs,Hd, *];intro h;exact absurd ((by assumption:euid=n.uid).trans h) (by assumption))))
 refine Aa (h:=CN (h:=e_ (?_)));refine A4 rfl (fun hb7 hc7=>?_) (fun hb7 hc7=>?_)
 ·refine Aw (AO (h:=P5 (h:=ES (h:=Bt (h:=m_ (h:=ES (h:=CE (h:=Az (h:=?_)))))))));refine A6 ?_
  first|(exfalso;first|contradiction|omega)|(exact vb (by first|(simp[Gs,Hd, *];done)|(simp[Gs,Hd, *];intro h;exact absurd ((by assumption:euid=n.uid).trans h) (by assumption))))
 refine AG (DA (h:=ES (h:=CE (h:=Az (h:=?_)))));refine A6 ?_
 first|(exfalso;first|contradiction|omega)|(exact vb (by first|(simp[Gs,Hd, *];done)|(simp[Gs,Hd, *];intro h;exact absurd ((by assumption:euid=n.uid).trans h) (by assumption))))
theorem UM(n:Int):AFn prog 144 [.v (.int .i64 n)] (fun r=>r= .v (.bool (Pe n))):=by
 refine enter Tryz.func144 rfl rfl rfl rfl rfl 0 rfl ?_;refine EL (h:=DR (h:=m_ (h:=?_)));refine AJ true rfl rfl (fun hb1 hc1=>?_) (fun hb1 hc1=>?_)
 ·refine m_ (h:=Fg (h:=Gf (h:=?_)));refine A6 ?_
  first|(exfalso;first|contradiction|omega)|(exact vb (by simp[Pe, *]))
 refine Fj (h:=Az (h:=?_));refine A6 ?_
 first|(exfalso;first|contradiction|omega)|(exact vb (by simp[Pe, *]))
theorem YY:AFn prog 190 [] (fun r=>r= .sl 5 (Fr.map Nh) none):=by
 refine enter Tryz.func190 rfl rfl rfl rfl rfl 0 rfl ?_;refine D7 (h:=w_ (Bk (h:=Bk (h:=Bk (h:=Bk (h:=Bk (h:=Bk (h:=Bk (h:=Bk (h:=Bk (h:=Bk (h:=Bk (h:=Bk (h:=Bk (h:=Bk (h:=Bk (h:=Bk (h:=Bk (h:=Bk (h:=Bk (h:=Bk (h:=?_))))))))))))))))))))));refine Bk (h:=Bk (h:=BX (h:=Az (h:=?_))));refine A6 ?_;rfl
theorem kZ:AFn prog 189 [] (fun r=>r= .v (.int .i64 22)):=by
 refine enter Tryz.func189 rfl rfl rfl rfl rfl 0 rfl ?_;refine D7 (h:=w_ (?_));refine A3 rfl (A8 (YY) ?_);rintro r rfl;refine n_ (h:=Az (h:=?_));refine A6 ?_;rfl
theorem YZ(n:Int):AFn prog 139 [.v (.int .i64 n)] (fun r=>r= .agg (Nh (C3 n))):=by
 refine enter Tryz.func139 rfl rfl rfl rfl rfl 0 rfl ?_;refine w_ (CU (h:=e_ (Bf (h:=DK (h:=?_)))));refine AJ false rfl rfl (fun hb1 hc1=>?_) (fun hb1 hc1=>?_)
 ·refine EM (h:=E3 (h:=JH (h:=e_ (B3 (BN (?_))))));refine A6 ?_;rw[C3,if_pos (by omega)];rfl
 refine m_ (h:=?_);refine As (A8 (kZ) ?_);rintro r rfl;refine DR (h:=CO (h:=?_));refine A4 rfl (fun hb2 hc2=>?_) (fun hb2 hc2=>?_)
 ·refine JH (h:=e_ (B3 (BN (?_))));refine A6 ?_;rw[C3,if_pos (by omega)];rfl
 refine AG (w_ (?_));refine A3 rfl (A8 (YY) ?_);rintro r rfl;obtain⟨m,rfl⟩:=Int.eq_ofNat_of_zero_le (show 0≤n by omega);obtain⟨row,hrow⟩:∃row,Fr[m]?=some row:=⟨Fr[m]'(by show m<22;omega),B6 (by show m<22;omega)⟩;have hrow2:(Fr.map Nh)[m]?=some (Nh row):=by rw[List.getElem?_map,hrow];rfl
 refine m_ (h:=?_);refine A3 rfl (DE (n:=m) rfl rfl rfl hrow2 ?_);refine l_ (h:=Ei (h:=B3 (?_)));refine A6 ?_;rw[C3,if_neg (by omega),Int.toNat_natCast,hrow];rfl
theorem Ya(c:Cal)(hp:c.paths.length≤1000)(ha:c.args.length≤1000):AFn prog 95 [.agg (Fe c)] (fun r=>r= .v (.int .i64 (Bp c))):=by
 obtain⟨n0,hn0⟩:=Int.eq_ofNat_of_zero_le (YW c.num).1;have hpl:(c.paths.map DH).length=c.paths.length:=List.length_map _;have hal:(c.args.map DH).length=c.args.length:=List.length_map _;have hn2:n0≤2:=by have:=(YW c.num).2;omega
 refine enter Tryz.func95 rfl rfl rfl rfl rfl 0 rfl ?_;refine EG (h:=BO (h:=Ay (h:=?_)));refine A3 rfl (A8 (YZ c.num) ?_);rintro r rfl;refine Dw (h:=Fh (h:=Bd (h:=?_)));refine A4 rfl (fun hb1 hc1=>?_) (fun hb1 hc1=>?_)
 ·refine BK (h:=?_);refine A6 ?_
  first|(exfalso;first|contradiction|omega)|(exact vi (by first|(rw[Bp,if_pos hc1];done)|(rw[Bp,if_neg hc1,if_pos hany];done)|(rw[Bp,if_neg hc1,if_neg (by rw[hany];simp),if_pos (by omega)];done)|(rw[Bp,if_neg hc1,if_neg (by rw[hany];simp),if_neg (by omega),if_pos hany2];done)|(rw[Bp,if_neg hc1,if_neg (by rw[hany];simp),if_neg (by omega),if_neg (by rw[hany2];simp),if_pos hany3];done)|(rw[Bp,if_neg hc1,if_neg (by rw[hany];simp),if_neg (by omega),if_neg (by rw[hany2];simp),if_neg (by rw[hany3];simp)];done)))
 refine DU (h:=BO (h:=BF (?_)));refine BM (fun m s=>∃j:Nat,n0≤j∧j≤4∧m=4 - j∧(∀i x,n0≤i→i<j→(OT c)[i]?=some x→x=0)∧s=⟨look [(1, .bp 0 0),(3, .bp 1 0),(4, .v (.int .i64 (j:Int)))],⟨[Fe c,Nh (C3 c.num)],[]⟩⟩) (4 - n0) (by rw[←hn0];exact(wk 2 0)) (⟨n0,B7 _,by omega,rfl,fun i x h1 h2=>by omega,rfl⟩) ?_;rintro m s ⟨j,hlo,hj,rfl,hz,rfl⟩;refine Bf (h:=Cv (h:=?_));refine A4 rfl (fun hb2 hc2=>?_) (fun hb2 hc2=>?_)
 ·obtain⟨x,hy,hrx⟩:=kW (c:=c) (j:=j) (by omega);refine By (h:=Aa (h:=f_ (h:=?_)));refine A3 rfl (Bg (len:=4) (sz:=1) (n:=j) (by kernel_rfl) rfl rfl rfl (kV (by omega)) ?_);refine A3 rfl (Dq rfl rfl (by rw[show 1+j * 1=1+j by omega];exact hrx) ?_);refine Bl (h:=?_);refine A4 rfl (fun hb3 hc3=>?_) (fun hb3 hc3=>?_)
  ·have hany:(((OT c).drop (C3 c.num).2.1.toNat).any fun x=>decide (x≠0))=true:=by rw[hn0,Int.toNat_natCast];exact kX hlo hy hc3
   refine Hp (h:=?_);refine A6 ?_
   first|(exfalso;first|contradiction|omega)|(exact vi (by first|(rw[Bp,if_pos hc1];done)|(rw[Bp,if_neg hc1,if_pos hany];done)|(rw[Bp,if_neg hc1,if_neg (by rw[hany];simp),if_pos (by omega)];done)|(rw[Bp,if_neg hc1,if_neg (by rw[hany];simp),if_neg (by omega),if_pos hany2];done)|(rw[Bp,if_neg hc1,if_neg (by rw[hany];simp),if_neg (by omega),if_neg (by rw[hany2];simp),if_pos hany3];done)|(rw[Bp,if_neg hc1,if_neg (by rw[hany];simp),if_neg (by omega),if_neg (by rw[hany2];simp),if_neg (by rw[hany3];simp)];done)))
  have hx0:x=0:=by simpa using hc3
  refine Cm (h:=?_)
  refine⟨_,_,?_,⟨j+1,by omega,by omega,rfl,(fun i x h1 h2 h3=>by
   by_cases e:i=j
   ·subst e;rw[hy]at h3;injection h3 with h3;rw[←h3];exact hx0
   exact hz i x h1 (by omega) h3),rfl⟩,(wk 2 0)⟩
  omega
 have hany:(((OT c).drop (C3 c.num).2.1.toNat).any fun x=>decide (x≠0))=false:=by
  rw[hn0,Int.toNat_natCast];refine kY fun i x h1 h2=>hz i x h1 ?_ h2;have:=(Af.1 h2).1;have h4:(OT c).length=4:=rfl;omega
 refine CP (h:=Fh (h:=n_ (h:=GJ (h:=?_))));refine AJ false rfl rfl (fun hb4 hc4=>?_) (fun hb4 hc4=>?_)
 ·refine Ja (h:=Bu (h:=Ja (h:=Fl (h:=?_))));refine A6 ?_
  first|(exfalso;first|contradiction|omega)|(exact vi (by first|(rw[Bp,if_pos hc1];done)|(rw[Bp,if_neg hc1,if_pos hany];done)|(rw[Bp,if_neg hc1,if_neg (by rw[hany];simp),if_pos (by omega)];done)|(rw[Bp,if_neg hc1,if_neg (by rw[hany];simp),if_neg (by omega),if_pos hany2];done)|(rw[Bp,if_neg hc1,if_neg (by rw[hany];simp),if_neg (by omega),if_neg (by rw[hany2];simp),if_pos hany3];done)|(rw[Bp,if_neg hc1,if_neg (by rw[hany];simp),if_neg (by omega),if_neg (by rw[hany2];simp),if_neg (by rw[hany3];simp)];done)))
 refine AO (h:=n_ (h:=AO (h:=JG (h:=Bc (h:=?_)))));refine AJ false rfl rfl (fun hb5 hc5=>?_) (fun hb5 hc5=>?_)
 ·refine Ja (h:=Fl (h:=?_));refine A6 ?_
  first|(exfalso;first|contradiction|omega)|(exact vi (by first|(rw[Bp,if_pos hc1];done)|(rw[Bp,if_neg hc1,if_pos hany];done)|(rw[Bp,if_neg hc1,if_neg (by rw[hany];simp),if_pos (by omega)];done)|(rw[Bp,if_neg hc1,if_neg (by rw[hany];simp),if_neg (by omega),if_pos hany2];done)|(rw[Bp,if_neg hc1,if_neg (by rw[hany];simp),if_neg (by omega),if_neg (by rw[hany2];simp),if_pos hany3];done)|(rw[Bp,if_neg hc1,if_neg (by rw[hany];simp),if_neg (by omega),if_neg (by rw[hany2];simp),if_neg (by rw[hany3];simp)];done)))
 refine AO (h:=n_ (h:=JM (h:=CO (h:=?_))));refine A4 rfl (fun hb6 hc6=>?_) (fun hb6 hc6=>?_)
 ·refine BK (h:=?_);refine A6 ?_
  first|(exfalso;first|contradiction|omega)|(exact vi (by first|(rw[Bp,if_pos hc1];done)|(rw[Bp,if_neg hc1,if_pos hany];done)|(rw[Bp,if_neg hc1,if_neg (by rw[hany];simp),if_pos (by omega)];done)|(rw[Bp,if_neg hc1,if_neg (by rw[hany];simp),if_neg (by omega),if_pos hany2];done)|(rw[Bp,if_neg hc1,if_neg (by rw[hany];simp),if_neg (by omega),if_neg (by rw[hany2];simp),if_pos hany3];done)|(rw[Bp,if_neg hc1,if_neg (by rw[hany];simp),if_neg (by omega),if_neg (by rw[hany2];simp),if_neg (by rw[hany3];simp)];done)))
 refine AG (DT (h:=?_));refine BM (fun m s=>∃j:Nat,j≤c.paths.length∧m=c.paths.length - j∧(∀i y,i<j→c.paths[i]?=some y→decide (128<y.size)=false)∧s=⟨look [(1, .bp 0 0),(3, .bp 1 0),(5, .v (.int .i64 (j:Int)))],⟨[Fe c,Nh (C3 c.num)],[]⟩⟩) (c.paths.length) ((wk 2 0)) (⟨0,BE _,rfl,fun i y hi=>by omega,rfl⟩) ?_;rintro m s ⟨j,hj,rfl,ha1,rfl⟩;refine Fz (h:=?_);refine A4 rfl (fun hb7 hc7=>?_) (fun hb7 hc7=>?_)
 ·obtain⟨hlt,y,hy,hrow, -⟩:=Br DH hc7;refine By (h:=H9 (h:=l_ (h:=FW (h:=e_ (?_)))));refine A4 rfl (fun hb8 hc8=>?_) (fun hb8 hc8=>?_)
  ·have hany2:(c.paths.any fun p=>decide (128<p.size))=true:=NQ hy (by simp;omega);refine Hp (h:=?_);refine A6 ?_
   first|(exfalso;first|contradiction|omega)|(exact vi (by first|(rw[Bp,if_pos hc1];done)|(rw[Bp,if_neg hc1,if_pos hany];done)|(rw[Bp,if_neg hc1,if_neg (by rw[hany];simp),if_pos (by omega)];done)|(rw[Bp,if_neg hc1,if_neg (by rw[hany];simp),if_neg (by omega),if_pos hany2];done)|(rw[Bp,if_neg hc1,if_neg (by rw[hany];simp),if_neg (by omega),if_neg (by rw[hany2];simp),if_pos hany3];done)|(rw[Bp,if_neg hc1,if_neg (by rw[hany];simp),if_neg (by omega),if_neg (by rw[hany2];simp),if_neg (by rw[hany3];simp)];done)))
  refine Cm (h:=?_);refine⟨_,_,?_,⟨j+1,by omega,rfl,GN hy ha1 (by simp;omega),rfl⟩,(wk 2 0)⟩;omega
 have e:=C6 DH hj hc7;have hany2:(c.paths.any fun p=>decide (128<p.size))=false:=O7 (by rw[←e];exact ha1);refine CP (h:=DT (h:=?_));refine BM (fun m s=>∃j:Nat,j≤c.args.length∧m=c.args.length - j∧(∀i y,i<j→c.args[i]?=some y→decide (64<y.size)=false)∧s=⟨look [(1, .bp 0 0),(3, .bp 1 0),(6, .v (.int .i64 (j:Int)))],⟨[Fe c,Nh (C3 c.num)],[]⟩⟩) (c.args.length) ((wk 2 0)) (⟨0,BE _,rfl,fun i y hi=>by omega,rfl⟩) ?_;rintro m s ⟨j3,hj3,rfl,ha3,rfl⟩;refine Fz (h:=?_);refine A4 rfl (fun hb9 hc9=>?_) (fun hb9 hc9=>?_)
 ·obtain⟨hlt,y,hy,hrow, -⟩:=Br DH hc9;refine By (h:=H9 (h:=l_ (h:=FW (h:=e_ (?_)))));refine A4 rfl (fun hb10 hc10=>?_) (fun hb10 hc10=>?_)
  ·have hany3:(c.args.any fun p=>decide (64<p.size))=true:=NQ hy (by simp;omega);refine Hp (h:=?_);refine A6 ?_
   first|(exfalso;first|contradiction|omega)|(exact vi (by first|(rw[Bp,if_pos hc1];done)|(rw[Bp,if_neg hc1,if_pos hany];done)|(rw[Bp,if_neg hc1,if_neg (by rw[hany];simp),if_pos (by omega)];done)|(rw[Bp,if_neg hc1,if_neg (by rw[hany];simp),if_neg (by omega),if_pos hany2];done)|(rw[Bp,if_neg hc1,if_neg (by rw[hany];simp),if_neg (by omega),if_neg (by rw[hany2];simp),if_pos hany3];done)|(rw[Bp,if_neg hc1,if_neg (by rw[hany];simp),if_neg (by omega),if_neg (by rw[hany2];simp),if_neg (by rw[hany3];simp)];done)))
  refine Cm (h:=?_);refine⟨_,_,?_,⟨j3+1,by omega,rfl,GN hy ha3 (by simp;omega),rfl⟩,(wk 2 0)⟩;omega
 have e3:=C6 DH hj3 hc9;have hany3:(c.args.any fun p=>decide (64<p.size))=false:=O7 (by rw[←e3];exact ha3);refine Fk (h:=?_);refine A6 ?_
 first|(exfalso;first|contradiction|omega)|(exact vi (by first|(rw[Bp,if_pos hc1];done)|(rw[Bp,if_neg hc1,if_pos hany];done)|(rw[Bp,if_neg hc1,if_neg (by rw[hany];simp),if_pos (by omega)];done)|(rw[Bp,if_neg hc1,if_neg (by rw[hany];simp),if_neg (by omega),if_pos hany2];done)|(rw[Bp,if_neg hc1,if_neg (by rw[hany];simp),if_neg (by omega),if_neg (by rw[hany2];simp),if_pos hany3];done)|(rw[Bp,if_neg hc1,if_neg (by rw[hany];simp),if_neg (by omega),if_neg (by rw[hany2];simp),if_neg (by rw[hany3];simp)];done)))
theorem Yb(c:Cal):AFn prog 140 [.agg (Fe c)] (fun r=>r= .sl 1 ((DD c).map CT) none):=by
 refine enter Tryz.func140 rfl rfl rfl rfl rfl 0 rfl ?_;refine EG (h:=Fy (h:=e_ (BF (Ak (h:=?_)))));refine A4 rfl (fun hb1 hc1=>?_) (fun hb1 hc1=>?_)
 ·refine w_ (BX (h:=Ax (h:=?_)));refine A6 ?_
  first|(exfalso;first|contradiction|omega)|(simp only[DD,CG];first|(simp[*,CT];done)|(simp[*,CT];rfl))
 refine Ak (h:=?_);refine A4 rfl (fun hb2 hc2=>?_) (fun hb2 hc2=>?_)
 ·refine D7 (h:=q_ (w_ (f_ (h:=?_))));refine A3 rfl (Bg (len:=4) (sz:=1) (n:=0) (by kernel_rfl) rfl rfl rfl rfl ?_);refine l_ (h:=ES (h:=Bl (h:=?_)));refine A4 rfl (fun hb3 hc3=>?_) (fun hb3 hc3=>?_)
  ·refine Qw (h:=BO (h:=q_ (w_ (f_ (h:=?_)))));refine A3 rfl (Bg (len:=4) (sz:=1) (n:=0) (by kernel_rfl) rfl rfl rfl rfl ?_);refine l_ (h:=ES (h:=Bl (h:=?_)));refine A4 rfl (fun hb4 hc4=>?_) (fun hb4 hc4=>?_)
   ·refine Qw (h:=Bt (h:=BX (h:=Ax (h:=?_))));refine A6 ?_
    first|(exfalso;first|contradiction|omega)|(simp only[DD,CG];first|(simp[*,CT];done)|(simp[*,CT];rfl))
   refine AG (Aa (h:=BX (h:=Ax (h:=?_))));refine A6 ?_
   first|(exfalso;first|contradiction|omega)|(simp only[DD,CG];first|(simp[*,CT];done)|(simp[*,CT];rfl))
  refine Eh (h:=w_ (f_ (h:=?_)));refine A3 rfl (Bg (len:=4) (sz:=1) (n:=0) (by kernel_rfl) rfl rfl rfl rfl ?_);refine l_ (h:=ES (h:=Bl (h:=?_)));refine A4 rfl (fun hb5 hc5=>?_) (fun hb5 hc5=>?_)
  ·refine Qw (h:=Bt (h:=BX (h:=Ax (h:=?_))));refine A6 ?_
   first|(exfalso;first|contradiction|omega)|(simp only[DD,CG];first|(simp[*,CT];done)|(simp[*,CT];rfl))
  refine AG (Aa (h:=BX (h:=Ax (h:=?_))));refine A6 ?_
  first|(exfalso;first|contradiction|omega)|(simp only[DD,CG];first|(simp[*,CT];done)|(simp[*,CT];rfl))
 refine Ak (h:=?_);refine A4 rfl (fun hb6 hc6=>?_) (fun hb6 hc6=>?_)
 ·refine w_ (BX (h:=Ax (h:=?_)));refine A6 ?_
  first|(exfalso;first|contradiction|omega)|(simp only[DD,CG];first|(simp[*,CT];done)|(simp[*,CT];rfl))
 refine Ak (h:=?_);refine A4 rfl (fun hb7 hc7=>?_) (fun hb7 hc7=>?_)
 ·refine w_ (BX (h:=Ax (h:=?_)));refine A6 ?_
  first|(exfalso;first|contradiction|omega)|(simp only[DD,CG];first|(simp[*,CT];done)|(simp[*,CT];rfl))
 refine q_ (Ak (h:=?_));refine A4 rfl (fun hb8 hc8=>?_) (fun hb8 hc8=>?_)
 ·refine AG (E3 (h:=w_ (BX (h:=Ax (h:=?_)))));refine A6 ?_
  first|(exfalso;first|contradiction|omega)|(simp only[DD,CG];first|(simp[*,CT];done)|(simp[*,CT];rfl))
 refine Ak (h:=?_);refine A4 rfl (fun hb9 hc9=>?_) (fun hb9 hc9=>?_)
 ·refine AG (E3 (h:=w_ (BX (h:=Ax (h:=?_)))));refine A6 ?_
  first|(exfalso;first|contradiction|omega)|(simp only[DD,CG];first|(simp[*,CT];done)|(simp[*,CT];rfl))
 refine Aw (EU (h:=?_));refine A4 rfl (fun hb10 hc10=>?_) (fun hb10 hc10=>?_)
 ·refine w_ (BX (h:=Ax (h:=?_)));refine A6 ?_
  first|(exfalso;first|contradiction|omega)|(simp only[DD,CG];first|(simp[*,CT];done)|(simp[*,CT];rfl))
 refine Ak (h:=?_);refine A4 rfl (fun hb11 hc11=>?_) (fun hb11 hc11=>?_)
 ·refine w_ (BX (h:=Ax (h:=?_)));refine A6 ?_
  first|(exfalso;first|contradiction|omega)|(simp only[DD,CG];first|(simp[*,CT];done)|(simp[*,CT];rfl))
 refine BG (BA (t_ (w_ (BX (h:=Az (h:=?_))))));refine A6 ?_
 first|(exfalso;first|contradiction|omega)|(simp only[DD,CG];first|(simp[*,CT];done)|(simp[*,CT];rfl))
theorem l0(c:Cal):AFn prog 142 [.agg (Fe c)] (fun r=>r= .v (.bool (DY c))):=by
 refine enter Tryz.func142 rfl rfl rfl rfl rfl 0 rfl ?_;refine EG (h:=Fy (h:=e_ (BF (Ak (h:=?_)))));refine A4 rfl (fun hb1 hc1=>?_) (fun hb1 hc1=>?_)
 ·refine w_ (f_ (h:=?_));refine A3 rfl (Bg (len:=4) (sz:=1) (n:=0) (by kernel_rfl) rfl rfl rfl rfl ?_);refine l_ (h:=ES (h:=Dt (h:=Ax (h:=?_))));refine A6 ?_
  first|(exfalso;first|contradiction|omega)|(exact vb (by simp[DY, *]))
 refine q_ (Ak (h:=?_));refine A4 rfl (fun hb2 hc2=>?_) (fun hb2 hc2=>?_)
 ·refine AG (D9 (h:=?_));refine A6 ?_
  first|(exfalso;first|contradiction|omega)|(exact vb (by simp[DY, *]))
 refine Ak (h:=?_);refine A4 rfl (fun hb3 hc3=>?_) (fun hb3 hc3=>?_)
 ·refine AG (D9 (h:=?_));refine A6 ?_
  first|(exfalso;first|contradiction|omega)|(exact vb (by simp[DY, *]))
 refine Ak (h:=?_);refine A4 rfl (fun hb4 hc4=>?_) (fun hb4 hc4=>?_)
 ·refine AG (D9 (h:=?_));refine A6 ?_
  first|(exfalso;first|contradiction|omega)|(exact vb (by simp[DY, *]))
 refine Ak (h:=?_);refine A4 rfl (fun hb5 hc5=>?_) (fun hb5 hc5=>?_)
 ·refine AG (D9 (h:=?_));refine A6 ?_
  first|(exfalso;first|contradiction|omega)|(exact vb (by simp[DY, *]))
 refine Ak (h:=?_);refine A4 rfl (fun hb6 hc6=>?_) (fun hb6 hc6=>?_)
 ·refine AG (D9 (h:=?_));refine A6 ?_
  first|(exfalso;first|contradiction|omega)|(exact vb (by simp[DY, *]))
 refine Aw (EU (h:=?_));refine A4 rfl (fun hb7 hc7=>?_) (fun hb7 hc7=>?_)
 ·refine CB (h:=?_);refine A6 ?_
  first|(exfalso;first|contradiction|omega)|(exact vb (by simp[DY, *]))
 refine FG (h:=?_);refine A6 ?_
 first|(exfalso;first|contradiction|omega)|(exact vb (by simp[DY, *]))
end
theorem MF(s:ByteArray):s.toList=s.data.toList:=Lib.toList_data s
theorem Yc{a b:ByteArray}(h:a.data.toList=b.data.toList):a=b:=by
 cases a;cases b;simp at h;simp[h]
theorem l3{a b:ByteArray}:a.data.toList=b.data.toList↔a=b:=⟨Yc,fun h=>by rw[h]⟩
theorem l4(a b:ByteArray):(a.toList==b.toList)=decide (a=b):=by
 rw[MF,MF,Bool.eq_iff_iff,beq_iff_eq,decide_eq_true_iff];exact l3
theorem Yd(s:ByteArray):s.toList.isEmpty=decide (s.size=0):=by
 rw[MF,Lib.size_eq,Bool.eq_iff_iff,List.isEmpty_iff,decide_eq_true_iff,List.length_eq_zero_iff]
set_option maxRecDepth 100000 in
set_option maxHeartbeats 400000 in
theorem l6(s:ByteArray)(w:World):
    Calls prog 289 #[.string s, .string ⟨#[47]⟩] w fun e w'=>e= .returned (.int .i64 (Lib.indexByte s.data.toList 47))∧w=w':=by
 by_cases h:s=⟨#[47]⟩
 ·subst h
  go_enter Tryz.func289,Tryz.ntmps289
  go_wp2
  go_ret
  exact⟨rfl,rfl⟩
 have h1:([47]==s.toList)=false:=by
  have:=l4 ⟨#[47]⟩ s;rw[decide_eq_false (fun e=>h e.symm),MF ⟨#[47]⟩]at this;exact this
 go_enter Tryz.func289,Tryz.ntmps289
 go_wp2_with (go_at_call 292;refine(Tryz.stringslite_IndexByte _ _ _).mono ?_;rintro e w' ⟨rfl,rfl⟩)
 go_ret
 exact⟨rfl,rfl⟩
theorem l7(s:ByteArray)(w:World):
    Calls prog 276 #[.string s, .string ⟨#[47]⟩] w fun e w'=>e= .returned (.int .i64 (Lib.indexByte s.data.toList 47))∧w=w':=by
 go_enter Tryz.func276,Tryz.ntmps276
 go_wp2_with (go_at_call 289;refine(l6 _ _).mono ?_;rintro e w' ⟨rfl,rfl⟩)
 go_ret
 exact⟨rfl,rfl⟩
theorem Ye{l:Bs}(h:(47:UInt8)∈l):∃i:Nat,Lib.indexByte l 47=i∧i<l.length∧l=l.take i++47::l.drop (i+1)∧(47:UInt8)∉l.take i:=by
 have hge:=Lib.indexByte_ge l 47;by_cases hm:Lib.indexByte l 47= -1
 ·have:=Lib.indexByte_none hm;obtain⟨k,hk⟩:=List.mem_iff_getElem?.1 h;exact absurd hk (this k)
 obtain⟨i,hi⟩:=Int.eq_ofNat_of_zero_le (show 0≤Lib.indexByte l 47 by omega);obtain⟨h1,h2⟩:=Lib.indexByte_some hi;have hlt:i<l.length:=(Af.1 h1).1;refine⟨i,hi,hlt,?_,?_⟩
 ·have h3:l[i]=47:=(Af.1 h1).2;rw[←h3,List.getElem_cons_drop,List.take_append_drop]
 intro hmem;obtain⟨k,hk⟩:=List.mem_iff_getElem?.1 hmem;rw[List.getElem?_take]at hk;split at hk
 ·exact h2 k (by assumption) hk
 cases hk
theorem l8{l:Bs}(h:(47:UInt8)∉l):Lib.indexByte l 47= -1:=by
 have hge:=Lib.indexByte_ge l 47;by_cases hm:Lib.indexByte l 47= -1
 ·exact hm
 obtain⟨i,hi⟩:=Int.eq_ofNat_of_zero_le (show 0≤Lib.indexByte l 47 by omega);obtain⟨h1,_⟩:=Lib.indexByte_some hi;exact absurd (Am h1) h
theorem l9(r:Int)(h0:128≤r)(h1:Lib.validRune r=true):
    (∃a b:UInt8,Utf8.encode r=⟨#[a,b]⟩∧128≤b.toNat)∨(∃a b c:UInt8,Utf8.encode r=⟨#[a,b,c]⟩)∨(∃a b c d:UInt8,Utf8.encode r=⟨#[a,b,c,d]⟩):=by
 have hv:Utf8.valid r=true:=by
  have:=of_decide_eq_true h1;unfold Utf8.valid;simp only[Bool.or_eq_true,Bool.and_eq_true,decide_eq_true_iff];omega
 unfold Utf8.encode;simp only[hv,if_true];have hn:¬r.toNat<128:=by omega
 rw[if_neg hn];by_cases h2:r.toNat<2048
 ·rw[if_pos h2];refine .inl ⟨_,_,rfl,?_⟩;simp only[UInt8.toNat_ofNat'];omega
 rw[if_neg h2];by_cases h3:r.toNat<65536
 ·rw[if_pos h3];exact .inr (.inl ⟨_,_,_,rfl⟩)
 rw[if_neg h3];exact .inr (.inr ⟨_,_,_,_,rfl⟩)
set_option maxRecDepth 1000000 in
set_option maxHeartbeats 2000000 in
theorem lA(r:Int)(w:World)(h0:128≤r)(h1:r≤2147483647)(h2:r≠65533)(hv:Lib.validRune r=false):
    Calls prog 269 #[.string ⟨#[0,47]⟩, .int .i32 r] w fun e w'=>e= .returned (.int .i64 (-1))∧w=w':=by
 have h2':(r==65533)=false:=by simpa using h2
 go_enter Tryz.func269,Tryz.ntmps269
 go_wp2_with (go_at_call 285;refine(Tryz.utf8_ValidRune _ _).mono ?_;rintro e w' ⟨rfl,rfl⟩;rw[hv])
 go_ret
 exact⟨rfl,rfl⟩
set_option maxRecDepth 1000000 in
set_option maxHeartbeats 2000000 in
theorem lB(r:Int)(w:World)(h0:128≤r)(h1:r≤2147483647)(h2:r≠65533)(hv:Lib.validRune r=true):
    Calls prog 269 #[.string ⟨#[0,47]⟩, .int .i32 r] w fun e w'=>e= .returned (.int .i64 (-1))∧Below w.heap.size w w':=by
 have h2':(r==65533)=false:=by simpa using h2
 have hlt:decide (r<128)=false:=by simpa using h0
 rcases l9 r h0 hv with⟨a,b,he,hb⟩|⟨a,b,c,he⟩|⟨a,b,c,d,he⟩
 ·have hne:((((⟨#[0,47]⟩:ByteArray)[1]'(by decide)).toNat:Int) != (((⟨#[a,b]⟩:ByteArray)[1]'(by show 1<2;decide)).toNat:Int))=true:=by
     show((47:Int) != (b.toNat:Int))=true;rw[bne_iff_ne];omega
  go_enter Tryz.func269,Tryz.ntmps269
  go_wp2_with (go_at_call 285;refine(Tryz.utf8_ValidRune _ _).mono ?_;rintro e w' ⟨rfl,rfl⟩;rw[hv])
  go_step3
  go_wp2
  refine wp_loop_rounds 1 ?_;rw[rounds_succ]
  go_wp2
  go_step3
  go_wp2
  go_quiet (fail)
  have hb:=TB (Below.refl w'.heap.size w') nq;generalize w'.drewN nq=wq at *
  go_wp2
  go_quiet ((go_at_call 284;exact Calls.quiet_of_same (Tryz.strings_IndexByte _ _ _)))
  go_wp2
  rw[Exit.noGoto_ret]
  go_wp2
  rw[Exit.noGoto_ret]
  go_wp2
  go_ret
  exact⟨rfl,TB hb _⟩
 ·go_enter Tryz.func269,Tryz.ntmps269
  go_wp2_with (go_at_call 285;refine(Tryz.utf8_ValidRune _ _).mono ?_;rintro e w' ⟨rfl,rfl⟩;rw[hv])
  go_step3
  go_wp2
  refine wp_loop_rounds 1 ?_;rw[rounds_succ]
  go_wp2
  rw[Exit.noGoto_ret]
  go_wp2
  go_ret
  exact⟨rfl,Below.refl _ _⟩
 go_enter Tryz.func269,Tryz.ntmps269
 go_wp2_with (go_at_call 285;refine(Tryz.utf8_ValidRune _ _).mono ?_;rintro e w' ⟨rfl,rfl⟩;rw[hv])
 go_step3
 go_wp2
 refine wp_loop_rounds 1 ?_;rw[rounds_succ]
 go_wp2
 rw[Exit.noGoto_ret]
 go_wp2
 go_ret
 exact⟨rfl,Below.refl _ _⟩
theorem lC(i:Nat)(hi:i<2):((⟨#[0,47]⟩:ByteArray)[i]'hi).toNat<128:=by
 match i,hi with
 |0,_=>show(0:UInt8).toNat<128;decide
 |1,_=>show(47:UInt8).toNat<128;decide
set_option maxRecDepth 1000000 in
set_option maxHeartbeats 2000000 in
theorem lD(w:World):
    Calls prog 269 #[.string ⟨#[0,47]⟩, .int .i32 65533] w fun e w'=>e= .returned (.int .i64 (-1))∧Below w.heap.size w w':=by
 go_enter Tryz.func269,Tryz.ntmps269
 go_wp2
 go_loopg [5,6] 2 (fun g _ _ wx=>∃i:Nat,i+g=2∧wx=w.iter ⟨#[0,47]⟩ i)
 case atStart=>exact⟨0,by omega,rfl⟩
 case round=>
  obtain⟨i,hig,rfl⟩:=hrel
  cases gk with
  |zero=>
    obtain rfl:i=2:=by omega
    have hnx:=run_next_end (P:=prog) w ⟨#[0,47]⟩ 2
    go_wp2
    go_ret
    exact⟨rfl,(Below.refl _ _).alloc (B7 _) _⟩
  |succ g=>
    have hi:i<2:=by omega
    have hx:=lC i hi;have hnx:=fun ty=>run_next_ascii (P:=prog) w ⟨#[0,47]⟩ i ty hi hx;generalize ((⟨#[0,47]⟩:ByteArray)[i]'hi)=x at *;have hne:((x.toNat:Int)==65533)=false:=beq_eq_false_iff_ne.2 (by omega)
    go_wp2
    go_roundg g
    case measure=>omega
    case rel=>exact⟨i+1,by omega,rfl⟩
theorem Yf(s:ByteArray)(i:Nat)(h:i<s.size)(ha:128≤(s[i]'h).toNat):
    1≤(Utf8.decode s i).2∧i+(Utf8.decode s i).2≤s.size∧∀k,k<(Utf8.decode s i).2→128≤(s.get! (i+k)).toNat:=by
 have hn:¬(s[i]'h).toNat<128:=by omega
 have h0:s.get! (i+0)=s[i]'h:=get_at s i h;have g0:128≤(s.get! (i+0)).toNat:=by rw[h0];exact ha
 have c1:∀k,(decide (i+k<s.size)&&(s.get! (i+k)).toNat / 64==2)=true→i+k<s.size∧128≤(s.get! (i+k)).toNat:=by
  intro k hk;simp only[Bool.and_eq_true,decide_eq_true_iff,beq_iff_eq]at hk;exact⟨hk.1,by omega⟩
 have one:1≤1∧i+1≤s.size∧∀k,k<1→128≤(s.get! (i+k)).toNat:=by
  refine⟨B7 _,h,fun k hk=>?_⟩;obtain rfl:k=0:=by omega
  exact g0
 unfold Utf8.decode;simp only[h0,hn,if_false];split
 ·rename_i hc;rw[Bool.and_eq_true]at hc;obtain⟨a1,b1⟩:=c1 1 hc.2;split
  ·refine⟨by simp,a1,fun k hk=>?_⟩;have:k=0∨k=1:=by simp at hk;omega
   rcases this with rfl|rfl
   ·exact g0
   exact b1
  exact one
 split
 ·rename_i hc;rw[Bool.and_eq_true,Bool.and_eq_true]at hc;obtain⟨a1,b1⟩:=c1 1 hc.1.2;obtain⟨a2,b2⟩:=c1 2 hc.2;split
  ·refine⟨by simp,a2,fun k hk=>?_⟩;have:k=0∨k=1∨k=2:=by simp at hk;omega
   rcases this with rfl|rfl|rfl
   ·exact g0
   ·exact b1
   exact b2
  exact one
 split
 ·rename_i hc;rw[Bool.and_eq_true,Bool.and_eq_true,Bool.and_eq_true]at hc;obtain⟨a1,b1⟩:=c1 1 hc.1.1.2;obtain⟨a2,b2⟩:=c1 2 hc.1.2;obtain⟨a3,b3⟩:=c1 3 hc.2;split
  ·refine⟨by simp,a3,fun k hk=>?_⟩;have:k=0∨k=1∨k=2∨k=3:=by simp at hk;omega
   rcases this with rfl|rfl|rfl|rfl
   ·exact g0
   ·exact b1
   ·exact b2
   exact b3
  exact one
 exact one
theorem lE(s:ByteArray)(j:Nat)(hj:j<s.size):s.data.toList[j]?=some (s.get! j):=by
 have:=get_at s j hj;rw[Nat.add_zero]at this;rw[this];exact Lib.data_getElem? s j hj
theorem lF{s:ByteArray}{i:Nat}(h:i<s.size)(ha:128≤(s[i]'h).toNat)(hno:Lib.NoAny s.data.toList [0,47] i):Lib.NoAny s.data.toList [0,47] (i+(Utf8.decode s i).2):=by
 obtain⟨_,h2,h3⟩:=Yf s i h ha;intro j b hj hb;by_cases hlt:j<i
 ·exact hno j b hlt hb
 have:=h3 (j - i) (by omega);rw[show i+(j - i)=j by omega]at this;rw[lE s j (by omega)]at hb;injection hb with hb;rw[hb]at this;have h0:b≠0:=by rintro rfl;simp at this
 have h47:b≠47:=by
  rintro rfl;have:(47:UInt8).toNat=47:=rfl;omega
 simp[h0,h47]
theorem lG(r:Int)(w:World)(h0:128≤r)(h1:r≤2147483647):
    Calls prog 269 #[.string ⟨#[0,47]⟩, .int .i32 r] w fun e w'=>e= .returned (.int .i64 (-1))∧Below w.heap.size w w':=by
 by_cases h2:r=65533
 ·subst h2;exact lD w
 cases hv:Lib.validRune r with
 |true=>exact lB r w h0 h1 h2 hv
 |false=>exact(lA r w h0 h1 h2 hv).mono fun e w' h=>⟨h.1,by rw[←h.2];exact Below.refl _ _⟩
def Yg(s:ByteArray)(w:World)(e:Ending)(w':World):Prop:=∃v:Int,e= .returned (.int .i64 v)∧Below w.heap.size w w'∧((0≤v)↔((0:UInt8)∈s.data.toList∨(47:UInt8)∈s.data.toList))
theorem lH{s:ByteArray}(h:Lib.NoAny s.data.toList [0,47] s.size):¬((0:UInt8)∈s.data.toList∨(47:UInt8)∈s.data.toList):=by
 rintro(h'|h')
 ·obtain⟨j,hj⟩:=List.mem_iff_getElem?.1 h';have:=h j 0 (by rw[Lib.size_eq];exact(Af.1 hj).1) hj;simp at this
 obtain⟨j,hj⟩:=List.mem_iff_getElem?.1 h';have:=h j 47 (by rw[Lib.size_eq];exact(Af.1 hj).1) hj;simp at this
theorem lJ{s:ByteArray}{i:Nat}{x:UInt8}(hx:s.data.toList[i]?=some x)(h:[0,47].contains x=true):((0:UInt8)∈s.data.toList∨(47:UInt8)∈s.data.toList):=by
 have hm:=Am hx;simp at h;rcases h with rfl|rfl
 ·exact .inl hm
 exact .inr hm
set_option maxRecDepth 1000000 in
set_option maxHeartbeats 4000000 in
theorem lK(s:ByteArray)(w:World)(h8:s.size≤8):Calls prog 245 #[.string s, .string ⟨#[0,47]⟩] w (Yg s w):=by
 have h8z:decide ((8:Int)<(s.size:Int))=false:=decide_eq_false (by omega)
 go_enter Tryz.func245,Tryz.ntmps245
 go_wp2_with (go_at_call 270;refine(Tryz.strings_shouldUseASCIISet _ _).mono ?_;rintro e w' ⟨rfl,hw⟩;rw[hw,h8z])
 clear hw
 go_loopg [9,10] s.size (fun g _ _ wx=>∃i:Nat,s.size≤i+g∧i≤s.size∧wx.heap[w.heap.size]?=some (.stringIter s i)∧Below w.heap.size w wx∧Hid (Lib.NoAny s.data.toList [0,47] i))
 case atStart=>exact⟨0,by omega,by omega,World.iter_heap w s 0,(Below.refl _ _).alloc (B7 _) _,Lib.hid (Lib.NoAny.zero _ _)⟩
 case round=>
  obtain⟨i,hg,hi,hit,hbel,hno⟩:=hrel;have hks:=hbel.size;by_cases hlt:i<s.size
  ·obtain⟨g,rfl⟩:∃g,gk=g+1:=⟨gk - 1,by omega⟩;by_cases hx:(s[i]'hlt).toNat<128
   ·have hnx:=fun ty=>Lib.run_next_ascii_at (P:=prog) wr w.heap.size s i ty hit hlt hx;have hxl:s.data.toList[i]?=some (s[i]'hlt):=Lib.data_getElem? s i hlt;generalize (s[i]'hlt)=x at *;have Hx:=Lib.hid hxl;have hit':=Lib.iterAt_heap wr w.heap.size s i (i+1) hit;have hbel':=Lib.below_iterAt hbel (B7 _) s (i+1);generalize wr.iterAt w.heap.size s (i+1)=w1 at *;have hcon:=Lib.contains_iff_indexByte [0,47] x;have hback:((x.toNat:Int)).toNat.toUInt8=x:=by simp
    have HI:=Lib.hid hit';clear hxl hit hit';cases hin:[0,47].contains x
    ·rw[hin]at hcon;have hneg:¬((0:Int)≤Lib.indexByte [0,47] x):=of_decide_eq_false hcon.symm;clear hcon
     go_wp2_with (go_at_call 269;refine(Tryz.strings_IndexRune_ascii _ _ _ (by omega) (by omega)).mono ?_;rintro e w' ⟨rfl,hw⟩;rw[hw,hback])
     go_roundg g
     case measure=>omega
     case rel=>exact⟨i+1,by omega,by omega,HI.out,hbel',Lib.hid (hno.out.succ Hx.out hin)⟩
    rw[hin]at hcon;have hpos:(0:Int)≤Lib.indexByte [0,47] x:=of_decide_eq_true hcon.symm;clear hcon
    go_wp2_with (go_at_call 269;refine(Tryz.strings_IndexRune_ascii _ _ _ (by omega) (by omega)).mono ?_;rintro e w' ⟨rfl,hw⟩;rw[hw,hback])
    go_ret
    exact⟨_,rfl,hbel',⟨fun _=>lJ Hx.out hin,fun _=>by omega⟩⟩
   have hx':128≤(s[i]'hlt).toNat:=by omega
   obtain⟨p1,p2,_⟩:=Yf s i hlt hx';have HN:=Lib.hid (lF hlt hx' hno.out);have q1:=(decode_high s i hlt hx').1;have q2:=decode_le s i;have hnx:=fun ty=>Lib.run_next_any_at (P:=prog) wr w.heap.size s i ty hit hlt;generalize Utf8.decode s i=d at *;obtain⟨d1,d2⟩:=d;simp only at *;have hit':=Lib.iterAt_heap wr w.heap.size s i (i+d2) hit;have hbel':=Lib.below_iterAt hbel (B7 _) s (i+d2);have hsz:=Lib.iterAt_size wr w.heap.size s (i+d2);generalize wr.iterAt w.heap.size s (i+d2)=w1 at *;have hk1:w.heap.size<w1.heap.size:=(Array.getElem?_eq_some_iff.1 hit').1;have HI:=Lib.hid hit';clear hit hit' hsz
   go_wp2_with fail
   refine(lG _ _ (by omega) (by omega)).mono ?_;rintro e w2 ⟨rfl,hb2⟩
   go_wp2
   go_roundg g
   case measure=>omega
   case rel=>exact⟨i+d2,by omega,by omega,(hb2.block _ hk1).trans HI.out,hbel'.trans (hb2.mono (by omega)),HN⟩
  obtain rfl:i=s.size:=by omega
  have hnx:=fun ty=>Lib.run_next_end_at (P:=prog) wr w.heap.size s s.size ty hit hlt
  go_wp2
  go_ret
  exact⟨_,rfl,hbel,⟨fun h=>absurd h (by decide),fun h=>absurd h (lH hno.out)⟩⟩
theorem lL(s:ByteArray):(0≤Lib.indexAny s.data.toList [0,47])↔((0:UInt8)∈s.data.toList∨(47:UInt8)∈s.data.toList):=by
 generalize s.data.toList=l
 induction l with
 |nil=>simp[Lib.indexAny]
 |cons b l ih=>
   have hge:=Lib.indexAny_ge [0,47] l;unfold Lib.indexAny;by_cases hb:[0,47].contains b=true
   ·rw[if_pos hb];simp only[List.contains_cons,List.contains_nil,Bool.or_false,Bool.or_eq_true,beq_iff_eq]at hb;rcases hb with rfl|rfl<;>simp
   rw[if_neg hb];have h0:(0:UInt8)≠b:=by rintro rfl;simp at hb
   have h47:(47:UInt8)≠b:=by rintro rfl;simp at hb
   simp only[List.mem_cons,h0,h47,false_or];rw[←ih];split
   ·rename_i h;have:Lib.indexAny l [0,47]= -1:=by simpa using h
    rw[this]
   rename_i h;have:Lib.indexAny l [0,47]≠ -1:=by simpa using h
   constructor<;>intro h'<;>omega
theorem lM(s:ByteArray)(w:World)(hs:s.size≤1000000):Calls prog 245 #[.string s, .string ⟨#[0,47]⟩] w (Yg s w):=by
 by_cases h8:s.size≤8
 ·exact lK s w h8
 refine(Tryz.strings_IndexAny_long (fun w=>by kernel_rfl) s ⟨#[0,47]⟩ w (by decide) (by omega) (by omega) (by decide) ?_).mono ?_
 ·intro j b hj;have:b∈[0,47]:=Am hj;simp at this;rcases this with rfl|rfl<;>decide
 rintro e w' ⟨rfl,rfl⟩;exact⟨_,rfl,NU _ _ _,lL s⟩
def UN(s:ByteArray):Bool:=decide ((0:UInt8)∈s.data.toList∨(47:UInt8)∈s.data.toList)
theorem lN(s:ByteArray)(w:World)(hs:s.size≤1000000):
    Calls prog 186 #[.string s, .string ⟨#[0,47]⟩] w fun e w'=>e= .returned (.bool (UN s))∧Below w.heap.size w w':=by
 go_enter Tryz.func186,Tryz.ntmps186
 go_wp2_with fail
 refine(lM s w hs).mono ?_;rintro e w' ⟨v,rfl,hb,hv⟩;have HV:=Lib.hid hv;clear hv
 go_wp2
 go_ret
 exact⟨NR (decide_eq_decide.2 HV.out),hb⟩
theorem Yh(s:ByteArray):(s.toList==[46])=decide (s.data.toList=[46]):=by rw[MF,Bool.eq_iff_iff];simp
theorem Yi(s:ByteArray):(s.toList==[46,46])=decide (s.data.toList=[46,46]):=by rw[MF,Bool.eq_iff_iff];simp
set_option maxHeartbeats 1000000 in
theorem lO(s:ByteArray)(w:World):
    Calls prog 131 #[.string s] w fun e w'=>e= .returned (.bool (Fn s.data.toList))∧Below w.heap.size w w':=by
 have hsz:=Lib.size_eq s;by_cases h0:s.size=0
 ·have he:s.toList.isEmpty=true:=by rw[Yd];simp[h0]
  have he':s.toList=[]:=List.isEmpty_iff.1 he
  have HF:Hid (Fn s.data.toList=false):=Lib.hid (by
   rw[←MF,he'];rfl)
  clear hsz
  go_enter Tryz.func131,Tryz.ntmps131
  go_wp2
  go_ret
  exact⟨NR HF.out.symm,Below.refl _ _⟩
 have he:s.toList.isEmpty=false:=by rw[Yd];simp[h0]
 have hne:s.data.toList≠[]:=by intro e;rw[e]at hsz;exact h0 hsz
 by_cases h12:s.size≤12
 ·have hle:decide ((s.size:Int)≤12)=true:=decide_eq_true (by omega);by_cases h1:s.data.toList=[46]
  ·have e1:(s.toList==[46])=true:=by rw[Yh];simp[h1]
   have e1':(s.toList != [46])=false:=by simp[bne,e1]
   have HF:Hid (Fn s.data.toList=false):=Lib.hid (by rw[h1];rfl);clear hsz hne h1
   go_enter Tryz.func131,Tryz.ntmps131
   go_wp2
   go_ret
   exact⟨NR HF.out.symm,Below.refl _ _⟩
  have e1:(s.toList==[46])=false:=by rw[Yh];simp[h1]
  have e1':(s.toList != [46])=true:=by simp[bne,e1]
  by_cases h2:s.data.toList=[46,46]
  ·have e2:(s.toList==[46,46])=true:=by rw[Yi];simp[h2]
   have e2':(s.toList != [46,46])=false:=by simp[bne,e2]
   have HF:Hid (Fn s.data.toList=false):=Lib.hid (by rw[h2];rfl);clear hsz hne h1 h2
   go_enter Tryz.func131,Tryz.ntmps131
   go_wp2
   go_ret
   exact⟨NR HF.out.symm,Below.refl _ _⟩
  have e2:(s.toList==[46,46])=false:=by rw[Yi];simp[h2]
  have e2':(s.toList != [46,46])=true:=by simp[bne,e2]
  have HF:Hid (Fn s.data.toList= !UN s):=Lib.hid (by
   unfold UN;rw[Bool.eq_iff_iff,RG];simp only[Bool.not_eq_true',decide_eq_false_iff_not,not_or]
   exact⟨fun h=>h.2.2.2.2,fun h=>⟨hne,by omega,h1,h2,h⟩⟩)
  clear hsz hne h1 h2
  go_enter Tryz.func131,Tryz.ntmps131
  go_wp2_with fail
  refine(lN s _ (by omega)).mono ?_;rintro e w' ⟨rfl,hb⟩
  go_wp2
  go_ret
  exact⟨NR HF.out.symm,hb⟩
 have hle:decide ((s.size:Int)≤12)=false:=decide_eq_false (by omega);have HF:Hid (Fn s.data.toList=false):=Lib.hid (decide_eq_false (fun h=>by have:=h.2.1;omega));clear hsz hne
 go_enter Tryz.func131,Tryz.ntmps131
 go_wp2
 go_ret
 exact⟨NR HF.out.symm,Below.refl _ _⟩
theorem UO{α:Type}(p:α→Bool):∀(l:List α) (i:Nat) (m:α),(l.filter p)[i]?=some m→∃j:Nat,l[j]?=some m∧(l.filter p).take i=(l.take j).filter p
 |[],i,m,h=>by simp at h
 |x::l,i,m,h=>by
   rw[List.filter_cons]at h ⊢
   cases hx:p x with
   |false=>
     rw[hx]at h;obtain⟨j,h1,h2⟩:=UO p l i m (by simpa using h);exact⟨j+1,by simpa using h1,by simp[hx,h2]⟩
   |true=>
     rw[hx]at h
     cases i with
     |zero=>exact⟨0,by simpa using h,by simp⟩
     |succ i=>
       obtain⟨j,h1,h2⟩:=UO p l i m (by simpa using h);exact⟨j+1,by simpa using h1,by simp[hx,h2]⟩
theorem lP{s:Spc}(hv:SpcV s)(dev:Int)(h0:(Hz s dev).2=0):SpcV (Hz s dev).1∧(Hz s dev).1=⟨s.files,s.mounts.filter fun m:E6=>decide (m.1≠dev)⟩:=by
 unfold Hz at h0 ⊢;split at h0
 ·exact absurd h0 (by decide)
 rename_i c1;split at h0
 ·exact absurd h0 (by decide)
 rename_i c2;rw[if_neg c1,if_neg c2];refine⟨⟨hv.files,hv.pos,fun i m hi=>?_⟩,rfl⟩;obtain⟨j,h1,h2⟩:=UO _ s.mounts i m hi;have hm:=hv.mnt j m h1;show MntOK s.files ((s.mounts.filter _).take i) m;rw[h2];refine⟨hm.dev1,hm.dev2,?_,hm.dir,?_,?_⟩
 ·have hf:=hm.fresh;rw[←Bool.not_eq_true]at hf ⊢;exact fun h=>hf (Xx h fun x hx=>(List.mem_filter.1 hx).1)
 ·by_cases hz:m.2.1=0
  ·unfold DN;simp[hz]
  obtain⟨m',hm',e⟩:=U4 hm.there hz;rw[←e];refine U5 (s:=⟨s.files,(s.mounts.take j).filter fun m:E6=>decide (m.1≠dev)⟩) (List.mem_filter.2 ⟨hm',decide_eq_true ?_⟩);intro e2;have hany:(s.mounts.any fun m:E6=>decide (m.2.1=dev))=true:=List.any_eq_true.2 ⟨m,Am h1,decide_eq_true (by rw[←e,e2])⟩;exact c2 hany
 have hf:=hm.free
 cases hc:Dm ⟨s.files,(s.mounts.take j).filter fun m:E6=>decide (m.1≠dev)⟩ m.2 with
 |none=>rfl
 |some d=>
   exfalso;obtain⟨k,hk⟩:=U7 hc;have hmem:=(List.mem_filter.1 (Am hk)).1
   cases hc2:Dm ⟨s.files,s.mounts.take j⟩ m.2 with
   |some d'=>rw[hc2]at hf;cases hf
   |none=>
     unfold Dm at hc2
     cases hq:(s.mounts.take j).find? fun x:E6=>decide (x.2=m.2)with
     |some y=>rw[hq]at hc2;cases hc2
     |none=>have:=List.find?_eq_none.1 hq _ hmem;simp at this
section
theorem lQ(s:Spc)(hs:SpcB s):AFn prog 126 [.agg (AW s)] (fun r=>r= .agg (AW s)):=by
 have hfew:=hs.few;refine enter Tryz.func126 rfl rfl rfl rfl rfl 0 rfl ?_;refine w_ (b_ (h:=CU (h:=e_ (q_ (BR ([(0,AW s)]) 8 (h:=AA 0 (h:=?_)))))));refine A9 1 (h:=?_);refine AA 3 (h:=?_);refine A9 4 (h:=?_);refine c_ 2 rfl (A8 (Tw s.files hs.files) ?_);rintro r rfl;refine o_ (h:=?_)
 first|refine c_ 5 rfl (EF rfl rfl rfl (by simp;omega) (by repeat constructor) ?_)|refine c_ 5 rfl (JC rfl rfl (by simp;omega) (by repeat constructor) ?_)
 refine o_ (h:=KZ 6 (h:=?_));refine B8 7 (h:=z_ (h:=t_ (B3 (?_))));refine AX (r:= .agg (AW s)) none (h5:=?_) (h6:=⟨rfl,rfl,rfl⟩);exact LeA.agg (LeL.cons (A7 _) (LeL.cons (LeA.tok _ _ _) LeL.nil))
end
end Go.Proofs.YtbgnigjfkbmceaaGreatDoor
namespace Go.Proofs.YtbgnigjfkbmceaaGreatDoor
open Go.RowKit Go.Shelf
attribute [local go_sem] Oper.semAt_some
theorem lR(s:ByteArray)(w:World):
    Calls prog 239 #[.string s, .string ⟨#[47]⟩] w fun e w'=>
     e= .returned (.func (.func 274) #[] #[.pointer (some ⟨w.heap.size+1,0,none⟩), .pointer (some ⟨w.heap.size,0,none⟩), .pointer (some ⟨w.heap.size+1+1,0,none⟩)])∧
     w'=((w.alloc (.cells #[.string s] 9)).alloc (.cells #[.string ⟨#[47]⟩] 9)).alloc (.cells #[.int .i64 0] 3):=by
 go_enter Tryz.func239,Tryz.ntmps239
 go_wp2
 go_ret
 exact⟨rfl,rfl⟩
def UP(w:World)(b:Nat):Nat:=match w.cell? ⟨b,0,none⟩with
 |some (.string r)=>r.size
 |_=>0
theorem Yj{w:World}{b:Nat}{t:TypeId}{r:ByteArray}(h:Boxed w b t (.string r)):UP w b=r.size:=by simp[UP,h.cell]
def Keep3(a b c:Nat)(X Y:World):Prop:=Y.heap[a]?=X.heap[a]?∧Y.heap[b]?=X.heap[b]?∧Y.heap[c]?=X.heap[c]?
theorem Keep3.trans{a b c:Nat}{X Y Z:World}(h:Keep3 a b c X Y)(k:Keep3 a b c Y Z):Keep3 a b c X Z:=⟨k.1.trans h.1,k.2.1.trans h.2.1,k.2.2.trans h.2.2⟩
theorem lS{a b c N:Nat}(ha:a<N)(hb:b<N)(hc:c<N)(W:World)(l:Nat)(o':Obj)(hl:N≤l):Keep3 a b c W (W.putObj l o'):=
 ⟨World.putObj_heap_other (by omega),World.putObj_heap_other (by omega),World.putObj_heap_other (by omega)⟩
theorem lT{a b c:Nat}{X Y:World}(h:Below X.heap.size X Y)(ha:a<X.heap.size)(hb:b<X.heap.size)(hc:c<X.heap.size):Keep3 a b c X Y:=⟨h.block _ ha,h.block _ hb,h.block _ hc⟩
theorem Yk(s:ByteArray)(i:Nat)(h:i<s.size):(s.extract (i+1) s.size).size<s.size:=by
 rw[ByteArray.size_extract];omega
theorem lU{s:ByteArray}{i:Nat}(hi:Lib.indexByte s.data.toList 47=i):i<s.size∧Cy s.data.toList=(s.extract 0 i).data.toList::Cy (s.extract (i+1) s.size).data.toList:=by
 have hm:(47:UInt8)∈s.data.toList:=by
  apply Classical.byContradiction;intro h;rw[l8 h]at hi;omega
 obtain⟨j,hj,hlt,hl,hn⟩:=Ye hm;obtain rfl:j=i:=by omega
 refine⟨by rw[Lib.size_eq];exact hlt,?_⟩;rw[Lib.extract_data,Lib.extract_to_end];simp only[List.drop_zero,Nat.sub_zero]
 conv=>lhs;rw[hl]
 exact X0 hn _
theorem lV{s:ByteArray}(hi:Lib.indexByte s.data.toList 47<0):Cy s.data.toList=[s.data.toList]:=by
 refine RH fun h=>?_;obtain⟨i,hi',_⟩:=Ye h;omega
def J4(xs:List AF):List Bs:=xs.map fun x=>x.data.toList
set_option maxRecDepth 100000 in
set_option maxHeartbeats 1000000 in
theorem lW(n:Nat)(s:ByteArray)(hs:s.size≤1000000)(b0 b1 b2:Nat)(w:World)(h0:Boxed w b0 9 (.string s))(h1:Boxed w b1 9 (.string ⟨#[47]⟩))(h2:Boxed w b2 3 (.int .i64 0))(h01:b0≠b1)(h02:b0≠b2):
    RP Fence.wide n prog 274 #[.pointer (some ⟨b1,0,none⟩), .pointer (some ⟨b0,0,none⟩), .pointer (some ⟨b2,0,none⟩)] (fun x:AF=>#[.string x]) (fun b=>b=b0) (Keep3 b0 b1 b2) (fun xs=>J4 xs<+:Cy s.data.toList)
     (fun xs=>J4 xs=Cy s.data.toList) (fun pre=>J4 pre<+:Cy s.data.toList) w:=fun l J Jx W hW hJ hJx hY hst=>by
 have k0:Boxed W b0 9 (.string s):=Fb h0 hW h0.lt;have k1:Boxed W b1 9 (.string ⟨#[47]⟩):=Fb h1 hW h1.lt;have k2:Boxed W b2 3 (.int .i64 0):=Fb h2 hW h2.lt;refine callsIn_of_wp Tryz.func274 rfl trivial ?_ rfl;simp only[Tryz.ntmps274,List.size_toArray,List.length_cons,List.length_nil,Nat.reduceAdd,Nat.reduceSub,Array.replicate_succ,Array.replicate_zero,List.push_toArray,List.append_toArray,List.nil_append,List.cons_append];have c1:=k1.cell
 gi_wp2
 gi_loopw [7] (fun _ wr=>∃(pre:List AF) (r:ByteArray),Boxed wr b0 9 (.string r)∧Boxed wr b1 9 (.string ⟨#[47]⟩)∧Boxed wr b2 3 (.int .i64 0)∧J pre wr∧Hid (J4 pre++Cy r.data.toList=Cy s.data.toList)∧r.size≤s.size) (fun _ wr=>UP wr b0)
 case atStart=>exact⟨[],s,k0,k1,k2,hst,rfl,B7 _⟩
 case round=>
  obtain⟨pre,r,m0,m1,m2,hj,hpre,hle⟩:=hrel;clear k0 k1 k2 c1 hst;have c0:=m0.cell;have c1:=m1.cell;have c2:=m2.cell;have f0:=m0.frozen
  gi_wp2_with fail
  refine NZ ((callsIn_wide.2 (l7 _ _)).mono ?_);rintro e w' ⟨rfl,rfl⟩;have hge:=Lib.indexByte_ge r.data.toList 47;by_cases hneg:Lib.indexByte r.data.toList 47<0
  ·have HS:=Lib.hid (lV hneg);obtain⟨fn,tmps,assign,body,hy,hR⟩:=hY pre r wr hj (by rw[←hpre.out,HS.out];simp[J4])
   gi_wp2
   refine⟨(fun h=>by cases h),hR.mono ?_⟩;rintro e W3 (⟨rfl,hJ3,hk3⟩|⟨rfl,hJx3⟩)
   ·gi_wp2
    go_end0
    exact⟨⟨_,rfl⟩, .inl ⟨pre++[r],by rw[←hpre.out,HS.out];simp[J4],hJ3⟩⟩
   gi_wp2
   go_end0
   exact⟨⟨_,rfl⟩, .inr ⟨pre++[r],by rw[←hpre.out,HS.out];simp[J4],hJx3⟩⟩
  obtain⟨i,hi⟩:=Int.eq_ofNat_of_zero_le (show 0≤Lib.indexByte r.data.toList 47 by omega);obtain⟨hlt,hseg⟩:=lU hi;have HS:=Lib.hid hseg;clear hseg hge hneg;rw[hi];clear hi;obtain⟨fn,tmps,assign,body,hy,hR⟩:=hY pre (r.extract 0 i) wr hj (by rw[←hpre.out,HS.out];simp[J4])
  gi_wp2
  refine⟨(fun h=>by cases h),hR.mono ?_⟩;rintro e W3 (⟨rfl,hJ3,hk3⟩|⟨rfl,hJx3⟩)
  ·have q0:Boxed W3 b0 9 (.string r):=hk3.1.trans m0;have q1:Boxed W3 b1 9 (.string ⟨#[47]⟩):=hk3.2.1.trans m1;have q2:Boxed W3 b2 3 (.int .i64 0):=hk3.2.2.trans m2;clear c0 c1 c2 f0 hy hR;have c0:=q0.cell;have c1:=q1.cell;have c2:=q2.cell;have f0:=q0.frozen
   gi_wp2
   go_roundw
   case rel=>exact⟨pre++[r.extract 0 i],r.extract (i+1) r.size,q0.set _,q1.other (Ne.symm h01) _,q2.other (Ne.symm h02) _,hJ _ _ _ hJ3 (Moves.set_ (own:=fun b=>b=b0) _ rfl _),Lib.hid (by rw[←hpre.out,HS.out];simp[J4]),Nat.le_trans (Nat.le_of_lt (Yk r i hlt)) hle⟩
   case measure=>rw[Yj (q0.set _),Yj m0];exact Yk r i hlt
  gi_wp2
  refine bodyPost_ret (results_none rfl _ _ _) rfl ?_;exact⟨⟨_,rfl⟩, .inr ⟨pre++[r.extract 0 i],by rw[←hpre.out,HS.out];simp[J4],hJx3⟩⟩
end Go.Proofs.YtbgnigjfkbmceaaGreatDoor
namespace Go.Proofs.YtbgnigjfkbmceaaGreatDoor
open Go.RowKit Go.Shelf
attribute [local go_sem] Oper.semAt_some
theorem UQ(l:Bs):Lib.hasPrefix l [47]=decide (l.head?=some 47):=by
 unfold Lib.hasPrefix
 cases l with
 |nil=>simp
 |cons c t=>
   rw[Bool.eq_iff_iff,List.isPrefixOf_iff_prefix];simp[List.cons_prefix_cons,eq_comm]
theorem lX{l:Bs}(h:l.head?=some 47):Lib.trimPrefix l [47]=l.tail:=by
 unfold Lib.trimPrefix;rw[UQ,if_pos (by simp[h])];simp
set_option maxRecDepth 100000 in
set_option maxHeartbeats 1000000 in
theorem Yl(s:ByteArray)(w:World)(h:s.data.toList=[47]∨s.data.toList.head?≠some 47):
    Calls prog 183 #[.string s] w fun e w'=>e= .returned (.bool (Fo s.data.toList))∧Below w.heap.size w w':=by
 by_cases h1:s.data.toList=[47]
 ·obtain rfl:s=⟨#[47]⟩:=Yc h1
  go_enter Tryz.func183,Tryz.ntmps183
  go_wp2
  exact bodyPost_ret (v:= .bool true) (by simp[results,Tryz.results183,go_sem]) rfl ⟨rfl,(Below.refl _ _).alloc (B7 _) _⟩
 have h2:s.data.toList.head?≠some 47:=h.resolve_left h1;have e1:(s.toList==[47])=false:=by rw[MF,beq_eq_false_iff_ne];exact h1
 have HP:=Lib.hid (UQ s.data.toList);have HF:Hid (Fo s.data.toList=false):=Lib.hid (by unfold Fo;simp[h1,h2]);have HD:Hid (decide (s.data.toList.head?=some 47)=false):=Lib.hid (decide_eq_false h2);clear h h1 h2
 go_enter Tryz.func183,Tryz.ntmps183
 go_wp2_with fail
 refine(Tryz.strings_CutPrefix _ _ _).mono ?_;rintro e w' ⟨rfl,rfl⟩;rw[HP.out,HD.out]
 go_wp2
 exact bodyPost_ret (v:= .bool false) (by simp[results,Tryz.results183,go_sem]) rfl ⟨by rw[HF.out],(Below.refl _ _).alloc (B7 _) _⟩
set_option maxRecDepth 100000 in
set_option maxHeartbeats 1000000 in
theorem lY(n:Nat)(hn:Hid (1≤n))(s:ByteArray)(w:World)(hs:s.size≤1000000)(h1:s.data.toList≠[47])(h2:s.data.toList.head?=some 47):
    CallsIn Fence.wide n prog 183 #[.string s] w fun e w'=>e= .returned (.bool (Fo s.data.toList))∧Below w.heap.size w w':=by
 have e1:(s.toList==[47])=false:=by rw[MF,beq_eq_false_iff_ne];exact h1
 have HP:=Lib.hid (UQ s.data.toList);have HT:=Lib.hid (lX h2);have HF:Hid (Fo s.data.toList=(Cy s.data.toList.tail).all Fn):=Lib.hid (by unfold Fo;simp[h1,h2]);have HD:Hid (decide (s.data.toList.head?=some 47)=true):=Lib.hid (decide_eq_true h2);clear h1 h2;refine callsIn_of_wp_marks Tryz.func183 rfl trivial ?_ rfl;simp only[Tryz.ntmps183,List.size_toArray,List.length_cons,List.length_nil,Nat.reduceAdd,Nat.reduceSub,Array.replicate_succ,Array.replicate_zero,List.push_toArray,List.append_toArray,List.nil_append,List.cons_append]
 gi_wp2_with fail
 refine NZ ((callsIn_wide.2 (Tryz.strings_CutPrefix _ _ _)).mono ?_);rintro e w' ⟨rfl,rfl⟩;obtain⟨r,hr⟩:∃r:ByteArray,r=⟨(Lib.trimPrefix s.data.toList [47]).toArray⟩:=⟨_,rfl⟩;have hrl:r.data.toList=s.data.toList.tail:=by rw[hr,←HT.out]
 have HR:=Lib.hid hrl;have hrs:r.size≤1000000:=by rw[Lib.size_eq,hrl,List.length_tail,←Lib.size_eq];omega
 rw[HP.out,HD.out];rw[show(⟨(Lib.trimPrefix s.data.toList (ByteArray.mk #[47]).data.toList).toArray⟩:ByteArray)=r from hr.symm];clear hrl hr
 gi_wp2_with fail
 refine NZ ((callsIn_wide.2 (lR _ _)).mono ?_);rintro e w' ⟨rfl,rfl⟩
 gi_wp2_with fail
 have hR:Boxed (w.alloc (.cells #[.bool false] 4)) w.heap.size 4 (.bool false):=Boxed.new _ _ _;obtain⟨W0,hW0⟩:∃W0,w.alloc (.cells #[.bool false] 4)=W0:=⟨_,rfl⟩;have hz0:W0.heap.size=w.heap.size+1:=by rw[←hW0];simp
 have hB0:Below w.heap.size w W0:=by rw[←hW0];exact LW _ _
 rw[hW0]at hR ⊢;obtain⟨WL,hWL⟩:∃WL,((W0.alloc (.cells #[.string r] 9)).alloc (.cells #[.string ⟨#[47]⟩] 9)).alloc (.cells #[.int .i64 0] 3)=WL:=⟨_,rfl⟩;have hzL:WL.heap.size=w.heap.size+1+1+1+1:=by rw[←hWL];simp[hz0]
 have hBL:Below W0.heap.size W0 WL:=by rw[←hWL];exact PA _ _ _ _
 have k0:Boxed WL (w.heap.size+1) 9 (.string r):=by rw[←hWL,←hz0];exact TF _ _ _ _
 have k1:Boxed WL (w.heap.size+1+1) 9 (.string ⟨#[47]⟩):=by rw[←hWL,←hz0];exact PB _ _ _ _
 have k2:Boxed WL (w.heap.size+1+1+1) 3 (.int .i64 0):=by rw[←hWL,←hz0];exact TG _ _ _ _
 have kR:Boxed WL w.heap.size 4 (.bool false):=Fb hR hBL hR.lt;have hBw:Below w.heap.size w WL:=hB0.trans (hBL.mono (by omega));rw[hWL];have HB0:=Lib.hid hz0;have HBL:=Lib.hid hzL;clear hW0 hWL hz0 hR hB0 hBL hzL
 refine fY rfl hn.out (gf:=274) rfl trivial (enters_of Tryz.func274 (by kernel_rfl) rfl)
  (lW (n - 1) r hrs (w.heap.size+1) (w.heap.size+1+1) (w.heap.size+1+1+1) WL k0 k1 k2 (by omega) (by omega))
  (fun b hb=>by have:=HBL.out;omega) Keep3.trans (fun W l o o' hl _ _=>by have:=HBL.out;exact lS (N:=WL.heap.size) (by omega) (by omega) (by omega) W l o' hl) (Below.refl _ _) (fun _=>rfl)
  (fun pre W=>Boxed W w.heap.size 4 (.bool false)∧(∀p∈J4 pre,Fn p=true)∧Below w.heap.size w W)
  (fun c pre W=>c= .ret∧Boxed W w.heap.size 4 (.bool false)∧(∃p∈J4 pre,Fn p=false)∧Below w.heap.size w W)
  (fun s X Y h hm=>⟨hm.boxed h.1 (by omega),h.2.1,hm.under h.2.2 (B7 _) (fun b hb=>by omega) (by have:=HBL.out;omega)⟩)
  (fun c s X Y h hm=>⟨h.1,hm.boxed h.2.1 (by omega),h.2.2.1,hm.under h.2.2.2 (B7 _) (fun b hb=>by omega) (by have:=HBL.out;omega)⟩)
  ⟨kR,by simp[J4],hBw⟩
  (fun x=>{tmps:=#[.string s,undef, .pointer (some ⟨w.heap.size,0,none⟩), .string r, .bool true, .string x, .string s, .bool false, .tuple #[.string r, .bool true], .string s, .tuple #[.string r, .bool true], .string r, .bool true, .bool true, .bool false, .string r,
    .func (.func 274) #[] #[.pointer (some ⟨w.heap.size+1+1,0,none⟩), .pointer (some ⟨w.heap.size+1,0,none⟩), .pointer (some ⟨w.heap.size+1+1+1,0,none⟩)], .string x,undef,undef,undef],defers:=[]}) ?assign ?body ?done ?stop
 case assign=>
  intro l x W K hK
  gi_wp2
  exact hK
 case body=>
  rintro l pre x W ⟨hc,hnm,hbw⟩ _ hsz;have hcell:=hc.cell;have hfz:=hc.frozen;have HN:=Lib.hid hnm;have HZ:=Lib.hid hsz;clear hnm hsz
  gi_wp2_with fail
  refine NZ ((CallsIn.inRound l (callsIn_wide.2 (lO x W))).mono ?_);rintro e W' ⟨rfl,hb'⟩;have hc':Boxed W' w.heap.size 4 (.bool false):=Fb hc hb' hc.lt;have hbw':Below w.heap.size w W':=hbw.trans (hb'.mono hbw.size);clear hcell hfz;have hcell:=hc'.cell;have hfz:=hc'.frozen;have HX:Hid (J4 (pre++[x])=J4 pre++[x.data.toList]):=Lib.hid (by simp[J4])
  cases hnx:Fn x.data.toList with
  |true=>
    gi_wp2
    have h1:=HBL.out;have h2:=HZ.out;exact⟨RM hb',lT hb' (by omega) (by omega) (by omega),hc',by rw[HX.out];intro p hp;rcases List.mem_append.1 hp with hp|hp;exact HN.out p hp;simp at hp;rw[hp];exact hnx,hbw'⟩
  |false=>
    gi_wp2
    have h1:=HBL.out;exact⟨XA (RM hb') (by omega) _,rfl,hc'.set _,⟨x.data.toList,by rw[HX.out];simp,hnx⟩,hbw'.setCell (B7 _) _⟩
 case done=>
  rintro D xs W hD hS ⟨hc,hnm,hbw⟩ hK;have HS:=Lib.hid hS;have HN:=Lib.hid hnm;clear hS hnm;have hcell:=hc.cell;have hfz:=hc.frozen
  gi_wp2
  refine⟨by simp, .inl ⟨_,_,rfl,run_takeDeferred ((KeepsOthers.setCell _ _ _).same D _ hK rfl),?_⟩⟩;have h1:=HBL.out;have hcb:=(RN (hc.set (.bool true)) (show w.heap.size≠D by omega) (.deferred none)).cell;refine⟨.bool true,by simp[results,Tryz.f183,go_sem,hcb],by rw[HF.out,←HR.out,←HS.out,List.all_eq_true.2 HN.out],RO (hbw.setCell (p:=⟨w.heap.size,0,none⟩) (B7 _) _) (by omega) _⟩
 case stop=>
  rintro D c pre W hD hSp ⟨rfl,hc,hnm,hbw⟩ hK;have HS:=Lib.hid hSp;have HN:=Lib.hid hnm;clear hSp hnm;have hcell:=hc.cell
  gi_wp2
  refine⟨by simp, .inl ⟨_,_,rfl,run_takeDeferred hK,?_⟩⟩;have h1:=HBL.out;have hcb:=(RN hc (show w.heap.size≠D by omega) (.deferred none)).cell;refine⟨.bool false,by simp[results,Tryz.f183,go_sem,hcb],?_,RO hbw (by omega) _⟩;obtain⟨p,hp,hpf⟩:=HN.out;rw[HF.out,←HR.out,List.all_eq_false.2 ⟨p,HS.out.subset hp,by simp[hpf]⟩]
theorem lZ(s:ByteArray)(w:World)(hs:s.size≤1000000):
    Calls prog 183 #[.string s] w fun e w'=>e= .returned (.bool (Fo s.data.toList))∧Below w.heap.size w w':=by
 by_cases h1:s.data.toList=[47]
 ·exact Yl s w (.inl h1)
 by_cases h2:s.data.toList.head?=some 47
 ·exact callsIn_wide.1 (lY 6 (Lib.hid (by omega)) s w hs h1 h2)
 exact Yl s w (.inr h2)
end Go.Proofs.YtbgnigjfkbmceaaGreatDoor
namespace Go.Proofs.YtbgnigjfkbmceaaGreatDoor
open Go.RowKit Go.Shelf
attribute [local go_sem] Oper.semAt_some
end Go.Proofs.YtbgnigjfkbmceaaGreatDoor
namespace Go.Proofs.YtbgnigjfkbmceaaGreatDoor
open Go.RowKit Go.Shelf
attribute [local go_sem] Oper.semAt_some
end Go.Proofs.YtbgnigjfkbmceaaGreatDoor
namespace Go.Proofs.YtbgnigjfkbmceaaGreatDoor
open Go.RowKit
theorem m5{s:Spc}{start:AD}{p:AF}{fl:Bool}(h1:¬p=⟨#[]⟩)(h2:128<p.size):C9 s start p fl=(GT,36):=by unfold C9;rw[if_neg h1,if_pos h2]
section
variable {s:Spc}{start a:AD}{p:AF}{fl:Bool}(h1:¬p=⟨#[]⟩)(h2:¬128<p.size)(ha:(if J1 p=true then J2 s else start)=a)
include h1 h2 ha
theorem m6(hd:Ac s.files a=false):C9 s start p fl=(GT,2):=by
 unfold C9;rw[if_neg h1,if_neg h2,ha,if_pos hd]
variable (hd:Ac s.files a=true)
include hd
theorem Pl{e:Int}{τ:Lk}(h:GU s (fl||Bi p) (LA (Fq p) a)=(e,τ))(he:e≠0):C9 s start p fl=(GT,e):=by
 unfold C9;rw[if_neg h1,if_neg h2,ha,if_neg (by simp[hd]),h,if_pos he]
theorem m7{τ:Lk}(h:GU s (fl||Bi p) (LA (Fq p) a)=(0,τ))(hs:Bi p=true∧τ.ex=true∧Ac s.files τ.file=false):C9 s start p fl=(GT,20):=by
 unfold C9;rw[if_neg h1,if_neg h2,ha,if_neg (by simp[hd]),h,if_neg (by simp),if_pos hs]
theorem UR{τ:Lk}(h:GU s (fl||Bi p) (LA (Fq p) a)=(0,τ))(hs:¬(Bi p=true∧τ.ex=true∧Ac s.files τ.file=false)):C9 s start p fl=(Mt s (Bi p) τ,0):=by
 unfold C9;rw[if_neg h1,if_neg h2,ha,if_neg (by simp[hd]),h,if_neg (by simp),if_neg hs]
end
section
theorem US{s:Spc}(hs:SpcB s)(hv:SpcV s)(a:AD):AFn prog 193 [.agg (AW s), .agg (AB a)] (fun r=>r= .agg (AB (Fa s s.mounts.length a))):=
 (dM s a hs).mono fun r hr=>by rw[hr,jN hv]
end
def Pm(σ:Lk):List AV:=Al ⟨σ.dir,σ.name,σ.file,σ.ex,false,⟨#[]⟩⟩
theorem LF{s:Spc}(hv:FlsV s.files){F:Bool}{q:AF}{qs:List AF}{da:AD}{na:AF}{a:AD}{ea:Bool}{lk:Nat}(h8:lk≤8):(∀e,DX s F q qs a lk= .inl e→GU s F ⟨q::qs,da,na,a,ea,lk⟩=(e,UE))∧∀τ,DX s F q qs a lk= .inr τ→τ.links≤8∧GU s F ⟨q::qs,da,na,a,ea,lk⟩=GU s F τ∧Gp τ<(8 - lk) * 200+(qs.length+1):=by
 have hc:=kK hv (fl:=F) (σ:=⟨q::qs,da,na,a,ea,lk⟩) (p:=q) (ps:=qs) h8 rfl;refine⟨fun e he=>?_,fun τ hτ=>?_⟩
 ·rw[hc];simp only[he]
 obtain⟨h1,h2⟩:=UF hv h8 hτ;refine⟨h1,?_,h2⟩;rw[hc];simp only[hτ]
section
theorem Ym(s:Spc)(hs:SpcB s)(hv:SpcV s):AFn prog 192 [.agg (AW s)] (fun r=>r= .agg (AB (J2 s))):=by
 refine enter Tryz.func192 rfl rfl rfl rfl rfl 0 rfl ?_;refine E5 (h:=e_ (C4 (h:=Bk (h:=?_))));refine A3 rfl (A8 (US hs hv (0,1)) ?_);rintro r rfl;refine Ei (h:=B3 (?_));refine A6 ?_;rfl
theorem Yn(s:Spc)(start:AD)(p:AF)(fl:Bool)(hs:SpcN s)(hv:SpcV s)(hp:p.size≤100000):AFn prog 141 [.agg (AW s), .agg (AB start), .v (.string p), .v (.bool fl)] (fun r=>r= .tup [.agg (Al (C9 s start p fl).1), .v (.int .i64 (C9 s start p fl).2)]):=by
 have hw:=Y4 hv;have hsp:=UD p;refine enter Tryz.func141 rfl rfl rfl rfl rfl 0 rfl ?_;refine FU (h:=Bt (h:=?_));refine A3 rfl (A8 (UB p hp) ?_);rintro r ⟨ps,hps,rfl⟩;obtain rfl:=YH hps;clear hps;refine Ge (h:=x_ (h:=a_ (h:=a_ (h:=Bo (h:=Bd (h:=?_))))));refine A4 rfl (fun hb1 hc1=>?_) (fun hb1 hc1=>?_)
 ·refine Bx (h:=?_);refine A6 ?_;rw[show C9 s start p fl=(GT,2) from if_pos hc1];rfl
 refine EX (h:=FW (h:=e_ (?_)));refine A4 rfl (fun hb2 hc2=>?_) (fun hb2 hc2=>?_)
 ·refine Bx (h:=?_);refine A6 ?_;rw[m5 hc1 (by omega)];rfl
 refine AG (C4 (h:=Dw (h:=?_)));refine BC (fun t=>∃a,(if J1 p=true then J2 s else start)=a∧t=⟨look [(3, .v (.bool fl)),(4, .bp 0 0),(8, .bp 2 0),(10, .sl 1 ((Fq p).map J0) none),(12, .v (.bool (Bi p))),(13, .bp 3 0)],⟨[AW s,AB start,Al GT,AB a],[]⟩⟩) ?_ ?_
 ·skip
  refine Aa (h:=e_ (?_));refine A4 rfl (fun hb3 hc3=>?_) (fun hb3 hc3=>?_)
  ·refine Aw (l_ (h:=?_));refine A3 rfl (A8 (Ym s hs.b hv) ?_);rintro r rfl;refine s_ (h:=GH (h:=?_));exact⟨_,⟨J2 s,if_pos hc3,rfl⟩,(wk 4 0)⟩
  refine BG (AR (?_))
  first|exact⟨_,⟨J2 s,if_pos hc3,rfl⟩,(wk 4 0)⟩|exact⟨_,⟨start,if_neg (by simp[hc3]),rfl⟩,(wk 4 0)⟩
 rintro t ⟨a0,ha,rfl⟩;refine Fh (h:=l_ (h:=?_));refine A3 rfl (A8 (L3 s.files a0 hs.b.files) ?_);rintro r rfl;refine D2 (h:=?_);refine A4 rfl (fun hb4 hc4=>?_) (fun hb4 hc4=>?_)
 ·refine Bx (h:=?_);refine A6 ?_;rw[m6 hc1 (by omega) ha (by simpa using hc4)];rfl
 have had:Ac s.files a0=true:=by simpa using hc4
 refine AG (CA (h:=Bk (h:=Dw (h:=D7 (h:=?_)))));refine BC (fun t=>∃(τ:Lk) (d:AD),GU s (fl||Bi p) (LA (Fq p) a0)=(0,τ)∧τ.name.size≤1000∧t=⟨look [(4, .bp 0 0),(8, .bp 2 0),(12, .v (.bool (Bi p))),(14, .bp 4 0)],⟨[AW s,AB start,Al GT,AB d,Pm τ],[]⟩⟩) ?_ ?_
 ·skip
  refine BF (?_);refine BM (fun m t=>∃(σ:Lk) (d:AD),σ.links≤8∧σ.name.size≤12∧GU s (fl||Bi p) σ=GU s (fl||Bi p) (LA (Fq p) a0)∧m=Gp σ∧m≤1729∧t=⟨look [(3, .v (.bool fl)),(4, .bp 0 0),(8, .bp 2 0),(10, .sl 1 (σ.ps.map J0) none),(12, .v (.bool (Bi p))),(13, .bp 3 0),(14, .bp 4 0),(15, .v (.int .i64 (σ.links:Int)))],⟨[AW s,AB start,Al GT,AB d,Pm σ],[]⟩⟩) (Gp (LA (Fq p) a0)) ((wk 5 0)) (⟨_,a0,BE _,BE _,rfl,rfl,by show(8 - 0) * 200+(Fq p).length≤1729;omega,rfl⟩) ?_;rintro m t ⟨⟨ps0,da,na,a,ea,lk⟩,d,h8,hna,hT,rfl,hm,rfl⟩;have hm:(8 - lk) * 200+ps0.length≤1729:=hm;have h8:lk≤8:=h8;have hml:(ps0.map J0).length=ps0.length:=by simp
  refine Bf (h:=FW (h:=e_ (?_)));refine A4 rfl (fun hb5 hc5=>?_) (fun hb5 hc5=>?_)
  ·obtain⟨q,qs,hps⟩:∃q qs,ps0=q::qs:=by
    cases ps0 with
    |nil=>simp at hc5
    |cons q qs=>exact⟨q,qs,rfl⟩
   subst hps;have hml:(qs.map J0).length=qs.length:=by simp
   have hmq:(8 - lk) * 200+(qs.length+1)≤1729:=hm;have htg:=Tv hv.files (AM s.files a q).1;have htp:=UD (Ag s.files (AM s.files a q).1).target;refine AG (BF (Aa (h:=?_)));refine A3 rfl (DE (n:=0) rfl rfl rfl rfl ?_);refine l_ (h:=BO (h:=?_));refine JB (⟨look [(3, .v (.bool fl)),(4, .bp 0 0),(8, .bp 2 0),(10, .sl 1 (qs.map J0) none),(12, .v (.bool (Bi p))),(13, .bp 3 0),(14, .bp 4 0),(15, .v (.int .i64 (lk:Int))),(16, .v (.string q))],⟨[AW s,AB start,Al GT,AB d,Pm ⟨q::qs,da,na,a,ea,lk⟩],[]⟩⟩) ?_ ?_
   ·skip
    refine C2 (h:=?_);refine A3 rfl (VG (l:=1) rfl rfl rfl (by simp) ?_);refine Cw (h:=?_)
    first|(exfalso;first|contradiction|omega)|exact Ah 5 0 rfl rfl rfl rfl (by repeat (first|exact Sub.nil|refine Ai rfl rfl ?_|refine Ap ?_|refine Aq rfl ?_|refine Ar rfl ?_|(apply Sub.of;(focus exact rfl);(focus exact LeA.of_eq (vb (by rfl)));(focus exact rfl))))
   skip
   refine Ay (h:=Ei (h:=Fh (h:=l_ (h:=?_))));refine A3 rfl (A8 (L3 s.files a hs.b.files) ?_);rintro r rfl;refine D2 (h:=?_);refine A4 rfl (fun hb6 hc6=>?_) (fun hb6 hc6=>?_)
   ·have hst:DX s (fl||Bi p) q qs a lk= .inl 20:=by unfold DX;rw[if_pos hc6]
    refine Bx (h:=D8 (h:=D8 (h:=?_)));refine A6 ?_;rw[Pl hc1 (by omega) ha had (hT.symm.trans ((LF (F:=fl||Bi p) (da:=da) (na:=na) (ea:=ea) hv.files h8).1 _ hst)) (by decide)];rfl
   refine EX (h:=FW (h:=e_ (?_)));refine A4 rfl (fun hb7 hc7=>?_) (fun hb7 hc7=>?_)
   ·have hst:DX s (fl||Bi p) q qs a lk= .inl 36:=by unfold DX;rw[if_neg (by simp[hc6]),if_pos (by omega)]
    refine Bx (h:=D8 (h:=D8 (h:=?_)));refine A6 ?_;rw[Pl hc1 (by omega) ha had (hT.symm.trans ((LF (F:=fl||Bi p) (da:=da) (na:=na) (ea:=ea) hv.files h8).1 _ hst)) (by decide)];rfl
   have hq12:q.size≤12:=by omega
   refine EX (h:=E4 (h:=?_));refine AJ false rfl rfl (fun hb8 hc8=>?_) (fun hb8 hc8=>?_)
   ·refine BY (h:=DS (h:=E3 (h:=Bf (h:=Bd (h:=?_)))));refine A4 rfl (fun hb9 hc9=>?_) (fun hb9 hc9=>?_)
    ·rw[hc8]at hc9;exact absurd hc9 (by decide)
    have hst:DX s (fl||Bi p) q qs a lk= .inr ⟨qs,a,⟨#[]⟩,a,true,lk⟩:=by unfold DX;rw[if_neg (by simp[hc6]),if_neg (by omega),if_pos hc8]
    refine AG (CA (h:=Hm (h:=e_ (So (h:=LJ (AR (?_)))))));obtain⟨g1,g2,g3⟩:=(LF (F:=fl||Bi p) (da:=da) (na:=na) (ea:=ea) hv.files h8).2 _ hst;exact⟨_,_,g3,⟨_,_,g1,(by first|exact BE _|exact hq12),g2.symm.trans hT,rfl,Nat.le_trans (Nat.le_of_lt g3) hmq,rfl⟩,(by(try simp only[List.map_append]);exact Ah 5 0 rfl rfl rfl rfl ((by repeat (first|exact Sub.nil|refine Ai rfl rfl ?_|refine Ap ?_|refine Aq rfl ?_|refine Ar rfl ?_))))⟩
   refine CE (h:=CO (h:=?_));refine A4 rfl (fun hb10 hc10=>?_) (fun hb10 hc10=>?_)
   ·refine Bf (h:=Bd (h:=?_));refine A4 rfl (fun hb11 hc11=>?_) (fun hb11 hc11=>?_)
    ·have hst:DX s (fl||Bi p) q qs a lk= .inr ⟨qs,Fa s s.mounts.length (Gm s (s.mounts.length+1) a),⟨#[]⟩,Fa s s.mounts.length (Gm s (s.mounts.length+1) a),true,lk⟩:=by unfold DX;rw[if_neg (by simp[hc6]),if_neg (by omega),if_neg hc8,if_pos hc11]
     refine BR ([(0,AW s),(3,AB a)]) 5 (h:=A9 0 (h:=A9 1 (h:=A9 2 (h:=?_))));refine c_ 3 rfl (A8 (kF hs.b hv (s.mounts.length+1) a (by have:=jJ (s:=s) a.1;omega)) ?_);rintro r rfl;refine o_ (h:=?_);refine c_ 4 rfl (A8 (US hs.b hv (Gm s (s.mounts.length+1) a)) ?_);rintro r rfl;refine o_ (h:=?_);refine B8 5 (h:=z_ (h:=t_ (w_ (l_ (h:=l_ (h:=Bk (h:=s_ (h:=e_ (MR (Jz (LJ (AR (?_)))))))))))));obtain⟨g1,g2,g3⟩:=(LF (F:=fl||Bi p) (da:=da) (na:=na) (ea:=ea) hv.files h8).2 _ hst;exact⟨_,_,g3,⟨_,_,g1,(by first|exact BE _|exact hq12),g2.symm.trans hT,rfl,Nat.le_trans (Nat.le_of_lt g3) hmq,rfl⟩,(by(try simp only[List.map_append]);exact Ah 5 0 rfl rfl rfl rfl ((by repeat (first|exact Sub.nil|refine Ai rfl rfl ?_|refine Ap ?_|refine Aq rfl ?_|refine Ar rfl ?_))))⟩
    exact absurd hc10 hc11
   refine FY (h:=HA (h:=?_));refine A3 rfl (A8 (L4 s.files a q hs.b.files) ?_);rintro r rfl;refine JJ (h:=Bl (h:=?_));refine A4 rfl (fun hb12 hc12=>?_) (fun hb12 hc12=>?_)
   ·refine Bf (h:=FW (h:=m_ (h:=?_)));refine AJ false rfl rfl (fun hb13 hc13=>?_) (fun hb13 hc13=>?_)
    ·have hne:qs≠[]:=fun e=>by rw[e]at hc13;simp at hc13
     have hst:DX s (fl||Bi p) q qs a lk= .inl 2:=by unfold DX;rw[if_neg (by simp[hc6]),if_neg (by omega),if_neg hc8,if_neg hc10,if_pos hc12,if_pos (.inl hne)]
     refine EM (h:=E3 (h:=Bx (h:=Dk (h:=D8 (h:=?_)))));refine A6 ?_;rw[Pl hc1 (by omega) ha had (hT.symm.trans ((LF (F:=fl||Bi p) (da:=da) (na:=na) (ea:=ea) hv.files h8).1 _ hst)) (by decide)];rfl
    have hne:¬qs≠[]:=fun e=>e (Ff (by omega));refine m_ (h:=?_);refine As (A8 (Sz q (by omega)) ?_);rintro r rfl;refine Ck (h:=CO (h:=?_));refine A4 rfl (fun hb14 hc14=>?_) (fun hb14 hc14=>?_)
    ·have hst:DX s (fl||Bi p) q qs a lk= .inl 2:=by unfold DX;rw[if_neg (by simp[hc6]),if_neg (by omega),if_neg hc8,if_neg hc10,if_pos hc12,if_pos (.inr hc14)]
     refine Bx (h:=Dk (h:=D8 (h:=?_)));refine A6 ?_;rw[Pl hc1 (by omega) ha had (hT.symm.trans ((LF (F:=fl||Bi p) (da:=da) (na:=na) (ea:=ea) hv.files h8).1 _ hst)) (by decide)];rfl
    have hst:DX s (fl||Bi p) q qs a lk= .inr ⟨[],a,q,(0,0),false,lk⟩:=by unfold DX;rw[if_neg (by simp[hc6]),if_neg (by omega),if_neg hc8,if_neg hc10,if_pos hc12,if_neg (fun e=>e.elim hne (by simp[hc14]))]
    have hfin:=hT.symm.trans (((LF (F:=fl||Bi p) (da:=da) (na:=na) (ea:=ea) hv.files h8).2 _ hst).2.1.trans (YJ rfl));refine AG (w_ (l_ (h:=m_ (h:=Bk (h:=s_ (h:=e_ (MR (Jz (aE rfl (Jz (LJ (AR (?_)))))))))))));exact⟨_,⟨_,_,hfin,(by first|exact Nat.le_trans hna (by decide)|exact Nat.le_trans hq12 (by decide)),rfl⟩,(wk 5 0)⟩
   refine FY (h:=l_ (h:=?_));refine A3 rfl (A8 (FJ s.files (AM s.files a q).1 hs.b.files) ?_);rintro r rfl;refine Ee (h:=BO (h:=q_ (?_)));refine JB (⟨look [(3, .v (.bool fl)),(4, .bp 0 0),(8, .bp 2 0),(10, .sl 1 (qs.map J0) none),(12, .v (.bool (Bi p))),(13, .bp 3 0),(14, .bp 4 0),(15, .v (.int .i64 (lk:Int))),(16, .v (.string q)),(17, .bp 5 0),(19, .bp 6 0),(130, .v (.bool (decide ((Ag s.files (AM s.files a q).1).kind=3)&&(decide (0<((qs.map J0).length:Int))||(fl||Bi p)))))],⟨[AW s,AB start,Al GT,AB a,Pm ⟨q::qs,da,na,a,ea,lk⟩,AB (AM s.files a q).1,AZ (Ag s.files (AM s.files a q).1)],[]⟩⟩) ?_ ?_
   ·skip
    refine Aw (CN (h:=m_ (h:=?_)));refine AJ true rfl rfl (fun hb15 hc15=>?_) (fun hb15 hc15=>?_)
    ·refine m_ (h:=FW (h:=m_ (h:=?_)));refine AJ false rfl rfl (fun hb16 hc16=>?_) (fun hb16 hc16=>?_)
     ·refine Hi (h:=Bu (h:=Hi (h:=CD (h:=FE (h:=?_)))))
      first|(exfalso;first|contradiction|omega)|exact Ah 7 0 rfl rfl rfl rfl (by repeat (first|exact Sub.nil|refine Ai rfl rfl ?_|refine Ap ?_|refine Aq rfl ?_|refine Ar rfl ?_|(apply Sub.of;(focus exact rfl);(focus exact LeA.of_eq (vb (by first|(rw[hb15];rfl)|(rw[hb15,hb16];rfl)|(rw[hb15,hb16,hb17];rfl))));(focus exact rfl))))
     refine m_ (h:=Bc (h:=?_));refine AJ false rfl rfl (fun hb17 hc17=>?_) (fun hb17 hc17=>?_)
     ·refine Hi (h:=CD (h:=FE (h:=?_)))
      first|(exfalso;first|contradiction|omega)|exact Ah 7 0 rfl rfl rfl rfl (by repeat (first|exact Sub.nil|refine Ai rfl rfl ?_|refine Ap ?_|refine Aq rfl ?_|refine Ar rfl ?_|(apply Sub.of;(focus exact rfl);(focus exact LeA.of_eq (vb (by first|(rw[hb15];rfl)|(rw[hb15,hb16];rfl)|(rw[hb15,hb16,hb17];rfl))));(focus exact rfl))))
     refine m_ (h:=Bh (h:=FE (h:=?_)))
     first|(exfalso;first|contradiction|omega)|exact Ah 7 0 rfl rfl rfl rfl (by repeat (first|exact Sub.nil|refine Ai rfl rfl ?_|refine Ap ?_|refine Aq rfl ?_|refine Ar rfl ?_|(apply Sub.of;(focus exact rfl);(focus exact LeA.of_eq (vb (by first|(rw[hb15];rfl)|(rw[hb15,hb16];rfl)|(rw[hb15,hb16,hb17];rfl))));(focus exact rfl))))
    refine BB (h:=Me (h:=BY (h:=Me (h:=Hi (h:=EJ (h:=?_))))))
    first|(exfalso;first|contradiction|omega)|exact Ah 7 0 rfl rfl rfl rfl (by repeat (first|exact Sub.nil|refine Ai rfl rfl ?_|refine Ap ?_|refine Aq rfl ?_|refine Ar rfl ?_|(apply Sub.of;(focus exact rfl);(focus exact LeA.of_eq (vb (by first|(rw[hb15];rfl)|(rw[hb15,hb16];rfl)|(rw[hb15,hb16,hb17];rfl))));(focus exact rfl))))
   skip
   refine A4 rfl (fun hb18 hc18=>?_) (fun hb18 hc18=>?_)
   ·have hlk:(Ag s.files (AM s.files a q).1).kind=3∧(qs≠[]∨(fl||Bi p)=true):=by
     rw[Bool.and_eq_true,decide_eq_true_eq,Bool.or_eq_true,decide_eq_true_eq]at hc18;exact⟨hc18.1,hc18.2.imp (fun h e=>by rw[e]at h;simp at h) id⟩
    refine Bf (h:=Bd (h:=?_));refine A4 rfl (fun hb19 hc19=>?_) (fun hb19 hc19=>?_)
    ·have hst:DX s (fl||Bi p) q qs a lk= .inl 40:=by unfold DX;rw[if_neg (by simp[hc6]),if_neg (by omega),if_neg hc8,if_neg hc10,if_neg (by simp[hc12]),if_pos hlk,if_pos (by omega)]
     refine Bx (h:=Dk (h:=D8 (h:=?_)));refine A6 ?_;rw[Pl hc1 (by omega) ha had (hT.symm.trans ((LF (F:=fl||Bi p) (da:=da) (na:=na) (ea:=ea) hv.files h8).1 _ hst)) (by decide)];rfl
    refine AG (Aa (h:=?_));refine A3 rfl (Nw rfl rfl (by omega) ?_);refine BO (h:=Ay (h:=?_));refine A3 rfl (A8 (UB (Ag s.files (AM s.files a q).1).target (by omega)) ?_);rintro r ⟨ps,hps,rfl⟩;obtain rfl:=YH hps;clear hps;refine Ge (h:=x_ (h:=a_ (h:=a_ (h:=Bo (h:=e_ (?_))))));refine A4 rfl (fun hb20 hc20=>?_) (fun hb20 hc20=>?_)
    ·have hst:DX s (fl||Bi p) q qs a lk= .inr ⟨Fq (Ag s.files (AM s.files a q).1).target++qs,J2 s,⟨#[]⟩,J2 s,true,lk+1⟩:=by unfold DX;rw[if_neg (by simp[hc6]),if_neg (by omega),if_neg hc8,if_neg hc10,if_neg (by simp[hc12]),if_pos hlk,if_neg (by omega),if_pos hc20]
     refine Aw (l_ (h:=?_));refine A3 rfl (A8 (Ym s hs.b hv) ?_);rintro r rfl;refine s_ (h:=e_ (w_ (m_ (h:=Gb (h:=m_ (h:=Gb (h:=a_ (h:=e_ (w_ (l_ (h:=l_ (h:=Bk (h:=s_ (h:=e_ (MR (Jz (LJ (AR (?_)))))))))))))))))));obtain⟨g1,g2,g3⟩:=(LF (F:=fl||Bi p) (da:=da) (na:=na) (ea:=ea) hv.files h8).2 _ hst;exact⟨_,_,g3,⟨_,_,g1,(by first|exact BE _|exact hq12),g2.symm.trans hT,rfl,Nat.le_trans (Nat.le_of_lt g3) hmq,rfl⟩,(by(try simp only[List.map_append]);exact Ah 5 0 rfl rfl rfl rfl ((by repeat (first|exact Sub.nil|refine Ai rfl rfl ?_|refine Ap ?_|refine Aq rfl ?_|refine Ar rfl ?_))))⟩
    have hst:DX s (fl||Bi p) q qs a lk= .inr ⟨Fq (Ag s.files (AM s.files a q).1).target++qs,a,⟨#[]⟩,a,true,lk+1⟩:=by unfold DX;rw[if_neg (by simp[hc6]),if_neg (by omega),if_neg hc8,if_neg hc10,if_neg (by simp[hc12]),if_pos hlk,if_neg (by omega),if_neg (by simp[hc20])]
    refine AG (w_ (m_ (h:=Gb (h:=m_ (h:=Gb (h:=a_ (h:=e_ (w_ (l_ (h:=l_ (h:=Bk (h:=s_ (h:=e_ (MR (Jz (LJ (AR (?_))))))))))))))))));obtain⟨g1,g2,g3⟩:=(LF (F:=fl||Bi p) (da:=da) (na:=na) (ea:=ea) hv.files h8).2 _ hst;exact⟨_,_,g3,⟨_,_,g1,(by first|exact BE _|exact hq12),g2.symm.trans hT,rfl,Nat.le_trans (Nat.le_of_lt g3) hmq,rfl⟩,(by(try simp only[List.map_append]);exact Ah 5 0 rfl rfl rfl rfl ((by repeat (first|exact Sub.nil|refine Ai rfl rfl ?_|refine Ap ?_|refine Aq rfl ?_|refine Ar rfl ?_))))⟩
   have hlk:¬((Ag s.files (AM s.files a q).1).kind=3∧(qs≠[]∨(fl||Bi p)=true)):=fun h=>by
    rw[decide_eq_true h.1,Bool.true_and,Bool.or_eq_false_iff]at hc18;rcases h.2 with e|e
    ·exact e (Ff (by have:=of_decide_eq_false hc18.1;omega))
    rw[hc18.2]at e;cases e
   have hst:DX s (fl||Bi p) q qs a lk= .inr ⟨qs,a,q,Fa s s.mounts.length (AM s.files a q).1,true,lk⟩:=by unfold DX;rw[if_neg (by simp[hc6]),if_neg (by omega),if_neg hc8,if_neg hc10,if_neg (by simp[hc12]),if_neg hlk]
   refine AG (BR ([(0,AW s),(3,AB a),(5,AB (AM s.files a q).1)]) 6 (h:=A9 0 (h:=AE 1 (h:=A9 2 (h:=A9 3 (h:=?_))))));refine c_ 4 rfl (A8 (US hs.b hv (AM s.files a q).1) ?_);rintro r rfl;refine o_ (h:=KZ 5 (h:=?_));refine B8 6 (h:=z_ (h:=BA (AR (?_))));obtain⟨g1,g2,g3⟩:=(LF (F:=fl||Bi p) (da:=da) (na:=na) (ea:=ea) hv.files h8).2 _ hst;exact⟨_,_,g3,⟨_,_,g1,(by first|exact BE _|exact hq12),g2.symm.trans hT,rfl,Nat.le_trans (Nat.le_of_lt g3) hmq,rfl⟩,(by(try simp only[List.map_append]);exact Ah 5 0 rfl rfl rfl rfl ((by repeat (first|exact Sub.nil|refine Ai rfl rfl ?_|refine Ap ?_|refine Aq rfl ?_|refine Ar rfl ?_))))⟩
  have hc5:¬(0:Int)<((ps0.map J0).length:Int):=hc5;have e5:ps0=[]:=Ff (by omega);subst e5;have hfin:=hT.symm.trans (YJ (s:=s) (fl:=fl||Bi p) (σ:=⟨[],da,na,a,ea,lk⟩) rfl);refine Kb (h:=AR (?_));exact⟨_,⟨_,_,hfin,(by first|exact Nat.le_trans hna (by decide)|exact Nat.le_trans hq12 (by decide)),rfl⟩,(wk 5 0)⟩
 rintro t ⟨τ,d,hT,hnm,rfl⟩;refine q_ (?_);refine JB (⟨look [(4, .bp 0 0),(8, .bp 2 0),(12, .v (.bool (Bi p))),(14, .bp 4 0),(171, .v (.bool (Bi p&&(τ.ex&& !Ac s.files τ.file))))],⟨[AW s,AB start,Al GT,AB d,Pm τ],[]⟩⟩) ?_ ?_
 ·skip
  refine EK (h:=?_);refine AJ true rfl rfl (fun hb21 hc21=>?_) (fun hb21 hc21=>?_)
  ·refine AO (h:=Bu (h:=?_));refine AJ true rfl rfl (fun hb22 hc22=>?_) (fun hb22 hc22=>?_)
   ·have hx:τ.ex=true:=hb22;refine Eg (h:=?_);refine As (A8 (L3 s.files τ.file hs.b.files) ?_);rintro r rfl;refine Ck (h:=FE (h:=?_))
    first|(exfalso;first|contradiction|omega)|exact Ah 5 0 rfl rfl rfl rfl (by repeat (first|exact Sub.nil|refine Ai rfl rfl ?_|refine Ap ?_|refine Aq rfl ?_|refine Ar rfl ?_|(apply Sub.of;(focus exact rfl);(focus exact LeA.of_eq (vb (by first|(rw[hb21];rfl)|(rw[hb21,hx];rfl))));(focus exact rfl))))
   have hx:τ.ex=false:=hb22;refine Ja (h:=EJ (h:=?_))
   first|(exfalso;first|contradiction|omega)|exact Ah 5 0 rfl rfl rfl rfl (by repeat (first|exact Sub.nil|refine Ai rfl rfl ?_|refine Ap ?_|refine Aq rfl ?_|refine Ar rfl ?_|(apply Sub.of;(focus exact rfl);(focus exact LeA.of_eq (vb (by first|(rw[hb21];rfl)|(rw[hb21,hx];rfl))));(focus exact rfl))))
  refine BY (h:=Bc (h:=Ja (h:=EJ (h:=?_))))
  first|(exfalso;first|contradiction|omega)|exact Ah 5 0 rfl rfl rfl rfl (by repeat (first|exact Sub.nil|refine Ai rfl rfl ?_|refine Ap ?_|refine Aq rfl ?_|refine Ar rfl ?_|(apply Sub.of;(focus exact rfl);(focus exact LeA.of_eq (vb (by first|(rw[hb21];rfl)|(rw[hb21,hx];rfl))));(focus exact rfl))))
 skip
 refine A4 rfl (fun hb23 hc23=>?_) (fun hb23 hc23=>?_)
 ·refine Bx (h:=?_);refine A6 ?_;rw[m7 hc1 (by omega) ha had hT (by simp only[Bool.and_eq_true,Bool.not_eq_true']at hc23;exact hc23)];rfl
 refine AG (Aa (h:=DF (h:=q_ (C4 (h:=AO (h:=?_))))));refine A3 rfl (A8 (kB hs.b hv τ.dir) ?_);rintro r rfl;refine Ge (h:=a_ (h:=Bt (h:=e_ (?_))));refine A4 rfl (fun hb24 hc24=>?_) (fun hb24 hc24=>?_)
 ·refine Aa (h:=DF (h:=Ay (h:=Bl (h:=?_))));refine A4 rfl (fun hb25 hc25=>?_) (fun hb25 hc25=>?_)
  ·refine C2 (h:=AO (h:=?_));refine A3 rfl (A8 (Y6 (EY s τ.dir).1 τ.name (by have:=hw τ.dir;omega) (by omega)) ?_);rintro r rfl;refine DF (h:=Di (h:=Az (h:=?_)));refine A6 ?_;rw[UR hc1 (by omega) ha had hT (fun h=>by rw[h.1,h.2.1,h.2.2]at hc23;cases hc23),show Mt s (Bi p) τ=⟨τ.dir,τ.name,τ.file,τ.ex,Bi p,Kj (EY s τ.dir).1 τ.name⟩ by unfold Mt;rw[if_pos hc24,if_neg hc25]];rfl
  refine AG (Di (h:=Az (h:=?_)));refine A6 ?_;rw[UR hc1 (by omega) ha had hT (fun h=>by rw[h.1,h.2.1,h.2.2]at hc23;cases hc23),show Mt s (Bi p) τ=⟨τ.dir,τ.name,τ.file,τ.ex,Bi p,(EY s τ.dir).1⟩ by unfold Mt;rw[if_pos hc24,if_pos hc25]];rfl
 refine AG (Di (h:=Az (h:=?_)));refine A6 ?_;rw[UR hc1 (by omega) ha had hT (fun h=>by rw[h.1,h.2.1,h.2.2]at hc23;cases hc23),show Mt s (Bi p) τ=⟨τ.dir,τ.name,τ.file,τ.ex,Bi p,⟨#[]⟩⟩ by unfold Mt;rw[if_neg (by simp[hc24])]];rfl
end
end Go.Proofs.YtbgnigjfkbmceaaGreatDoor
