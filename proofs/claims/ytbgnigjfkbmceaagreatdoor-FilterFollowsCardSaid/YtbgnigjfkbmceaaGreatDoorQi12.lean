/-
  Part 12 of the proof of FilterFollowsP: what the statement's proof uses of the texts in wip/tpl.
-/
import Derived.Test.YtbgnigjfkbmceaaGreatDoorShelf
import Derived.Laws.RangeAny
import Derived.Deep.LoopGhost
import Derived.Lib.OthersKept
import Derived.Lib.IndexLaws
import Derived.Shelf.Abstract
import Derived.Shelf.RegionOpen
import Derived.OwnWalkIn
import Derived.TacticsInMore
import Derived.LoopNIn
import Derived.LoopIn
import Derived.Maps.AppendAt
import Derived.StillTailTactics
import Derived.Test.YtbgnigjfkbmceaaGreatDoorQi11
open Go.Proofs.Tryz (prog)
set_option maxRecDepth 10000
set_option maxHeartbeats 4000000
set_option linter.unusedVariables false
set_option linter.unusedSimpArgs false
namespace Go.Proofs.YtbgnigjfkbmceaaGreatDoor
open Go.RowKit
def Nl(r:AE×Int×Int×Int×Int):List AV:=[.v (.string r.1), .v (.int .i64 r.2.1), .v (.int .i64 r.2.2.1), .v (.int .i64 r.2.2.2.1), .v (.int .i64 r.2.2.2.2)]
theorem lY{a b:Nat}(h:a<b):Nat.blt a b=true:=by rw[Nat.blt_eq];exact h
theorem lZ{c:Cal}{j:Nat}(h:j<4):∃x,(Oc c)[j]?=some x∧(G8 c)[1+j]?=some (.v (.int .i64 x)):=by
 match j,h with
 |0,_=>exact⟨_,rfl,rfl⟩
 |1,_=>exact⟨_,rfl,rfl⟩
 |2,_=>exact⟨_,rfl,rfl⟩
 |3,_=>exact⟨_,rfl,rfl⟩
theorem m5{l:List Int}{n j:Nat}{x:Int}(hn:n≤j)(hy:l[j]?=some x)(hx:x≠0):((l.drop n).any fun x=>decide (x≠0))=true:=by
 rw[List.any_eq_true];refine⟨x,?_,by simpa using hx⟩;refine Ag (i:=j - n) ?_;rw[List.getElem?_drop,show n+(j - n)=j by omega];exact hy
theorem m6{l:List Int}{n:Nat}(h:∀i x,n≤i→l[i]?=some x→x=0):((l.drop n).any fun x=>decide (x≠0))=false:=by
 rw[List.any_eq_false];intro x hx;obtain⟨i,hi⟩:=List.mem_iff_getElem?.1 hx;rw[List.getElem?_drop]at hi;simp[h _ x (Nat.le_add_right n i) hi]
theorem Yh(n:Int):0≤(C9 n).2.1∧(C9 n).2.1≤2:=by
 unfold C9;split
 ·decide
 rename_i h;obtain⟨m,rfl⟩:=Int.eq_ofNat_of_zero_le (show 0≤n by omega);have hm:m<22:=by omega
 have key:∀m,m<22→0≤((Fp[m]?).getD (⟨#[]⟩,0,0,0,0)).2.1∧((Fp[m]?).getD (⟨#[]⟩,0,0,0,0)).2.1≤2:=by decide
 exact key m hm
section
theorem Yi(n:Nod)(euid egid want:Int):AFn prog 249 [.agg (Ac n), .v (.int .i64 euid), .v (.int .i64 egid), .v (.int .i64 want)] (fun r=>r= .v (.bool (Gz n euid egid want))):=by
 refine enter Tryz.func249 rfl rfl rfl rfl rfl 0 rfl ?_;refine C6 (h:=Bw (h:=Di (h:=?_)));refine AJ false rfl rfl (fun hb1 hc1=>?_) (fun hb1 hc1=>?_)
 ·refine BD (h:=FE (h:=?_));refine A6 ?_
  first|(exfalso;first|contradiction|omega)|(exact vb (by first|(simp[Gz,Hi, *];done)|(simp[Gz,Hi, *];intro h;exact absurd ((by assumption:euid=n.uid).trans h) (by assumption))))
 refine m_ (h:=E6 (h:=CV (h:=?_)));refine A4 rfl (fun hb2 hc2=>?_) (fun hb2 hc2=>?_)
 ·refine BA (h:=?_);refine A6 ?_
  first|(exfalso;first|contradiction|omega)|(exact vb (by first|(simp[Gz,Hi, *];done)|(simp[Gz,Hi, *];intro h;exact absurd ((by assumption:euid=n.uid).trans h) (by assumption))))
 refine Dl (h:=BN (h:=?_));refine A4 rfl (fun hb3 hc3=>?_) (fun hb3 hc3=>?_)
 ·refine Aa (h:=FC (h:=E1 (h:=?_)));refine AJ false rfl rfl (fun hb4 hc4=>?_) (fun hb4 hc4=>?_)
  ·refine Ch (h:=Fi (h:=E8 (h:=?_)));refine A6 ?_
   first|(exfalso;first|contradiction|omega)|(exact vb (by first|(simp[Gz,Hi, *];done)|(simp[Gz,Hi, *];intro h;exact absurd ((by assumption:euid=n.uid).trans h) (by assumption))))
  refine Cx (h:=Bh (h:=?_));refine AJ false rfl rfl (fun hb5 hc5=>?_) (fun hb5 hc5=>?_)
  ·refine Fi (h:=E8 (h:=?_));refine A6 ?_
   first|(exfalso;first|contradiction|omega)|(exact vb (by first|(simp[Gz,Hi, *];done)|(simp[Gz,Hi, *];intro h;exact absurd ((by assumption:euid=n.uid).trans h) (by assumption))))
  refine Ab (h:=FC (h:=GH (h:=Bp (h:=E8 (h:=?_)))));refine A6 ?_
  first|(exfalso;first|contradiction|omega)|(exact vb (by first|(simp[Gz,Hi, *];done)|(simp[Gz,Hi, *];intro h;exact absurd ((by assumption:euid=n.uid).trans h) (by assumption))))
 refine AG (Az (h:=FC (h:=Bw (h:=Ab (h:=BN (h:=?_))))));refine A4 rfl (fun hb6 hc6=>?_) (fun hb6 hc6=>?_)
 ·refine Av (Ab (h:=RA (h:=FC (h:=C4 (h:=m_ (h:=FC (h:=DD (h:=BJ (h:=?_)))))))));refine A6 ?_
  first|(exfalso;first|contradiction|omega)|(exact vb (by first|(simp[Gz,Hi, *];done)|(simp[Gz,Hi, *];intro h;exact absurd ((by assumption:euid=n.uid).trans h) (by assumption))))
 refine Aa (h:=Ab (h:=BN (h:=?_)));refine A4 rfl (fun hb7 hc7=>?_) (fun hb7 hc7=>?_)
 ·refine Av (Ab (h:=RA (h:=FC (h:=C4 (h:=m_ (h:=FC (h:=DD (h:=BJ (h:=?_)))))))));refine A6 ?_
  first|(exfalso;first|contradiction|omega)|(exact vb (by first|(simp[Gz,Hi, *];done)|(simp[Gz,Hi, *];intro h;exact absurd ((by assumption:euid=n.uid).trans h) (by assumption))))
 refine AG (E9 (h:=FC (h:=DD (h:=BJ (h:=?_)))));refine A6 ?_
 first|(exfalso;first|contradiction|omega)|(exact vb (by first|(simp[Gz,Hi, *];done)|(simp[Gz,Hi, *];intro h;exact absurd ((by assumption:euid=n.uid).trans h) (by assumption))))
theorem UU(n:Int):AFn prog 144 [.v (.int .i64 n)] (fun r=>r= .v (.bool (Ps n))):=by
 refine enter Tryz.func144 rfl rfl rfl rfl rfl 0 rfl ?_;refine Eh (h:=EJ (h:=m_ (h:=?_)));refine AJ true rfl rfl (fun hb1 hc1=>?_) (fun hb1 hc1=>?_)
 ·refine m_ (h:=HA (h:=Gk (h:=?_)));refine A6 ?_
  first|(exfalso;first|contradiction|omega)|(exact vb (by simp[Ps, *]))
 refine Hw (h:=BJ (h:=?_));refine A6 ?_
 first|(exfalso;first|contradiction|omega)|(exact vb (by simp[Ps, *]))
theorem Yj:AFn prog 190 [] (fun r=>r= .sl 5 (Fp.map Nl) none):=by
 refine enter Tryz.func190 rfl rfl rfl rfl rfl 0 rfl ?_;refine Cw (h:=w_ (Bq (h:=Bq (h:=Bq (h:=Bq (h:=Bq (h:=Bq (h:=Bq (h:=Bq (h:=Bq (h:=Bq (h:=Bq (h:=Bq (h:=Bq (h:=Bq (h:=Bq (h:=Bq (h:=Bq (h:=Bq (h:=Bq (h:=Bq (h:=?_))))))))))))))))))))));refine Bq (h:=Bq (h:=BY (h:=BJ (h:=?_))));refine A6 ?_;rfl
theorem m7:AFn prog 189 [] (fun r=>r= .v (.int .i64 22)):=by
 refine enter Tryz.func189 rfl rfl rfl rfl rfl 0 rfl ?_;refine Cw (h:=w_ (?_));refine A3 rfl (A8 (Yj) ?_);rintro r rfl;refine n_ (h:=BJ (h:=?_));refine A6 ?_;rfl
theorem Yk(n:Int):AFn prog 139 [.v (.int .i64 n)] (fun r=>r= .agg (Nl (C9 n))):=by
 refine enter Tryz.func139 rfl rfl rfl rfl rfl 0 rfl ?_;refine w_ (DT (h:=Bv (h:=Di (h:=?_))));refine AJ false rfl rfl (fun hb1 hc1=>?_) (fun hb1 hc1=>?_)
 ·refine EK (h:=w_ (E0 (h:=e_ (B8 (Bu (?_))))));refine A6 ?_;rw[C9,if_pos (by omega)];rfl
 refine m_ (h:=?_);refine As (A8 (m7) ?_);rintro r rfl;refine EJ (h:=CV (h:=?_));refine A4 rfl (fun hb2 hc2=>?_) (fun hb2 hc2=>?_)
 ·refine w_ (E0 (h:=e_ (B8 (Bu (?_)))));refine A6 ?_;rw[C9,if_pos (by omega)];rfl
 refine AG (w_ (?_));refine A3 rfl (A8 (Yj) ?_);rintro r rfl;obtain⟨m,rfl⟩:=Int.eq_ofNat_of_zero_le (show 0≤n by omega);obtain⟨row,hrow⟩:∃row,Fp[m]?=some row:=⟨Fp[m]'(by show m<22;omega),B3 (by show m<22;omega)⟩;have hrow2:(Fp.map Nl)[m]?=some (Nl row):=by rw[List.getElem?_map,hrow];rfl
 refine m_ (h:=?_);refine A3 rfl (DA (n:=m) rfl rfl rfl hrow2 ?_);refine l_ (h:=s_ (h:=e_ (B8 (?_))));refine A6 ?_;rw[C9,if_neg (by omega),Int.toNat_natCast,hrow];rfl
theorem Yl(c:Cal)(hp:c.paths.length≤1000)(ha:c.args.length≤1000):AFn prog 95 [.agg (G8 c)] (fun r=>r= .v (.int .i64 (Bx c))):=by
 obtain⟨n0,hn0⟩:=Int.eq_ofNat_of_zero_le (Yh c.num).1;have hpl:(c.paths.map Dn).length=c.paths.length:=List.length_map _;have hal:(c.args.map Dn).length=c.args.length:=List.length_map _;have hn2:n0≤2:=by have:=(Yh c.num).2;omega
 refine enter Tryz.func95 rfl rfl rfl rfl rfl 0 rfl ?_;refine C6 (h:=B7 (h:=Az (h:=?_)));refine A3 rfl (A8 (Yk c.num) ?_);rintro r rfl;refine Dk (h:=Ci (h:=BN (h:=?_)));refine A4 rfl (fun hb1 hc1=>?_) (fun hb1 hc1=>?_)
 ·refine BA (h:=?_);refine A6 ?_
  first|(exfalso;first|contradiction|omega)|(exact vi (by first|(rw[Bx,if_pos hc1];done)|(rw[Bx,if_neg hc1,if_pos hany];done)|(rw[Bx,if_neg hc1,if_neg (by rw[hany];simp),if_pos (by omega)];done)|(rw[Bx,if_neg hc1,if_neg (by rw[hany];simp),if_neg (by omega),if_pos hany2];done)|(rw[Bx,if_neg hc1,if_neg (by rw[hany];simp),if_neg (by omega),if_neg (by rw[hany2];simp),if_pos hany3];done)|(rw[Bx,if_neg hc1,if_neg (by rw[hany];simp),if_neg (by omega),if_neg (by rw[hany2];simp),if_neg (by rw[hany3];simp)];done)))
 refine D8 (h:=B7 (h:=BH (?_)));refine BR (fun m s=>∃j:Nat,n0≤j∧j≤4∧m=4 - j∧(∀i x,n0≤i→i<j→(Oc c)[i]?=some x→x=0)∧s=⟨look [(1, .bp 0 0),(3, .bp 1 0),(4, .v (.int .i64 (j:Int)))],⟨[G8 c,Nl (C9 c.num)],[]⟩⟩) (4 - n0) (by rw[←hn0];exact(wk 2 0)) (⟨n0,B6 _,by omega,rfl,fun i x h1 h2=>by omega,rfl⟩) ?_;rintro m s ⟨j,hlo,hj,rfl,hz,rfl⟩;refine Bv (h:=Cj (h:=?_));refine A4 rfl (fun hb2 hc2=>?_) (fun hb2 hc2=>?_)
 ·obtain⟨x,hy,hrx⟩:=lZ (c:=c) (j:=j) (by omega);refine C2 (h:=Aa (h:=f_ (h:=?_)));refine A3 rfl (CB (len:=4) (sz:=1) (n:=j) (by kernel_rfl) rfl rfl rfl (lY (by omega)) ?_);refine A3 rfl (Dq rfl rfl (by rw[show 1+j * 1=1+j by omega];exact hrx) ?_);refine Bn (h:=?_);refine A4 rfl (fun hb3 hc3=>?_) (fun hb3 hc3=>?_)
  ·have hany:(((Oc c).drop (C9 c.num).2.1.toNat).any fun x=>decide (x≠0))=true:=by rw[hn0,Int.toNat_natCast];exact m5 hlo hy hc3
   refine HU (h:=?_);refine A6 ?_
   first|(exfalso;first|contradiction|omega)|(exact vi (by first|(rw[Bx,if_pos hc1];done)|(rw[Bx,if_neg hc1,if_pos hany];done)|(rw[Bx,if_neg hc1,if_neg (by rw[hany];simp),if_pos (by omega)];done)|(rw[Bx,if_neg hc1,if_neg (by rw[hany];simp),if_neg (by omega),if_pos hany2];done)|(rw[Bx,if_neg hc1,if_neg (by rw[hany];simp),if_neg (by omega),if_neg (by rw[hany2];simp),if_pos hany3];done)|(rw[Bx,if_neg hc1,if_neg (by rw[hany];simp),if_neg (by omega),if_neg (by rw[hany2];simp),if_neg (by rw[hany3];simp)];done)))
  have hx0:x=0:=by simpa using hc3
  refine DL (h:=?_)
  refine⟨_,_,?_,⟨j+1,by omega,by omega,rfl,(fun i x h1 h2 h3=>by
   by_cases e:i=j
   ·subst e;rw[hy]at h3;injection h3 with h3;rw[←h3];exact hx0
   exact hz i x h1 (by omega) h3),rfl⟩,(wk 2 0)⟩
  omega
 have hany:(((Oc c).drop (C9 c.num).2.1.toNat).any fun x=>decide (x≠0))=false:=by
  rw[hn0,Int.toNat_natCast];refine m6 fun i x h1 h2=>hz i x h1 ?_ h2;have:=(Af.1 h2).1;have h4:(Oc c).length=4:=rfl;omega
 refine CK (h:=Ci (h:=n_ (h:=JM (h:=?_))));refine AJ false rfl rfl (fun hb4 hc4=>?_) (fun hb4 hc4=>?_)
 ·refine BT (h:=BD (h:=C7 (h:=BT (h:=BD (h:=FE (h:=?_))))));refine A6 ?_
  first|(exfalso;first|contradiction|omega)|(exact vi (by first|(rw[Bx,if_pos hc1];done)|(rw[Bx,if_neg hc1,if_pos hany];done)|(rw[Bx,if_neg hc1,if_neg (by rw[hany];simp),if_pos (by omega)];done)|(rw[Bx,if_neg hc1,if_neg (by rw[hany];simp),if_neg (by omega),if_pos hany2];done)|(rw[Bx,if_neg hc1,if_neg (by rw[hany];simp),if_neg (by omega),if_neg (by rw[hany2];simp),if_pos hany3];done)|(rw[Bx,if_neg hc1,if_neg (by rw[hany];simp),if_neg (by omega),if_neg (by rw[hany2];simp),if_neg (by rw[hany3];simp)];done)))
 refine Ef (h:=Ab (h:=K8 (h:=Bh (h:=?_))));refine AJ false rfl rfl (fun hb5 hc5=>?_) (fun hb5 hc5=>?_)
 ·refine BT (h:=BD (h:=FE (h:=?_)));refine A6 ?_
  first|(exfalso;first|contradiction|omega)|(exact vi (by first|(rw[Bx,if_pos hc1];done)|(rw[Bx,if_neg hc1,if_pos hany];done)|(rw[Bx,if_neg hc1,if_neg (by rw[hany];simp),if_pos (by omega)];done)|(rw[Bx,if_neg hc1,if_neg (by rw[hany];simp),if_neg (by omega),if_pos hany2];done)|(rw[Bx,if_neg hc1,if_neg (by rw[hany];simp),if_neg (by omega),if_neg (by rw[hany2];simp),if_pos hany3];done)|(rw[Bx,if_neg hc1,if_neg (by rw[hany];simp),if_neg (by omega),if_neg (by rw[hany2];simp),if_neg (by rw[hany3];simp)];done)))
 refine Ef (h:=JL (h:=CV (h:=?_)));refine A4 rfl (fun hb6 hc6=>?_) (fun hb6 hc6=>?_)
 ·refine BA (h:=?_);refine A6 ?_
  first|(exfalso;first|contradiction|omega)|(exact vi (by first|(rw[Bx,if_pos hc1];done)|(rw[Bx,if_neg hc1,if_pos hany];done)|(rw[Bx,if_neg hc1,if_neg (by rw[hany];simp),if_pos (by omega)];done)|(rw[Bx,if_neg hc1,if_neg (by rw[hany];simp),if_neg (by omega),if_pos hany2];done)|(rw[Bx,if_neg hc1,if_neg (by rw[hany];simp),if_neg (by omega),if_neg (by rw[hany2];simp),if_pos hany3];done)|(rw[Bx,if_neg hc1,if_neg (by rw[hany];simp),if_neg (by omega),if_neg (by rw[hany2];simp),if_neg (by rw[hany3];simp)];done)))
 refine AG (CW (h:=?_));refine BR (fun m s=>∃j:Nat,j≤c.paths.length∧m=c.paths.length - j∧(∀i y,i<j→c.paths[i]?=some y→decide (128<y.size)=false)∧s=⟨look [(1, .bp 0 0),(3, .bp 1 0),(5, .v (.int .i64 (j:Int)))],⟨[G8 c,Nl (C9 c.num)],[]⟩⟩) (c.paths.length) ((wk 2 0)) (⟨0,BK _,rfl,fun i y hi=>by omega,rfl⟩) ?_;rintro m s ⟨j,hj,rfl,ha1,rfl⟩;refine GN (h:=?_);refine A4 rfl (fun hb7 hc7=>?_) (fun hb7 hc7=>?_)
 ·obtain⟨hlt,y,hy,hrow, -⟩:=Bz Dn hc7;refine C2 (h:=Fu (h:=l_ (h:=HQ (h:=e_ (?_)))));refine A4 rfl (fun hb8 hc8=>?_) (fun hb8 hc8=>?_)
  ·have hany2:(c.paths.any fun p=>decide (128<p.size))=true:=NR hy (by simp;omega);refine HU (h:=?_);refine A6 ?_
   first|(exfalso;first|contradiction|omega)|(exact vi (by first|(rw[Bx,if_pos hc1];done)|(rw[Bx,if_neg hc1,if_pos hany];done)|(rw[Bx,if_neg hc1,if_neg (by rw[hany];simp),if_pos (by omega)];done)|(rw[Bx,if_neg hc1,if_neg (by rw[hany];simp),if_neg (by omega),if_pos hany2];done)|(rw[Bx,if_neg hc1,if_neg (by rw[hany];simp),if_neg (by omega),if_neg (by rw[hany2];simp),if_pos hany3];done)|(rw[Bx,if_neg hc1,if_neg (by rw[hany];simp),if_neg (by omega),if_neg (by rw[hany2];simp),if_neg (by rw[hany3];simp)];done)))
  refine DL (h:=?_);refine⟨_,_,?_,⟨j+1,by omega,rfl,GP hy ha1 (by simp;omega),rfl⟩,(wk 2 0)⟩;omega
 have e:=CD Dn hj hc7;have hany2:(c.paths.any fun p=>decide (128<p.size))=false:=OG (by rw[←e];exact ha1);refine CK (h:=CW (h:=?_));refine BR (fun m s=>∃j:Nat,j≤c.args.length∧m=c.args.length - j∧(∀i y,i<j→c.args[i]?=some y→decide (64<y.size)=false)∧s=⟨look [(1, .bp 0 0),(3, .bp 1 0),(6, .v (.int .i64 (j:Int)))],⟨[G8 c,Nl (C9 c.num)],[]⟩⟩) (c.args.length) ((wk 2 0)) (⟨0,BK _,rfl,fun i y hi=>by omega,rfl⟩) ?_;rintro m s ⟨j3,hj3,rfl,ha3,rfl⟩;refine GN (h:=?_);refine A4 rfl (fun hb9 hc9=>?_) (fun hb9 hc9=>?_)
 ·obtain⟨hlt,y,hy,hrow, -⟩:=Bz Dn hc9;refine C2 (h:=Fu (h:=l_ (h:=HQ (h:=e_ (?_)))));refine A4 rfl (fun hb10 hc10=>?_) (fun hb10 hc10=>?_)
  ·have hany3:(c.args.any fun p=>decide (64<p.size))=true:=NR hy (by simp;omega);refine HU (h:=?_);refine A6 ?_
   first|(exfalso;first|contradiction|omega)|(exact vi (by first|(rw[Bx,if_pos hc1];done)|(rw[Bx,if_neg hc1,if_pos hany];done)|(rw[Bx,if_neg hc1,if_neg (by rw[hany];simp),if_pos (by omega)];done)|(rw[Bx,if_neg hc1,if_neg (by rw[hany];simp),if_neg (by omega),if_pos hany2];done)|(rw[Bx,if_neg hc1,if_neg (by rw[hany];simp),if_neg (by omega),if_neg (by rw[hany2];simp),if_pos hany3];done)|(rw[Bx,if_neg hc1,if_neg (by rw[hany];simp),if_neg (by omega),if_neg (by rw[hany2];simp),if_neg (by rw[hany3];simp)];done)))
  refine DL (h:=?_);refine⟨_,_,?_,⟨j3+1,by omega,rfl,GP hy ha3 (by simp;omega),rfl⟩,(wk 2 0)⟩;omega
 have e3:=CD Dn hj3 hc9;have hany3:(c.args.any fun p=>decide (64<p.size))=false:=OG (by rw[←e3];exact ha3);refine GK (h:=?_);refine A6 ?_
 first|(exfalso;first|contradiction|omega)|(exact vi (by first|(rw[Bx,if_pos hc1];done)|(rw[Bx,if_neg hc1,if_pos hany];done)|(rw[Bx,if_neg hc1,if_neg (by rw[hany];simp),if_pos (by omega)];done)|(rw[Bx,if_neg hc1,if_neg (by rw[hany];simp),if_neg (by omega),if_pos hany2];done)|(rw[Bx,if_neg hc1,if_neg (by rw[hany];simp),if_neg (by omega),if_neg (by rw[hany2];simp),if_pos hany3];done)|(rw[Bx,if_neg hc1,if_neg (by rw[hany];simp),if_neg (by omega),if_neg (by rw[hany2];simp),if_neg (by rw[hany3];simp)];done)))
theorem Ym(c:Cal):AFn prog 140 [.agg (G8 c)] (fun r=>r= .sl 1 ((DF c).map CQ) none):=by
 refine enter Tryz.func140 rfl rfl rfl rfl rfl 0 rfl ?_;refine C6 (h:=B7 (h:=Ci (h:=e_ (BH (B1 (h:=?_))))));refine A4 rfl (fun hb1 hc1=>?_) (fun hb1 hc1=>?_)
 ·refine w_ (BY (h:=BC (h:=?_)));refine A6 ?_
  first|(exfalso;first|contradiction|omega)|(simp only[DF,CL];first|(simp[*,CQ];done)|(simp[*,CQ];rfl))
 refine B1 (h:=?_);refine A4 rfl (fun hb2 hc2=>?_) (fun hb2 hc2=>?_)
 ·refine Cw (h:=q_ (w_ (f_ (h:=?_))));refine A3 rfl (CB (len:=4) (sz:=1) (n:=0) (by kernel_rfl) rfl rfl rfl rfl ?_);refine l_ (h:=FC (h:=Bn (h:=?_)));refine A4 rfl (fun hb3 hc3=>?_) (fun hb3 hc3=>?_)
  ·refine RB (h:=B7 (h:=q_ (w_ (f_ (h:=?_)))));refine A3 rfl (CB (len:=4) (sz:=1) (n:=0) (by kernel_rfl) rfl rfl rfl rfl ?_);refine l_ (h:=FC (h:=Bn (h:=?_)));refine A4 rfl (fun hb4 hc4=>?_) (fun hb4 hc4=>?_)
   ·refine RB (h:=C4 (h:=BY (h:=BC (h:=?_))));refine A6 ?_
    first|(exfalso;first|contradiction|omega)|(simp only[DF,CL];first|(simp[*,CQ];done)|(simp[*,CQ];rfl))
   refine AG (Aa (h:=BY (h:=BC (h:=?_))));refine A6 ?_
   first|(exfalso;first|contradiction|omega)|(simp only[DF,CL];first|(simp[*,CQ];done)|(simp[*,CQ];rfl))
  refine FY (h:=w_ (f_ (h:=?_)));refine A3 rfl (CB (len:=4) (sz:=1) (n:=0) (by kernel_rfl) rfl rfl rfl rfl ?_);refine l_ (h:=FC (h:=Bn (h:=?_)));refine A4 rfl (fun hb5 hc5=>?_) (fun hb5 hc5=>?_)
  ·refine RB (h:=C4 (h:=BY (h:=BC (h:=?_))));refine A6 ?_
   first|(exfalso;first|contradiction|omega)|(simp only[DF,CL];first|(simp[*,CQ];done)|(simp[*,CQ];rfl))
  refine AG (Aa (h:=BY (h:=BC (h:=?_))));refine A6 ?_
  first|(exfalso;first|contradiction|omega)|(simp only[DF,CL];first|(simp[*,CQ];done)|(simp[*,CQ];rfl))
 refine B1 (h:=?_);refine A4 rfl (fun hb6 hc6=>?_) (fun hb6 hc6=>?_)
 ·refine w_ (BY (h:=BC (h:=?_)));refine A6 ?_
  first|(exfalso;first|contradiction|omega)|(simp only[DF,CL];first|(simp[*,CQ];done)|(simp[*,CQ];rfl))
 refine B1 (h:=?_);refine A4 rfl (fun hb7 hc7=>?_) (fun hb7 hc7=>?_)
 ·refine w_ (BY (h:=BC (h:=?_)));refine A6 ?_
  first|(exfalso;first|contradiction|omega)|(simp only[DF,CL];first|(simp[*,CQ];done)|(simp[*,CQ];rfl))
 refine q_ (B1 (h:=?_));refine A4 rfl (fun hb8 hc8=>?_) (fun hb8 hc8=>?_)
 ·refine AG (Fr (h:=w_ (BY (h:=BC (h:=?_)))));refine A6 ?_
  first|(exfalso;first|contradiction|omega)|(simp only[DF,CL];first|(simp[*,CQ];done)|(simp[*,CQ];rfl))
 refine B1 (h:=?_);refine A4 rfl (fun hb9 hc9=>?_) (fun hb9 hc9=>?_)
 ·refine AG (Fr (h:=w_ (BY (h:=BC (h:=?_)))));refine A6 ?_
  first|(exfalso;first|contradiction|omega)|(simp only[DF,CL];first|(simp[*,CQ];done)|(simp[*,CQ];rfl))
 refine Av (Ed (h:=?_));refine A4 rfl (fun hb10 hc10=>?_) (fun hb10 hc10=>?_)
 ·refine w_ (BY (h:=BC (h:=?_)));refine A6 ?_
  first|(exfalso;first|contradiction|omega)|(simp only[DF,CL];first|(simp[*,CQ];done)|(simp[*,CQ];rfl))
 refine B1 (h:=?_);refine A4 rfl (fun hb11 hc11=>?_) (fun hb11 hc11=>?_)
 ·refine w_ (BY (h:=BC (h:=?_)));refine A6 ?_
  first|(exfalso;first|contradiction|omega)|(simp only[DF,CL];first|(simp[*,CQ];done)|(simp[*,CQ];rfl))
 refine BF (BB (t_ (w_ (BY (h:=BJ (h:=?_))))));refine A6 ?_
 first|(exfalso;first|contradiction|omega)|(simp only[DF,CL];first|(simp[*,CQ];done)|(simp[*,CQ];rfl))
theorem m8(c:Cal):AFn prog 142 [.agg (G8 c)] (fun r=>r= .v (.bool (DW c))):=by
 refine enter Tryz.func142 rfl rfl rfl rfl rfl 0 rfl ?_;refine C6 (h:=B7 (h:=Ci (h:=e_ (BH (B1 (h:=?_))))));refine A4 rfl (fun hb1 hc1=>?_) (fun hb1 hc1=>?_)
 ·refine w_ (f_ (h:=?_));refine A3 rfl (CB (len:=4) (sz:=1) (n:=0) (by kernel_rfl) rfl rfl rfl rfl ?_);refine l_ (h:=FC (h:=EH (h:=BC (h:=?_))));refine A6 ?_
  first|(exfalso;first|contradiction|omega)|(exact vb (by simp[DW, *]))
 refine q_ (B1 (h:=?_));refine A4 rfl (fun hb2 hc2=>?_) (fun hb2 hc2=>?_)
 ·refine AG (Eg (h:=?_));refine A6 ?_
  first|(exfalso;first|contradiction|omega)|(exact vb (by simp[DW, *]))
 refine B1 (h:=?_);refine A4 rfl (fun hb3 hc3=>?_) (fun hb3 hc3=>?_)
 ·refine AG (Eg (h:=?_));refine A6 ?_
  first|(exfalso;first|contradiction|omega)|(exact vb (by simp[DW, *]))
 refine B1 (h:=?_);refine A4 rfl (fun hb4 hc4=>?_) (fun hb4 hc4=>?_)
 ·refine AG (Eg (h:=?_));refine A6 ?_
  first|(exfalso;first|contradiction|omega)|(exact vb (by simp[DW, *]))
 refine B1 (h:=?_);refine A4 rfl (fun hb5 hc5=>?_) (fun hb5 hc5=>?_)
 ·refine AG (Eg (h:=?_));refine A6 ?_
  first|(exfalso;first|contradiction|omega)|(exact vb (by simp[DW, *]))
 refine B1 (h:=?_);refine A4 rfl (fun hb6 hc6=>?_) (fun hb6 hc6=>?_)
 ·refine AG (Eg (h:=?_));refine A6 ?_
  first|(exfalso;first|contradiction|omega)|(exact vb (by simp[DW, *]))
 refine Av (Ed (h:=?_));refine A4 rfl (fun hb7 hc7=>?_) (fun hb7 hc7=>?_)
 ·refine Bl (h:=?_);refine A6 ?_
  first|(exfalso;first|contradiction|omega)|(exact vb (by simp[DW, *]))
 refine Er (h:=?_);refine A6 ?_
 first|(exfalso;first|contradiction|omega)|(exact vb (by simp[DW, *]))
end
theorem MC(s:ByteArray):s.toList=s.data.toList:=Lib.toList_data s
theorem Yn{a b:ByteArray}(h:a.data.toList=b.data.toList):a=b:=by
 cases a;cases b;simp at h;simp[h]
theorem m9{a b:ByteArray}:a.data.toList=b.data.toList↔a=b:=⟨Yn,fun h=>by rw[h]⟩
theorem mA(a b:ByteArray):(a.toList==b.toList)=decide (a=b):=by
 rw[MC,MC,Bool.eq_iff_iff,beq_iff_eq,decide_eq_true_iff];exact m9
theorem Yo(s:ByteArray):s.toList.isEmpty=decide (s.size=0):=by
 rw[MC,Lib.size_eq,Bool.eq_iff_iff,List.isEmpty_iff,decide_eq_true_iff,List.length_eq_zero_iff]
set_option maxRecDepth 100000 in
set_option maxHeartbeats 400000 in
theorem mB(s:ByteArray)(w:World):
    Calls prog 289 #[.string s, .string ⟨#[47]⟩] w fun e w'=>e= .returned (.int .i64 (Lib.indexByte s.data.toList 47))∧w=w':=by
 by_cases h:s=⟨#[47]⟩
 ·subst h
  go_enter Tryz.func289,Tryz.ntmps289
  go_wp2
  go_ret
  exact⟨rfl,rfl⟩
 have h1:([47]==s.toList)=false:=by
  have:=mA ⟨#[47]⟩ s;rw[decide_eq_false (fun e=>h e.symm),MC ⟨#[47]⟩]at this;exact this
 go_enter Tryz.func289,Tryz.ntmps289
 go_wp2_with (go_at_call 292;refine(Tryz.stringslite_IndexByte _ _ _).mono ?_;rintro e w' ⟨rfl,rfl⟩)
 go_ret
 exact⟨rfl,rfl⟩
theorem mC(s:ByteArray)(w:World):
    Calls prog 276 #[.string s, .string ⟨#[47]⟩] w fun e w'=>e= .returned (.int .i64 (Lib.indexByte s.data.toList 47))∧w=w':=by
 go_enter Tryz.func276,Tryz.ntmps276
 go_wp2_with (go_at_call 289;refine(mB _ _).mono ?_;rintro e w' ⟨rfl,rfl⟩)
 go_ret
 exact⟨rfl,rfl⟩
theorem Yp{l:Bs}(h:(47:UInt8)∈l):∃i:Nat,Lib.indexByte l 47=i∧i<l.length∧l=l.take i++47::l.drop (i+1)∧(47:UInt8)∉l.take i:=by
 have hge:=Lib.indexByte_ge l 47;by_cases hm:Lib.indexByte l 47= -1
 ·have:=Lib.indexByte_none hm;obtain⟨k,hk⟩:=List.mem_iff_getElem?.1 h;exact absurd hk (this k)
 obtain⟨i,hi⟩:=Int.eq_ofNat_of_zero_le (show 0≤Lib.indexByte l 47 by omega);obtain⟨h1,h2⟩:=Lib.indexByte_some hi;have hlt:i<l.length:=(Af.1 h1).1;refine⟨i,hi,hlt,?_,?_⟩
 ·have h3:l[i]=47:=(Af.1 h1).2;rw[←h3,List.getElem_cons_drop,List.take_append_drop]
 intro hmem;obtain⟨k,hk⟩:=List.mem_iff_getElem?.1 hmem;rw[List.getElem?_take]at hk;split at hk
 ·exact h2 k (by assumption) hk
 cases hk
theorem mD{l:Bs}(h:(47:UInt8)∉l):Lib.indexByte l 47= -1:=by
 have hge:=Lib.indexByte_ge l 47;by_cases hm:Lib.indexByte l 47= -1
 ·exact hm
 obtain⟨i,hi⟩:=Int.eq_ofNat_of_zero_le (show 0≤Lib.indexByte l 47 by omega);obtain⟨h1,_⟩:=Lib.indexByte_some hi;exact absurd (Ag h1) h
theorem mE(r:Int)(h0:128≤r)(h1:Lib.validRune r=true):
    (∃a b:UInt8,Utf8.encode r=⟨#[a,b]⟩∧128≤b.toNat)∨(∃a b c:UInt8,Utf8.encode r=⟨#[a,b,c]⟩)∨(∃a b c d:UInt8,Utf8.encode r=⟨#[a,b,c,d]⟩):=by
 have hv:Utf8.valid r=true:=by
  have:=of_decide_eq_true h1;unfold Utf8.valid;simp only[Bool.or_eq_true,Bool.and_eq_true,decide_eq_true_iff];omega
 unfold Utf8.encode;simp only[hv,if_true];have hn:¬r.toNat<128:=by omega
 rw[if_neg hn];by_cases h2:r.toNat<2048
 ·rw[if_pos h2];refine .inl ⟨_,_,rfl,?_⟩;simp only[UInt8.toNat_ofNat'];omega
 rw[if_neg h2];by_cases h3:r.toNat<65536
 ·rw[if_pos h3];exact .inr (.inl ⟨_,_,_,rfl⟩)
 rw[if_neg h3];exact .inr (.inr ⟨_,_,_,_,rfl⟩)
set_option maxRecDepth 1000000 in
set_option maxHeartbeats 2000000 in
theorem mF(r:Int)(w:World)(h0:128≤r)(h1:r≤2147483647)(h2:r≠65533)(hv:Lib.validRune r=false):
    Calls prog 269 #[.string ⟨#[0,47]⟩, .int .i32 r] w fun e w'=>e= .returned (.int .i64 (-1))∧w=w':=by
 have h2':(r==65533)=false:=by simpa using h2
 go_enter Tryz.func269,Tryz.ntmps269
 go_wp2_with (go_at_call 285;refine(Tryz.utf8_ValidRune _ _).mono ?_;rintro e w' ⟨rfl,rfl⟩;rw[hv])
 go_ret
 exact⟨rfl,rfl⟩
set_option maxRecDepth 1000000 in
set_option maxHeartbeats 2000000 in
theorem mG(r:Int)(w:World)(h0:128≤r)(h1:r≤2147483647)(h2:r≠65533)(hv:Lib.validRune r=true):
    Calls prog 269 #[.string ⟨#[0,47]⟩, .int .i32 r] w fun e w'=>e= .returned (.int .i64 (-1))∧Below w.heap.size w w':=by
 have h2':(r==65533)=false:=by simpa using h2
 have hlt:decide (r<128)=false:=by simpa using h0
 rcases mE r h0 hv with⟨a,b,he,hb⟩|⟨a,b,c,he⟩|⟨a,b,c,d,he⟩
 ·have hne:((((⟨#[0,47]⟩:ByteArray)[1]'(by decide)).toNat:Int) != (((⟨#[a,b]⟩:ByteArray)[1]'(by show 1<2;decide)).toNat:Int))=true:=by
     show((47:Int) != (b.toNat:Int))=true;rw[bne_iff_ne];omega
  go_enter Tryz.func269,Tryz.ntmps269
  go_wp2_with (go_at_call 285;refine(Tryz.utf8_ValidRune _ _).mono ?_;rintro e w' ⟨rfl,rfl⟩;rw[hv])
  go_step3
  go_wp2
  refine wp_loop_rounds 1 ?_;rw[rounds_succ]
  go_wp2
  go_step3
  go_wp2
  go_quiet (fail)
  have hb:=TK (Below.refl w'.heap.size w') nq;generalize w'.drewN nq=wq at *
  go_wp2
  go_quiet ((go_at_call 284;exact Calls.quiet_of_same (Tryz.strings_IndexByte _ _ _)))
  go_wp2
  rw[Exit.noGoto_ret]
  go_wp2
  rw[Exit.noGoto_ret]
  go_wp2
  go_ret
  exact⟨rfl,TK hb _⟩
 ·go_enter Tryz.func269,Tryz.ntmps269
  go_wp2_with (go_at_call 285;refine(Tryz.utf8_ValidRune _ _).mono ?_;rintro e w' ⟨rfl,rfl⟩;rw[hv])
  go_step3
  go_wp2
  refine wp_loop_rounds 1 ?_;rw[rounds_succ]
  go_wp2
  rw[Exit.noGoto_ret]
  go_wp2
  go_ret
  exact⟨rfl,Below.refl _ _⟩
 go_enter Tryz.func269,Tryz.ntmps269
 go_wp2_with (go_at_call 285;refine(Tryz.utf8_ValidRune _ _).mono ?_;rintro e w' ⟨rfl,rfl⟩;rw[hv])
 go_step3
 go_wp2
 refine wp_loop_rounds 1 ?_;rw[rounds_succ]
 go_wp2
 rw[Exit.noGoto_ret]
 go_wp2
 go_ret
 exact⟨rfl,Below.refl _ _⟩
theorem mH(i:Nat)(hi:i<2):((⟨#[0,47]⟩:ByteArray)[i]'hi).toNat<128:=by
 match i,hi with
 |0,_=>show(0:UInt8).toNat<128;decide
 |1,_=>show(47:UInt8).toNat<128;decide
set_option maxRecDepth 1000000 in
set_option maxHeartbeats 2000000 in
theorem mJ(w:World):
    Calls prog 269 #[.string ⟨#[0,47]⟩, .int .i32 65533] w fun e w'=>e= .returned (.int .i64 (-1))∧Below w.heap.size w w':=by
 go_enter Tryz.func269,Tryz.ntmps269
 go_wp2
 go_loopg [5,6] 2 (fun g _ _ wx=>∃i:Nat,i+g=2∧wx=w.iter ⟨#[0,47]⟩ i)
 case atStart=>exact⟨0,by omega,rfl⟩
 case round=>
  obtain⟨i,hig,rfl⟩:=hrel
  cases gk with
  |zero=>
    obtain rfl:i=2:=by omega
    have hnx:=run_next_end (P:=prog) w ⟨#[0,47]⟩ 2
    go_wp2
    go_ret
    exact⟨rfl,(Below.refl _ _).alloc (B6 _) _⟩
  |succ g=>
    have hi:i<2:=by omega
    have hx:=mH i hi;have hnx:=fun ty=>run_next_ascii (P:=prog) w ⟨#[0,47]⟩ i ty hi hx;generalize ((⟨#[0,47]⟩:ByteArray)[i]'hi)=x at *;have hne:((x.toNat:Int)==65533)=false:=beq_eq_false_iff_ne.2 (by omega)
    go_wp2
    go_roundg g
    case measure=>omega
    case rel=>exact⟨i+1,by omega,rfl⟩
theorem Yq(s:ByteArray)(i:Nat)(h:i<s.size)(ha:128≤(s[i]'h).toNat):
    1≤(Utf8.decode s i).2∧i+(Utf8.decode s i).2≤s.size∧∀k,k<(Utf8.decode s i).2→128≤(s.get! (i+k)).toNat:=by
 have hn:¬(s[i]'h).toNat<128:=by omega
 have h0:s.get! (i+0)=s[i]'h:=get_at s i h;have g0:128≤(s.get! (i+0)).toNat:=by rw[h0];exact ha
 have c1:∀k,(decide (i+k<s.size)&&(s.get! (i+k)).toNat / 64==2)=true→i+k<s.size∧128≤(s.get! (i+k)).toNat:=by
  intro k hk;simp only[Bool.and_eq_true,decide_eq_true_iff,beq_iff_eq]at hk;exact⟨hk.1,by omega⟩
 have one:1≤1∧i+1≤s.size∧∀k,k<1→128≤(s.get! (i+k)).toNat:=by
  refine⟨B6 _,h,fun k hk=>?_⟩;obtain rfl:k=0:=by omega
  exact g0
 unfold Utf8.decode;simp only[h0,hn,if_false];split
 ·rename_i hc;rw[Bool.and_eq_true]at hc;obtain⟨a1,b1⟩:=c1 1 hc.2;split
  ·refine⟨by simp,a1,fun k hk=>?_⟩;have:k=0∨k=1:=by simp at hk;omega
   rcases this with rfl|rfl
   ·exact g0
   exact b1
  exact one
 split
 ·rename_i hc;rw[Bool.and_eq_true,Bool.and_eq_true]at hc;obtain⟨a1,b1⟩:=c1 1 hc.1.2;obtain⟨a2,b2⟩:=c1 2 hc.2;split
  ·refine⟨by simp,a2,fun k hk=>?_⟩;have:k=0∨k=1∨k=2:=by simp at hk;omega
   rcases this with rfl|rfl|rfl
   ·exact g0
   ·exact b1
   exact b2
  exact one
 split
 ·rename_i hc;rw[Bool.and_eq_true,Bool.and_eq_true,Bool.and_eq_true]at hc;obtain⟨a1,b1⟩:=c1 1 hc.1.1.2;obtain⟨a2,b2⟩:=c1 2 hc.1.2;obtain⟨a3,b3⟩:=c1 3 hc.2;split
  ·refine⟨by simp,a3,fun k hk=>?_⟩;have:k=0∨k=1∨k=2∨k=3:=by simp at hk;omega
   rcases this with rfl|rfl|rfl|rfl
   ·exact g0
   ·exact b1
   ·exact b2
   exact b3
  exact one
 exact one
theorem mK(s:ByteArray)(j:Nat)(hj:j<s.size):s.data.toList[j]?=some (s.get! j):=by
 have:=get_at s j hj;rw[Nat.add_zero]at this;rw[this];exact Lib.data_getElem? s j hj
theorem mL{s:ByteArray}{i:Nat}(h:i<s.size)(ha:128≤(s[i]'h).toNat)(hno:Lib.NoAny s.data.toList [0,47] i):Lib.NoAny s.data.toList [0,47] (i+(Utf8.decode s i).2):=by
 obtain⟨_,h2,h3⟩:=Yq s i h ha;intro j b hj hb;by_cases hlt:j<i
 ·exact hno j b hlt hb
 have:=h3 (j - i) (by omega);rw[show i+(j - i)=j by omega]at this;rw[mK s j (by omega)]at hb;injection hb with hb;rw[hb]at this;have h0:b≠0:=by rintro rfl;simp at this
 have h47:b≠47:=by
  rintro rfl;have:(47:UInt8).toNat=47:=rfl;omega
 simp[h0,h47]
theorem mM(r:Int)(w:World)(h0:128≤r)(h1:r≤2147483647):
    Calls prog 269 #[.string ⟨#[0,47]⟩, .int .i32 r] w fun e w'=>e= .returned (.int .i64 (-1))∧Below w.heap.size w w':=by
 by_cases h2:r=65533
 ·subst h2;exact mJ w
 cases hv:Lib.validRune r with
 |true=>exact mG r w h0 h1 h2 hv
 |false=>exact(mF r w h0 h1 h2 hv).mono fun e w' h=>⟨h.1,by rw[←h.2];exact Below.refl _ _⟩
def Yr(s:ByteArray)(w:World)(e:Ending)(w':World):Prop:=∃v:Int,e= .returned (.int .i64 v)∧Below w.heap.size w w'∧((0≤v)↔((0:UInt8)∈s.data.toList∨(47:UInt8)∈s.data.toList))
theorem mN{s:ByteArray}(h:Lib.NoAny s.data.toList [0,47] s.size):¬((0:UInt8)∈s.data.toList∨(47:UInt8)∈s.data.toList):=by
 rintro(h'|h')
 ·obtain⟨j,hj⟩:=List.mem_iff_getElem?.1 h';have:=h j 0 (by rw[Lib.size_eq];exact(Af.1 hj).1) hj;simp at this
 obtain⟨j,hj⟩:=List.mem_iff_getElem?.1 h';have:=h j 47 (by rw[Lib.size_eq];exact(Af.1 hj).1) hj;simp at this
theorem mO{s:ByteArray}{i:Nat}{x:UInt8}(hx:s.data.toList[i]?=some x)(h:[0,47].contains x=true):((0:UInt8)∈s.data.toList∨(47:UInt8)∈s.data.toList):=by
 have hm:=Ag hx;simp at h;rcases h with rfl|rfl
 ·exact .inl hm
 exact .inr hm
set_option maxRecDepth 1000000 in
set_option maxHeartbeats 4000000 in
theorem mP(s:ByteArray)(w:World)(h8:s.size≤8):Calls prog 245 #[.string s, .string ⟨#[0,47]⟩] w (Yr s w):=by
 have h8z:decide ((8:Int)<(s.size:Int))=false:=decide_eq_false (by omega)
 go_enter Tryz.func245,Tryz.ntmps245
 go_wp2_with (go_at_call 270;refine(Tryz.strings_shouldUseASCIISet _ _).mono ?_;rintro e w' ⟨rfl,hw⟩;rw[hw,h8z])
 clear hw
 go_loopg [9,10] s.size (fun g _ _ wx=>∃i:Nat,s.size≤i+g∧i≤s.size∧wx.heap[w.heap.size]?=some (.stringIter s i)∧Below w.heap.size w wx∧Hid (Lib.NoAny s.data.toList [0,47] i))
 case atStart=>exact⟨0,by omega,by omega,World.iter_heap w s 0,(Below.refl _ _).alloc (B6 _) _,Lib.hid (Lib.NoAny.zero _ _)⟩
 case round=>
  obtain⟨i,hg,hi,hit,hbel,hno⟩:=hrel;have hks:=hbel.size;by_cases hlt:i<s.size
  ·obtain⟨g,rfl⟩:∃g,gk=g+1:=⟨gk - 1,by omega⟩;by_cases hx:(s[i]'hlt).toNat<128
   ·have hnx:=fun ty=>Lib.run_next_ascii_at (P:=prog) wr w.heap.size s i ty hit hlt hx;have hxl:s.data.toList[i]?=some (s[i]'hlt):=Lib.data_getElem? s i hlt;generalize (s[i]'hlt)=x at *;have Hx:=Lib.hid hxl;have hit':=Lib.iterAt_heap wr w.heap.size s i (i+1) hit;have hbel':=Lib.below_iterAt hbel (B6 _) s (i+1);generalize wr.iterAt w.heap.size s (i+1)=w1 at *;have hcon:=Lib.contains_iff_indexByte [0,47] x;have hback:((x.toNat:Int)).toNat.toUInt8=x:=by simp
    have HI:=Lib.hid hit';clear hxl hit hit';cases hin:[0,47].contains x
    ·rw[hin]at hcon;have hneg:¬((0:Int)≤Lib.indexByte [0,47] x):=of_decide_eq_false hcon.symm;clear hcon
     go_wp2_with (go_at_call 269;refine(Tryz.strings_IndexRune_ascii _ _ _ (by omega) (by omega)).mono ?_;rintro e w' ⟨rfl,hw⟩;rw[hw,hback])
     go_roundg g
     case measure=>omega
     case rel=>exact⟨i+1,by omega,by omega,HI.out,hbel',Lib.hid (hno.out.succ Hx.out hin)⟩
    rw[hin]at hcon;have hpos:(0:Int)≤Lib.indexByte [0,47] x:=of_decide_eq_true hcon.symm;clear hcon
    go_wp2_with (go_at_call 269;refine(Tryz.strings_IndexRune_ascii _ _ _ (by omega) (by omega)).mono ?_;rintro e w' ⟨rfl,hw⟩;rw[hw,hback])
    go_ret
    exact⟨_,rfl,hbel',⟨fun _=>mO Hx.out hin,fun _=>by omega⟩⟩
   have hx':128≤(s[i]'hlt).toNat:=by omega
   obtain⟨p1,p2,_⟩:=Yq s i hlt hx';have HN:=Lib.hid (mL hlt hx' hno.out);have q1:=(decode_high s i hlt hx').1;have q2:=decode_le s i;have hnx:=fun ty=>Lib.run_next_any_at (P:=prog) wr w.heap.size s i ty hit hlt;generalize Utf8.decode s i=d at *;obtain⟨d1,d2⟩:=d;simp only at *;have hit':=Lib.iterAt_heap wr w.heap.size s i (i+d2) hit;have hbel':=Lib.below_iterAt hbel (B6 _) s (i+d2);have hsz:=Lib.iterAt_size wr w.heap.size s (i+d2);generalize wr.iterAt w.heap.size s (i+d2)=w1 at *;have hk1:w.heap.size<w1.heap.size:=(Array.getElem?_eq_some_iff.1 hit').1;have HI:=Lib.hid hit';clear hit hit' hsz
   go_wp2_with fail
   refine(mM _ _ (by omega) (by omega)).mono ?_;rintro e w2 ⟨rfl,hb2⟩
   go_wp2
   go_roundg g
   case measure=>omega
   case rel=>exact⟨i+d2,by omega,by omega,(hb2.block _ hk1).trans HI.out,hbel'.trans (hb2.mono (by omega)),HN⟩
  obtain rfl:i=s.size:=by omega
  have hnx:=fun ty=>Lib.run_next_end_at (P:=prog) wr w.heap.size s s.size ty hit hlt
  go_wp2
  go_ret
  exact⟨_,rfl,hbel,⟨fun h=>absurd h (by decide),fun h=>absurd h (mN hno.out)⟩⟩
theorem mQ(s:ByteArray):(0≤Lib.indexAny s.data.toList [0,47])↔((0:UInt8)∈s.data.toList∨(47:UInt8)∈s.data.toList):=by
 generalize s.data.toList=l
 induction l with
 |nil=>simp[Lib.indexAny]
 |cons b l ih=>
   have hge:=Lib.indexAny_ge [0,47] l;unfold Lib.indexAny;by_cases hb:[0,47].contains b=true
   ·rw[if_pos hb];simp only[List.contains_cons,List.contains_nil,Bool.or_false,Bool.or_eq_true,beq_iff_eq]at hb;rcases hb with rfl|rfl<;>simp
   rw[if_neg hb];have h0:(0:UInt8)≠b:=by rintro rfl;simp at hb
   have h47:(47:UInt8)≠b:=by rintro rfl;simp at hb
   simp only[List.mem_cons,h0,h47,false_or];rw[←ih];split
   ·rename_i h;have:Lib.indexAny l [0,47]= -1:=by simpa using h
    rw[this]
   rename_i h;have:Lib.indexAny l [0,47]≠ -1:=by simpa using h
   constructor<;>intro h'<;>omega
theorem mR(s:ByteArray)(w:World)(hs:s.size≤1000000):Calls prog 245 #[.string s, .string ⟨#[0,47]⟩] w (Yr s w):=by
 by_cases h8:s.size≤8
 ·exact mP s w h8
 refine(Tryz.strings_IndexAny_long (fun w=>by kernel_rfl) s ⟨#[0,47]⟩ w (by decide) (by omega) (by omega) (by decide) ?_).mono ?_
 ·intro j b hj;have:b∈[0,47]:=Ag hj;simp at this;rcases this with rfl|rfl<;>decide
 rintro e w' ⟨rfl,rfl⟩;exact⟨_,rfl,NV _ _ _,mQ s⟩
def UV(s:ByteArray):Bool:=decide ((0:UInt8)∈s.data.toList∨(47:UInt8)∈s.data.toList)
theorem mT(s:ByteArray)(w:World)(hs:s.size≤1000000):
    Calls prog 186 #[.string s, .string ⟨#[0,47]⟩] w fun e w'=>e= .returned (.bool (UV s))∧Below w.heap.size w w':=by
 go_enter Tryz.func186,Tryz.ntmps186
 go_wp2_with fail
 refine(mR s w hs).mono ?_;rintro e w' ⟨v,rfl,hb,hv⟩;have HV:=Lib.hid hv;clear hv
 go_wp2
 go_ret
 exact⟨NT (decide_eq_decide.2 HV.out),hb⟩
theorem Ys(s:ByteArray):(s.toList==[46])=decide (s.data.toList=[46]):=by rw[MC,Bool.eq_iff_iff];simp
theorem Yt(s:ByteArray):(s.toList==[46,46])=decide (s.data.toList=[46,46]):=by rw[MC,Bool.eq_iff_iff];simp
set_option maxHeartbeats 1000000 in
theorem Yu(s:ByteArray)(w:World):
    Calls prog 131 #[.string s] w fun e w'=>e= .returned (.bool (Fn s.data.toList))∧Below w.heap.size w w':=by
 have hsz:=Lib.size_eq s;by_cases h0:s.size=0
 ·have he:s.toList.isEmpty=true:=by rw[Yo];simp[h0]
  have he':s.toList=[]:=List.isEmpty_iff.1 he
  have HF:Hid (Fn s.data.toList=false):=Lib.hid (by
   rw[←MC,he'];rfl)
  clear hsz
  go_enter Tryz.func131,Tryz.ntmps131
  go_wp2
  go_ret
  exact⟨NT HF.out.symm,Below.refl _ _⟩
 have he:s.toList.isEmpty=false:=by rw[Yo];simp[h0]
 have hne:s.data.toList≠[]:=by intro e;rw[e]at hsz;exact h0 hsz
 by_cases h12:s.size≤12
 ·have hle:decide ((s.size:Int)≤12)=true:=decide_eq_true (by omega);by_cases h1:s.data.toList=[46]
  ·have e1:(s.toList==[46])=true:=by rw[Ys];simp[h1]
   have e1':(s.toList != [46])=false:=by simp[bne,e1]
   have HF:Hid (Fn s.data.toList=false):=Lib.hid (by rw[h1];rfl);clear hsz hne h1
   go_enter Tryz.func131,Tryz.ntmps131
   go_wp2
   go_ret
   exact⟨NT HF.out.symm,Below.refl _ _⟩
  have e1:(s.toList==[46])=false:=by rw[Ys];simp[h1]
  have e1':(s.toList != [46])=true:=by simp[bne,e1]
  by_cases h2:s.data.toList=[46,46]
  ·have e2:(s.toList==[46,46])=true:=by rw[Yt];simp[h2]
   have e2':(s.toList != [46,46])=false:=by simp[bne,e2]
   have HF:Hid (Fn s.data.toList=false):=Lib.hid (by rw[h2];rfl);clear hsz hne h1 h2
   go_enter Tryz.func131,Tryz.ntmps131
   go_wp2
   go_ret
   exact⟨NT HF.out.symm,Below.refl _ _⟩
  have e2:(s.toList==[46,46])=false:=by rw[Yt];simp[h2]
  have e2':(s.toList != [46,46])=true:=by simp[bne,e2]
  have HF:Hid (Fn s.data.toList= !UV s):=Lib.hid (by
   unfold UV;rw[Bool.eq_iff_iff,RP];simp only[Bool.not_eq_true',decide_eq_false_iff_not,not_or]
   exact⟨fun h=>h.2.2.2.2,fun h=>⟨hne,by omega,h1,h2,h⟩⟩)
  clear hsz hne h1 h2
  go_enter Tryz.func131,Tryz.ntmps131
  go_wp2_with fail
  refine(mT s _ (by omega)).mono ?_;rintro e w' ⟨rfl,hb⟩
  go_wp2
  go_ret
  exact⟨NT HF.out.symm,hb⟩
 have hle:decide ((s.size:Int)≤12)=false:=decide_eq_false (by omega);have HF:Hid (Fn s.data.toList=false):=Lib.hid (decide_eq_false (fun h=>by have:=h.2.1;omega));clear hsz hne
 go_enter Tryz.func131,Tryz.ntmps131
 go_wp2
 go_ret
 exact⟨NT HF.out.symm,Below.refl _ _⟩
theorem mU(s:AE):AFn prog 131 [.v (.string s)] (fun r=>r= .v (.bool (Fk s))):=by
 rw[Tk];exact Vn (us:=[.string s]) fun w=>Yu s w
theorem UW{α:Type}(p:α→Bool):∀(l:List α) (i:Nat) (m:α),(l.filter p)[i]?=some m→∃j:Nat,l[j]?=some m∧(l.filter p).take i=(l.take j).filter p
 |[],i,m,h=>by simp at h
 |x::l,i,m,h=>by
   rw[List.filter_cons]at h ⊢
   cases hx:p x with
   |false=>
     rw[hx]at h;obtain⟨j,h1,h2⟩:=UW p l i m (by simpa using h);exact⟨j+1,by simpa using h1,by simp[hx,h2]⟩
   |true=>
     rw[hx]at h
     cases i with
     |zero=>exact⟨0,by simpa using h,by simp⟩
     |succ i=>
       obtain⟨j,h1,h2⟩:=UW p l i m (by simpa using h);exact⟨j+1,by simpa using h1,by simp[hx,h2]⟩
theorem mV{s:Spc}(hv:SpcV s)(dev:Int)(h0:(J4 s dev).2=0):SpcV (J4 s dev).1∧(J4 s dev).1=⟨s.files,s.mounts.filter fun m:Dv=>decide (m.1≠dev)⟩:=by
 unfold J4 at h0 ⊢;split at h0
 ·exact absurd h0 (by decide)
 rename_i c1;split at h0
 ·exact absurd h0 (by decide)
 rename_i c2;rw[if_neg c1,if_neg c2];refine⟨⟨hv.files,hv.pos,fun i m hi=>?_⟩,rfl⟩;obtain⟨j,h1,h2⟩:=UW _ s.mounts i m hi;have hm:=hv.mnt j m h1;show MntOK s.files ((s.mounts.filter _).take i) m;rw[h2];refine⟨hm.dev1,hm.dev2,?_,hm.dir,?_,?_⟩
 ·have hf:=hm.fresh;rw[←Bool.not_eq_true]at hf ⊢;exact fun h=>hf (Y2 h fun x hx=>(List.mem_filter.1 hx).1)
 ·by_cases hz:m.2.1=0
  ·unfold CO;simp[hz]
  obtain⟨m',hm',e⟩:=UF hm.there hz;rw[←e];refine Pn (s:=⟨s.files,(s.mounts.take j).filter fun m:Dv=>decide (m.1≠dev)⟩) (List.mem_filter.2 ⟨hm',decide_eq_true ?_⟩);intro e2;have hany:(s.mounts.any fun m:Dv=>decide (m.2.1=dev))=true:=List.any_eq_true.2 ⟨m,Ag h1,decide_eq_true (by rw[←e,e2])⟩;exact c2 hany
 have hf:=hm.free
 cases hc:CS ⟨s.files,(s.mounts.take j).filter fun m:Dv=>decide (m.1≠dev)⟩ m.2 with
 |none=>rfl
 |some d=>
   exfalso;obtain⟨k,hk⟩:=Pq hc;have hmem:=(List.mem_filter.1 (Ag hk)).1
   cases hc2:CS ⟨s.files,s.mounts.take j⟩ m.2 with
   |some d'=>rw[hc2]at hf;cases hf
   |none=>
     unfold CS at hc2
     cases hq:(s.mounts.take j).find? fun x:Dv=>decide (x.2=m.2)with
     |some y=>rw[hq]at hc2;cases hc2
     |none=>have:=List.find?_eq_none.1 hq _ hmem;simp at this
section
theorem mW(s:Spc)(hs:SpcB s):AFn prog 126 [.agg (AT s)] (fun r=>r= .agg (AT s)):=by
 have hfew:=hs.few;refine enter Tryz.func126 rfl rfl rfl rfl rfl 0 rfl ?_;refine w_ (b_ (h:=Dt (h:=e_ (q_ (BS ([(0,AT s)]) 8 (h:=AD 0 (h:=?_)))))));refine AA 1 (h:=?_);refine AD 3 (h:=?_);refine AA 4 (h:=?_);refine c_ 2 rfl (A8 (U5 s.files hs.files) ?_);rintro r rfl;refine o_ (h:=?_)
 first|refine c_ 5 rfl (Dr rfl rfl rfl (by simp;omega) (by repeat constructor) ?_)|refine c_ 5 rfl (Ge rfl rfl (by simp;omega) (by repeat constructor) ?_)
 refine o_ (h:=LU 6 (h:=?_));refine Ak 7 (h:=z_ (h:=t_ (B8 (?_))));refine AZ (r:= .agg (AT s)) none (h5:=?_) (h6:=⟨rfl,rfl,rfl⟩);exact LeA.agg (LeL.cons (A7 _) (LeL.cons (LeA.tok _ _ _) LeL.nil))
end
end Go.Proofs.YtbgnigjfkbmceaaGreatDoor
namespace Go.Proofs.YtbgnigjfkbmceaaGreatDoor
section
variable {s:Spc}(hv:SpcV s)
include hv
def KN(s:Spc)(a:A9):Prop:=(Dd s a).2=true∧∀i,0<i→KJ s (BZ s (Bo s.files) a) i=true
theorem UX{a:A9}(h:AU s.files a=true)(hm:CO s a.1=true):(Dd s a).2=true:=by rw[Ri hv h hm]
omit hv in
theorem Yv(a:A9)(L:List A9)(i:Nat):KJ s (a::L) (i+2)=KJ s L (i+1):=by
 unfold KJ;have h1:(a::L)[i+2]?=L[i+1]?:=List.getElem?_cons_succ;have h2:(a::L)[i+2 - 1]?=L[i+1 - 1]?:=List.getElem?_cons_succ;rw[h1,h2];simp
omit hv in
theorem Yw(a b:A9)(L:List A9):KJ s (a::b::L) 1=true↔∀dev,CS s b=some dev→a=(dev,1):=by
 unfold KJ;simp only[List.getElem?_cons_succ,List.getElem?_cons_zero,Nat.sub_self]
 cases CS s b with
 |none=>simp
 |some dev=>simp
omit hv in
theorem Yx{L:List A9}{i:Nat}(h:L.length≤i):KJ s L i=true:=by
 unfold KJ;rw[List.getElem?_eq_none h]
theorem Rr(a:A9):G0 s a=true↔KN s a∧CS s a=none:=by
 rw[l6 hv,Bool.and_eq_true,List.all_eq_true];constructor
 ·rintro⟨h1,h2⟩;obtain⟨t,ht⟩:=Rh hv (Pr h1).1;refine⟨⟨h1,fun i hi=>?_⟩,?_⟩
  ·by_cases hl:i<(BZ s (Bo s.files) a).length
   ·exact h2 i (List.mem_range.2 hl)
   exact Yx (by omega)
  have h3:=h2 0 (List.mem_range.2 (by rw[ht];simp));rw[ht]at h3;unfold KJ at h3;simp only[List.getElem?_cons_zero]at h3
  cases hc:CS s a with
  |none=>rfl
  |some dev=>rw[hc]at h3;simp at h3
 rintro⟨⟨h1,h2⟩,hc⟩;refine⟨h1,fun i _=>?_⟩;obtain⟨t,ht⟩:=Rh hv (Pr h1).1;by_cases h0:i=0
 ·subst h0;rw[ht];unfold KJ;simp only[List.getElem?_cons_zero,hc]
 exact h2 i (by omega)
theorem Rs{a b:A9}(h:AU s.files a=true)(hm:CO s a.1=true)(hs:DV s a=some b):KN s a↔KN s b∧∀dev,CS s b=some dev→a=(dev,1):=by
 have hb:=Po hv h hs;have hbm:=UH hv hm hs;obtain⟨t,ht⟩:=Rh hv hb;have hc:BZ s (Bo s.files) a=a::BZ s (Bo s.files) b:=by rw[Mu hv h,hs]
 unfold KN;rw[hc];constructor
 ·rintro⟨_,h2⟩;refine⟨⟨UX hv hb hbm,fun i hi=>?_⟩,?_⟩
  ·obtain⟨j,rfl⟩:∃j,i=j+1:=⟨i - 1,by omega⟩;rw[←Yv a];exact h2 _ (by omega)
  have h3:=h2 1 (by omega);rw[ht]at h3;exact(Yw a b t).1 h3
 rintro⟨⟨_,h2⟩,h3⟩;refine⟨UX hv h hm,fun i hi=>?_⟩;by_cases h1:i=1
 ·subst h1;rw[ht];exact(Yw a b t).2 h3
 obtain⟨j,rfl⟩:∃j,i=j+2:=⟨i - 2,by omega⟩;rw[Yv];exact h2 _ (by omega)
theorem Yy(h:AU s.files (0,1)=true):KN s (0,1):=by
 have hs:DV s (0,1)=none:=by unfold DV;rw[if_neg (by simp)];exact Y4 hv
 refine⟨UX hv h (by unfold CO;simp),fun i hi=>?_⟩;rw[Mu hv h,hs];exact Yx (by simp;omega)
theorem Yz{a:A9}{dev:Int}(hc:CS s a=some dev):DV s (dev,1)=some a∧AU s.files (dev,1)=true∧CO s dev=true∧dev≠0∧AU s.files a=true:=by
 obtain⟨i,hi⟩:=Pq hc;have hm:=hv.mnt i _ hi;have h1:=hm.dev1;have h2:=hm.dev2;simp only at h1 h2
 have hs:DV s (dev,1)=some a:=by
  unfold DV;rw[if_neg (by simp)];exact Y9 hv hi
 exact⟨hs,YQ hv (by omega) h2,Pn (s:=s) (m:=(dev,a)) (Ag hi),by omega,hm.dir⟩
theorem mX{a:A9}(h:KN s a):KN s (L8 s a):=by
 unfold L8
 cases hc:CS s a with
 |none=>exact h
 |some dev=>
   obtain⟨h1,h2,h3,_⟩:=Yz hv hc;refine(Rs hv (a:=(dev,1)) h2 h3 h1).2 ⟨h,fun d hd=>?_⟩;rw[hc]at hd;injection hd with hd;rw[hd]
theorem Z0:∀(n:Nat) (a:A9),KN s a→KN s (EY s n a)
 |0,_,h=>h
 |n+1,a,h=>by rw[EY];exact Z0 n _ (mX hv h)
theorem Rt{a:A9}(h:KN s a):G0 s (EY s s.mounts.length a)=true:=(Rr hv _).2 ⟨Z0 hv _ a h,Y7 hv _ a fun i m _ _=>by omega⟩
theorem mY:∀(k:Nat) (a:A9),KN s a→KN s (GW s k a):=by
 intro k
 induction k with
 |zero=>intro a h;exact h
 |succ k ih=>
   intro a h;obtain⟨hd,hm⟩:=Pr h.1;by_cases h1:a.2=1
   ·cases ho:CE s a.1 with
    |none=>rw[YO k hd h1 (by rw[ho];rfl)];exact h
    |some on=>
      have hs:DV s a=some on:=by unfold DV;rw[if_neg (by simpa using h1)];exact ho
      rw[YN k hd h1 (by rw[ho];rfl),ho];exact ih on ((Rs hv hd hm hs).1 h).1
   have hs:DV s a=some (a.1,(Ah s.files a).parent):=if_pos h1;rw[YM k hd h1];exact((Rs hv hd hm hs).1 h).1
omit hv in
theorem mZ{d:Dvc}(hd:VD d){a b m:Nod}(ha:a∈d.nodes)(hb:b∈d.nodes)(hm:m∈d.nodes)(h1:m.ino≠1)(hk:m.kind=2)(hea:∃e∈a.entries,e.2=m.ino)(heb:∃e∈b.entries,e.2=m.ino):a=b:=by
 have hc:=hd.one m hm h1 hk;obtain⟨A,B,hAB,_,_⟩:=XS hd.asc ha;rw[hAB,To,OP]at hc;have h2:=XR.2 hea;rw[hAB]at hb;rcases List.mem_append.1 hb with hb|hb
 ·have:=PY.2 ⟨b,hb,heb⟩;omega
 rcases List.mem_cons.1 hb with hb|hb
 ·exact hb.symm
 have:=PY.2 ⟨b,hb,heb⟩;omega
theorem Z1{a b:A9}{p:AE}(hl:AK s.files a p=(b,0)):AU s.files a=true∧Fk p=true∧b.1=a.1∧b.2≠1∧Dc s.files b=true∧(AU s.files b=true→DV s b=some a):=by
 unfold AK at hl
 cases hn:C8 s.files a with
 |none=>rw[hn]at hl;simp at hl
 |some n=>
   rw[hn]at hl;simp only at hl;by_cases hk:n.kind=2
   ·rw[if_pos hk]at hl;have hdir:AU s.files a=true:=(Nf hn).2 hk
    cases hf:n.entries.find? fun e:BQ=>decide (e.1=p)with
    |none=>rw[hf]at hl;simp at hl
    |some e=>
      rw[hf]at hl;simp only[Prod.mk.injEq,and_true]at hl;subst hl;have he:=List.mem_of_find?_eq_some hf;have hep:=List.find?_some hf;simp only[decide_eq_true_eq]at hep;obtain⟨q,d,n',e1,e2,e3,e4,e5,e6⟩:=Ng (f:=s.files) (a:=a) (by rw[hdir];simp)
      have hn':n'=n:=by
       have:Ah s.files a=n:=by unfold Ah;rw[hn];rfl
       rw[←this];exact e5.symm
      subst hn';have hd:=hv.files.vd d (Ag e2);obtain⟨h1,h2,m,hm,hme⟩:=hd.ent n' e3 e he;have hnb:C8 s.files (a.1,e.2)=some m:=by rw[e1];exact UG hv e2 hm hme
      refine⟨hdir,by rw[←hep];exact h1,rfl,h2,by unfold Dc;rw[hnb];rfl,fun hdb=>?_⟩;have hmk:m.kind=2:=(Nf hnb).1 hdb;have hm1:m.ino≠1:=by rw[hme];exact h2
      obtain⟨p',hp',hpi,hpe⟩:=hd.par m hm hm1 hmk;have:=mZ hd e3 hp' hm hm1 hmk ⟨e,he,hme.symm⟩ hpe;subst this;unfold DV;rw[if_pos h2];unfold Ah;rw[hnb];simp only[Option.getD_some];rw[←hpi,e4]
   rw[if_neg hk]at hl;simp at hl
theorem n8{a b:A9}{p:AE}(hl:AK s.files a p=(b,0))(ha:G0 s a=true)(hb:AU s.files b=true):KN s b:=by
 obtain⟨h1,_,h3,h4,_,h6⟩:=Z1 hv hl;obtain⟨h7,h8⟩:=(Rr hv a).1 ha;refine(Rs hv hb (by rw[h3];exact(Pr h7.1).2) (h6 hb)).2 ⟨h7,fun dev hd=>?_⟩;rw[h8]at hd;cases hd
omit hv in
theorem n9(hv:SpcV s){a:A9}(h:AU s.files a=false)(n:Nat):EY s n a=a:=by
 refine TF ?_ n
 cases hc:CS s a with
 |none=>rfl
 |some d=>rw[(Yz hv hc).2.2.2.2]at h;cases h
theorem UY:AU s.files (0,0)=false:=by
 cases hz:AU s.files (0,0)with
 |false=>rfl
 |true=>
   obtain⟨q,d,m,e1,e2,e3,e4,e5,e6⟩:=Ng (f:=s.files) (a:=(0,0)) (by rw[hz];simp);have:=(hv.files.vd d (Ag e2)).pos e3;simp only at e4;omega
theorem Z2{fl:Bool}{p:AE}{ps:List AE}{a:A9}{lk:Nat}{τ:Lk}(h0:AU s.files (0,1)=true)(ha:AU s.files a=true→G0 s a=true)(h:CJ s fl p ps a lk= .inr τ):AU s.files τ.file=true→G0 s τ.file=true:=by
 unfold CJ at h;split at h
 ·cases h
 rename_i hd;have hd:AU s.files a=true:=by simpa using hd
 have hva:=ha hd;have hr:G0 s (Ff s)=true:=Rt hv (Yy hv h0);split at h
 ·cases h
 split at h
 ·injection h with h;subst h;exact ha
 split at h
 ·injection h with h;subst h;exact fun _=>Rt hv (mY hv _ a ((Rr hv a).1 hva).1)
 split at h
 ·split at h
  ·cases h
  injection h with h;subst h;intro hz;rw[UY hv]at hz;cases hz
 rename_i hl;have hl:(AK s.files a p).2=0:=by simpa using hl
 split at h
 ·split at h
  ·cases h
  injection h with h;subst h;simp only;split
  ·exact fun _=>hr
  exact ha
 injection h with h;subst h;simp only;intro hz
 cases hb:AU s.files (AK s.files a p).1 with
 |false=>rw[n9 hv hb]at hz;rw[hb]at hz;cases hz
 |true=>exact Rt hv (n8 hv (p:=p) (by rw[←hl]) hva hb)
theorem nA(h0:AU s.files (0,1)=true){fl:Bool}:∀(k:Nat) (σ:Lk),(AU s.files σ.file=true→G0 s σ.file=true)→(Ex s fl k σ).1=0→AU s.files (Ex s fl k σ).2.file=true→G0 s (Ex s fl k σ).2.file=true:=by
 intro k
 induction k with
 |zero=>intro σ h _ hd;exact h hd
 |succ k ih=>
   intro σ h;unfold Ex
   cases σ.ps with
   |nil=>exact fun _ hd=>h hd
   |cons p ps=>
     simp only
     cases hs:CJ s fl p ps σ.file σ.links with
     |inl e=>
       intro _ hd;rw[show(e,Rn).2.file=((0,0):A9) from rfl,UY hv]at hd;cases hd
     |inr τ=>exact ih τ (Z2 hv h0 h hs)
end
end Go.Proofs.YtbgnigjfkbmceaaGreatDoor
namespace Go.Proofs.YtbgnigjfkbmceaaGreatDoor
section
variable {s:Spc}(hv:SpcV s)
include hv
omit hv in
theorem Z3{fl:Bool}{p:AE}{ps:List AE}{a:A9}{lk:Nat}{e:Int}(h:CJ s fl p ps a lk= .inl e):e≠0:=by
 unfold CJ at h
 repeat' split at h
 all_goals first|(cases h;done)|(injection h with h;subst h;decide)
def Ru(s:Spc)(τ:Lk):Prop:=(τ.name=⟨#[]⟩∧τ.dir=τ.file∧τ.ex=true)∨(Fk τ.name=true∧AU s.files τ.dir=true∧∀lk,CJ s false τ.name [] τ.dir lk= .inr ⟨[],τ.dir,τ.name,τ.file,τ.ex,lk⟩)
theorem nB{fl:Bool}{p:AE}{ps:List AE}{a:A9}{lk:Nat}{τ:Lk}(h:CJ s fl p ps a lk= .inr τ):Ru s τ:=by
 unfold CJ at h;split at h
 ·cases h
 rename_i c1;split at h
 ·cases h
 rename_i c2;split at h
 ·injection h with h;subst h;exact .inl ⟨rfl,rfl,rfl⟩
 rename_i c3;split at h
 ·injection h with h;subst h;exact .inl ⟨rfl,rfl,rfl⟩
 rename_i c4;split at h
 ·rename_i c5;split at h
  ·cases h
  rename_i c6;injection h with h;subst h;simp only[not_or,Decidable.not_not,Bool.not_eq_false]at c6;refine .inr ⟨c6.2,by simpa using c1,fun lk=>?_⟩;unfold CJ;simp only[c1,c2,c3,c4,c5,c6.2,if_false,if_true,ne_eq,not_true_eq_false,or_self,Bool.true_eq_false,not_false_eq_true]
 rename_i c5;split at h
 ·split at h
  ·cases h
  injection h with h;subst h;exact .inl ⟨rfl,rfl,rfl⟩
 rename_i c6;injection h with h;subst h;have hl:AK s.files a p=((AK s.files a p).1,0):=Prod.ext rfl (by simpa using c5);refine .inr ⟨(Z1 hv hl).2.1,by simpa using c1,fun lk=>?_⟩;unfold CJ;simp only[c1,c2,c3,c4,c5,if_false,ne_eq,not_true_eq_false,or_self,Bool.false_eq_true,and_false,Bool.true_eq_false,reduceCtorEq]
theorem nC{fl:Bool}:∀(k:Nat) (σ:Lk),Ru s σ→(Ex s fl k σ).1=0→Ru s (Ex s fl k σ).2:=by
 intro k
 induction k with
 |zero=>intro σ h _;exact h
 |succ k ih=>
   intro σ h;unfold Ex
   cases σ.ps with
   |nil=>exact fun _=>h
   |cons p ps=>
     simp only
     cases hs:CJ s fl p ps σ.file σ.links with
     |inl e=>exact fun c=>absurd c (Z3 hs)
     |inr τ=>exact ih τ (nB hv hs)
theorem nD{st:A9}{p:AE}{fl:Bool}{x:Fnd}(h:Bb s st p fl=(x,0)):∃τ,Ru s τ∧x=Lf s (Be p) τ:=by
 unfold Bb at h;generalize (if G2 p=true then Ff s else st)=d at h;split at h
 ·cases h
 split at h
 ·cases h
 split at h
 ·cases h
 split at h
 ·rename_i c;injection h with h1 h2;exact absurd h2 c
 rename_i c;split at h
 ·cases h
 injection h with h1 h2;exact⟨_,nC hv _ _ (.inl ⟨rfl,rfl,rfl⟩) (Decidable.not_not.1 c),h1.symm⟩
end
end Go.Proofs.YtbgnigjfkbmceaaGreatDoor
namespace Go.Proofs.YtbgnigjfkbmceaaGreatDoor
open Go.RowKit Go.Shelf
attribute [local go_sem] Oper.semAt_some
theorem nE(s:ByteArray)(w:World):
    Calls prog 239 #[.string s, .string ⟨#[47]⟩] w fun e w'=>
     e= .returned (.func (.func 274) #[] #[.pointer (some ⟨w.heap.size+1,0,none⟩), .pointer (some ⟨w.heap.size,0,none⟩), .pointer (some ⟨w.heap.size+1+1,0,none⟩)])∧
     w'=((w.alloc (.cells #[.string s] 9)).alloc (.cells #[.string ⟨#[47]⟩] 9)).alloc (.cells #[.int .i64 0] 3):=by
 go_enter Tryz.func239,Tryz.ntmps239
 go_wp2
 go_ret
 exact⟨rfl,rfl⟩
def UZ(w:World)(b:Nat):Nat:=match w.cell? ⟨b,0,none⟩with
 |some (.string r)=>r.size
 |_=>0
theorem Z4{w:World}{b:Nat}{t:TypeId}{r:ByteArray}(h:Boxed w b t (.string r)):UZ w b=r.size:=by simp[UZ,h.cell]
def Keep3(a b c:Nat)(X Y:World):Prop:=Y.heap[a]?=X.heap[a]?∧Y.heap[b]?=X.heap[b]?∧Y.heap[c]?=X.heap[c]?
theorem Keep3.trans{a b c:Nat}{X Y Z:World}(h:Keep3 a b c X Y)(k:Keep3 a b c Y Z):Keep3 a b c X Z:=⟨k.1.trans h.1,k.2.1.trans h.2.1,k.2.2.trans h.2.2⟩
theorem nF{a b c N:Nat}(ha:a<N)(hb:b<N)(hc:c<N)(W:World)(l:Nat)(o':Obj)(hl:N≤l):Keep3 a b c W (W.putObj l o'):=
 ⟨World.putObj_heap_other (by omega),World.putObj_heap_other (by omega),World.putObj_heap_other (by omega)⟩
theorem nG{a b c:Nat}{X Y:World}(h:Below X.heap.size X Y)(ha:a<X.heap.size)(hb:b<X.heap.size)(hc:c<X.heap.size):Keep3 a b c X Y:=⟨h.block _ ha,h.block _ hb,h.block _ hc⟩
theorem Z5(s:ByteArray)(i:Nat)(h:i<s.size):(s.extract (i+1) s.size).size<s.size:=by
 rw[ByteArray.size_extract];omega
theorem nH{s:ByteArray}{i:Nat}(hi:Lib.indexByte s.data.toList 47=i):i<s.size∧Ct s.data.toList=(s.extract 0 i).data.toList::Ct (s.extract (i+1) s.size).data.toList:=by
 have hm:(47:UInt8)∈s.data.toList:=by
  apply Classical.byContradiction;intro h;rw[mD h]at hi;omega
 obtain⟨j,hj,hlt,hl,hn⟩:=Yp hm;obtain rfl:j=i:=by omega
 refine⟨by rw[Lib.size_eq];exact hlt,?_⟩;rw[Lib.extract_data,Lib.extract_to_end];simp only[List.drop_zero,Nat.sub_zero]
 conv=>lhs;rw[hl]
 exact X7 hn _
theorem nJ{s:ByteArray}(hi:Lib.indexByte s.data.toList 47<0):Ct s.data.toList=[s.data.toList]:=by
 refine RQ fun h=>?_;obtain⟨i,hi',_⟩:=Yp h;omega
def J9(xs:List AE):List Bs:=xs.map fun x=>x.data.toList
set_option maxRecDepth 100000 in
set_option maxHeartbeats 1000000 in
theorem nK(n:Nat)(s:ByteArray)(hs:s.size≤1000000)(b0 b1 b2:Nat)(w:World)(h0:Boxed w b0 9 (.string s))(h1:Boxed w b1 9 (.string ⟨#[47]⟩))(h2:Boxed w b2 3 (.int .i64 0))(h01:b0≠b1)(h02:b0≠b2):
    RX Fence.wide n prog 274 #[.pointer (some ⟨b1,0,none⟩), .pointer (some ⟨b0,0,none⟩), .pointer (some ⟨b2,0,none⟩)] (fun x:AE=>#[.string x]) (fun b=>b=b0) (Keep3 b0 b1 b2) (fun xs=>J9 xs<+:Ct s.data.toList)
     (fun xs=>J9 xs=Ct s.data.toList) (fun pre=>J9 pre<+:Ct s.data.toList) w:=fun l J Jx W hW hJ hJx hY hst=>by
 have k0:Boxed W b0 9 (.string s):=Fa h0 hW h0.lt;have k1:Boxed W b1 9 (.string ⟨#[47]⟩):=Fa h1 hW h1.lt;have k2:Boxed W b2 3 (.int .i64 0):=Fa h2 hW h2.lt;refine callsIn_of_wp Tryz.func274 rfl trivial ?_ rfl;simp only[Tryz.ntmps274,List.size_toArray,List.length_cons,List.length_nil,Nat.reduceAdd,Nat.reduceSub,Array.replicate_succ,Array.replicate_zero,List.push_toArray,List.append_toArray,List.nil_append,List.cons_append];have c1:=k1.cell
 gi_wp2
 gi_loopw [7] (fun _ wr=>∃(pre:List AE) (r:ByteArray),Boxed wr b0 9 (.string r)∧Boxed wr b1 9 (.string ⟨#[47]⟩)∧Boxed wr b2 3 (.int .i64 0)∧J pre wr∧Hid (J9 pre++Ct r.data.toList=Ct s.data.toList)∧r.size≤s.size) (fun _ wr=>UZ wr b0)
 case atStart=>exact⟨[],s,k0,k1,k2,hst,rfl,B6 _⟩
 case round=>
  obtain⟨pre,r,m0,m1,m2,hj,hpre,hle⟩:=hrel;clear k0 k1 k2 c1 hst;have c0:=m0.cell;have c1:=m1.cell;have c2:=m2.cell;have f0:=m0.frozen
  gi_wp2_with fail
  refine Na ((callsIn_wide.2 (mC _ _)).mono ?_);rintro e w' ⟨rfl,rfl⟩;have hge:=Lib.indexByte_ge r.data.toList 47;by_cases hneg:Lib.indexByte r.data.toList 47<0
  ·have HS:=Lib.hid (nJ hneg);obtain⟨fn,tmps,assign,body,hy,hR⟩:=hY pre r wr hj (by rw[←hpre.out,HS.out];simp[J9])
   gi_wp2
   refine⟨(fun h=>by cases h),hR.mono ?_⟩;rintro e W3 (⟨rfl,hJ3,hk3⟩|⟨rfl,hJx3⟩)
   ·gi_wp2
    go_end0
    exact⟨⟨_,rfl⟩, .inl ⟨pre++[r],by rw[←hpre.out,HS.out];simp[J9],hJ3⟩⟩
   gi_wp2
   go_end0
   exact⟨⟨_,rfl⟩, .inr ⟨pre++[r],by rw[←hpre.out,HS.out];simp[J9],hJx3⟩⟩
  obtain⟨i,hi⟩:=Int.eq_ofNat_of_zero_le (show 0≤Lib.indexByte r.data.toList 47 by omega);obtain⟨hlt,hseg⟩:=nH hi;have HS:=Lib.hid hseg;clear hseg hge hneg;rw[hi];clear hi;obtain⟨fn,tmps,assign,body,hy,hR⟩:=hY pre (r.extract 0 i) wr hj (by rw[←hpre.out,HS.out];simp[J9])
  gi_wp2
  refine⟨(fun h=>by cases h),hR.mono ?_⟩;rintro e W3 (⟨rfl,hJ3,hk3⟩|⟨rfl,hJx3⟩)
  ·have q0:Boxed W3 b0 9 (.string r):=hk3.1.trans m0;have q1:Boxed W3 b1 9 (.string ⟨#[47]⟩):=hk3.2.1.trans m1;have q2:Boxed W3 b2 3 (.int .i64 0):=hk3.2.2.trans m2;clear c0 c1 c2 f0 hy hR;have c0:=q0.cell;have c1:=q1.cell;have c2:=q2.cell;have f0:=q0.frozen
   gi_wp2
   go_roundw
   case rel=>exact⟨pre++[r.extract 0 i],r.extract (i+1) r.size,q0.set _,q1.other (Ne.symm h01) _,q2.other (Ne.symm h02) _,hJ _ _ _ hJ3 (Moves.set_ (own:=fun b=>b=b0) _ rfl _),Lib.hid (by rw[←hpre.out,HS.out];simp[J9]),Nat.le_trans (Nat.le_of_lt (Z5 r i hlt)) hle⟩
   case measure=>rw[Z4 (q0.set _),Z4 m0];exact Z5 r i hlt
  gi_wp2
  refine bodyPost_ret (results_none rfl _ _ _) rfl ?_;exact⟨⟨_,rfl⟩, .inr ⟨pre++[r.extract 0 i],by rw[←hpre.out,HS.out];simp[J9],hJx3⟩⟩
end Go.Proofs.YtbgnigjfkbmceaaGreatDoor
namespace Go.Proofs.YtbgnigjfkbmceaaGreatDoor
open Go.RowKit Go.Shelf
attribute [local go_sem] Oper.semAt_some
theorem Ua(l:Bs):Lib.hasPrefix l [47]=decide (l.head?=some 47):=by
 unfold Lib.hasPrefix
 cases l with
 |nil=>simp
 |cons c t=>
   rw[Bool.eq_iff_iff,List.isPrefixOf_iff_prefix];simp[List.cons_prefix_cons,eq_comm]
theorem nL{l:Bs}(h:l.head?=some 47):Lib.trimPrefix l [47]=l.tail:=by
 unfold Lib.trimPrefix;rw[Ua,if_pos (by simp[h])];simp
set_option maxRecDepth 100000 in
set_option maxHeartbeats 1000000 in
theorem Z6(s:ByteArray)(w:World)(h:s.data.toList=[47]∨s.data.toList.head?≠some 47):
    Calls prog 183 #[.string s] w fun e w'=>e= .returned (.bool (Fb s.data.toList))∧Below w.heap.size w w':=by
 by_cases h1:s.data.toList=[47]
 ·obtain rfl:s=⟨#[47]⟩:=Yn h1
  go_enter Tryz.func183,Tryz.ntmps183
  go_wp2
  exact bodyPost_ret (v:= .bool true) (by simp[results,Tryz.results183,go_sem]) rfl ⟨rfl,(Below.refl _ _).alloc (B6 _) _⟩
 have h2:s.data.toList.head?≠some 47:=h.resolve_left h1;have e1:(s.toList==[47])=false:=by rw[MC,beq_eq_false_iff_ne];exact h1
 have HP:=Lib.hid (Ua s.data.toList);have HF:Hid (Fb s.data.toList=false):=Lib.hid (by unfold Fb;simp[h1,h2]);have HD:Hid (decide (s.data.toList.head?=some 47)=false):=Lib.hid (decide_eq_false h2);clear h h1 h2
 go_enter Tryz.func183,Tryz.ntmps183
 go_wp2_with fail
 refine(Tryz.strings_CutPrefix _ _ _).mono ?_;rintro e w' ⟨rfl,rfl⟩;rw[HP.out,HD.out]
 go_wp2
 exact bodyPost_ret (v:= .bool false) (by simp[results,Tryz.results183,go_sem]) rfl ⟨by rw[HF.out],(Below.refl _ _).alloc (B6 _) _⟩
set_option maxRecDepth 100000 in
set_option maxHeartbeats 1000000 in
theorem nM(n:Nat)(hn:Hid (1≤n))(s:ByteArray)(w:World)(hs:s.size≤1000000)(h1:s.data.toList≠[47])(h2:s.data.toList.head?=some 47):
    CallsIn Fence.wide n prog 183 #[.string s] w fun e w'=>e= .returned (.bool (Fb s.data.toList))∧Below w.heap.size w w':=by
 have e1:(s.toList==[47])=false:=by rw[MC,beq_eq_false_iff_ne];exact h1
 have HP:=Lib.hid (Ua s.data.toList);have HT:=Lib.hid (nL h2);have HF:Hid (Fb s.data.toList=(Ct s.data.toList.tail).all Fn):=Lib.hid (by unfold Fb;simp[h1,h2]);have HD:Hid (decide (s.data.toList.head?=some 47)=true):=Lib.hid (decide_eq_true h2);clear h1 h2;refine callsIn_of_wp_marks Tryz.func183 rfl trivial ?_ rfl;simp only[Tryz.ntmps183,List.size_toArray,List.length_cons,List.length_nil,Nat.reduceAdd,Nat.reduceSub,Array.replicate_succ,Array.replicate_zero,List.push_toArray,List.append_toArray,List.nil_append,List.cons_append]
 gi_wp2_with fail
 refine Na ((callsIn_wide.2 (Tryz.strings_CutPrefix _ _ _)).mono ?_);rintro e w' ⟨rfl,rfl⟩;obtain⟨r,hr⟩:∃r:ByteArray,r=⟨(Lib.trimPrefix s.data.toList [47]).toArray⟩:=⟨_,rfl⟩;have hrl:r.data.toList=s.data.toList.tail:=by rw[hr,←HT.out]
 have HR:=Lib.hid hrl;have hrs:r.size≤1000000:=by rw[Lib.size_eq,hrl,List.length_tail,←Lib.size_eq];omega
 rw[HP.out,HD.out];rw[show(⟨(Lib.trimPrefix s.data.toList (ByteArray.mk #[47]).data.toList).toArray⟩:ByteArray)=r from hr.symm];clear hrl hr
 gi_wp2_with fail
 refine Na ((callsIn_wide.2 (nE _ _)).mono ?_);rintro e w' ⟨rfl,rfl⟩
 gi_wp2_with fail
 have hR:Boxed (w.alloc (.cells #[.bool false] 4)) w.heap.size 4 (.bool false):=Boxed.new _ _ _;obtain⟨W0,hW0⟩:∃W0,w.alloc (.cells #[.bool false] 4)=W0:=⟨_,rfl⟩;have hz0:W0.heap.size=w.heap.size+1:=by rw[←hW0];simp
 have hB0:Below w.heap.size w W0:=by rw[←hW0];exact LY _ _
 rw[hW0]at hR ⊢;obtain⟨WL,hWL⟩:∃WL,((W0.alloc (.cells #[.string r] 9)).alloc (.cells #[.string ⟨#[47]⟩] 9)).alloc (.cells #[.int .i64 0] 3)=WL:=⟨_,rfl⟩;have hzL:WL.heap.size=w.heap.size+1+1+1+1:=by rw[←hWL];simp[hz0]
 have hBL:Below W0.heap.size W0 WL:=by rw[←hWL];exact PL _ _ _ _
 have k0:Boxed WL (w.heap.size+1) 9 (.string r):=by rw[←hWL,←hz0];exact TO _ _ _ _
 have k1:Boxed WL (w.heap.size+1+1) 9 (.string ⟨#[47]⟩):=by rw[←hWL,←hz0];exact PM _ _ _ _
 have k2:Boxed WL (w.heap.size+1+1+1) 3 (.int .i64 0):=by rw[←hWL,←hz0];exact TP _ _ _ _
 have kR:Boxed WL w.heap.size 4 (.bool false):=Fa hR hBL hR.lt;have hBw:Below w.heap.size w WL:=hB0.trans (hBL.mono (by omega));rw[hWL];have HB0:=Lib.hid hz0;have HBL:=Lib.hid hzL;clear hW0 hWL hz0 hR hB0 hBL hzL
 refine iA rfl hn.out (gf:=274) rfl trivial (enters_of Tryz.func274 (by kernel_rfl) rfl)
  (nK (n - 1) r hrs (w.heap.size+1) (w.heap.size+1+1) (w.heap.size+1+1+1) WL k0 k1 k2 (by omega) (by omega))
  (fun b hb=>by have:=HBL.out;omega) Keep3.trans (fun W l o o' hl _ _=>by have:=HBL.out;exact nF (N:=WL.heap.size) (by omega) (by omega) (by omega) W l o' hl) (Below.refl _ _) (fun _=>rfl)
  (fun pre W=>Boxed W w.heap.size 4 (.bool false)∧(∀p∈J9 pre,Fn p=true)∧Below w.heap.size w W)
  (fun c pre W=>c= .ret∧Boxed W w.heap.size 4 (.bool false)∧(∃p∈J9 pre,Fn p=false)∧Below w.heap.size w W)
  (fun s X Y h hm=>⟨hm.boxed h.1 (by omega),h.2.1,hm.under h.2.2 (B6 _) (fun b hb=>by omega) (by have:=HBL.out;omega)⟩)
  (fun c s X Y h hm=>⟨h.1,hm.boxed h.2.1 (by omega),h.2.2.1,hm.under h.2.2.2 (B6 _) (fun b hb=>by omega) (by have:=HBL.out;omega)⟩)
  ⟨kR,by simp[J9],hBw⟩
  (fun x=>{tmps:=#[.string s,undef, .pointer (some ⟨w.heap.size,0,none⟩), .string r, .bool true, .string x, .string s, .bool false, .tuple #[.string r, .bool true], .string s, .tuple #[.string r, .bool true], .string r, .bool true, .bool true, .bool false, .string r,
    .func (.func 274) #[] #[.pointer (some ⟨w.heap.size+1+1,0,none⟩), .pointer (some ⟨w.heap.size+1,0,none⟩), .pointer (some ⟨w.heap.size+1+1+1,0,none⟩)], .string x,undef,undef,undef],defers:=[]}) ?assign ?body ?done ?stop
 case assign=>
  intro l x W K hK
  gi_wp2
  exact hK
 case body=>
  rintro l pre x W ⟨hc,hnm,hbw⟩ _ hsz;have hcell:=hc.cell;have hfz:=hc.frozen;have HN:=Lib.hid hnm;have HZ:=Lib.hid hsz;clear hnm hsz
  gi_wp2_with fail
  refine Na ((CallsIn.inRound l (callsIn_wide.2 (Yu x W))).mono ?_);rintro e W' ⟨rfl,hb'⟩;have hc':Boxed W' w.heap.size 4 (.bool false):=Fa hc hb' hc.lt;have hbw':Below w.heap.size w W':=hbw.trans (hb'.mono hbw.size);clear hcell hfz;have hcell:=hc'.cell;have hfz:=hc'.frozen;have HX:Hid (J9 (pre++[x])=J9 pre++[x.data.toList]):=Lib.hid (by simp[J9])
  cases hnx:Fn x.data.toList with
  |true=>
    gi_wp2
    have h1:=HBL.out;have h2:=HZ.out;exact⟨RU hb',nG hb' (by omega) (by omega) (by omega),hc',by rw[HX.out];intro p hp;rcases List.mem_append.1 hp with hp|hp;exact HN.out p hp;simp at hp;rw[hp];exact hnx,hbw'⟩
  |false=>
    gi_wp2
    have h1:=HBL.out;exact⟨XE (RU hb') (by omega) _,rfl,hc'.set _,⟨x.data.toList,by rw[HX.out];simp,hnx⟩,hbw'.setCell (B6 _) _⟩
 case done=>
  rintro D xs W hD hS ⟨hc,hnm,hbw⟩ hK;have HS:=Lib.hid hS;have HN:=Lib.hid hnm;clear hS hnm;have hcell:=hc.cell;have hfz:=hc.frozen
  gi_wp2
  refine⟨by simp, .inl ⟨_,_,rfl,run_takeDeferred ((KeepsOthers.setCell _ _ _).same D _ hK rfl),?_⟩⟩;have h1:=HBL.out;have hcb:=(RV (hc.set (.bool true)) (show w.heap.size≠D by omega) (.deferred none)).cell;refine⟨.bool true,by simp[results,Tryz.f183,go_sem,hcb],by rw[HF.out,←HR.out,←HS.out,List.all_eq_true.2 HN.out],RW (hbw.setCell (p:=⟨w.heap.size,0,none⟩) (B6 _) _) (by omega) _⟩
 case stop=>
  rintro D c pre W hD hSp ⟨rfl,hc,hnm,hbw⟩ hK;have HS:=Lib.hid hSp;have HN:=Lib.hid hnm;clear hSp hnm;have hcell:=hc.cell
  gi_wp2
  refine⟨by simp, .inl ⟨_,_,rfl,run_takeDeferred hK,?_⟩⟩;have h1:=HBL.out;have hcb:=(RV hc (show w.heap.size≠D by omega) (.deferred none)).cell;refine⟨.bool false,by simp[results,Tryz.f183,go_sem,hcb],?_,RW hbw (by omega) _⟩;obtain⟨p,hp,hpf⟩:=HN.out;rw[HF.out,←HR.out,List.all_eq_false.2 ⟨p,HS.out.subset hp,by simp[hpf]⟩]
theorem nN(s:ByteArray)(w:World)(hs:s.size≤1000000):
    Calls prog 183 #[.string s] w fun e w'=>e= .returned (.bool (Fb s.data.toList))∧Below w.heap.size w w':=by
 by_cases h1:s.data.toList=[47]
 ·exact Z6 s w (.inl h1)
 by_cases h2:s.data.toList.head?=some 47
 ·exact callsIn_wide.1 (nM 6 (Lib.hid (by omega)) s w hs h1 h2)
 exact Z6 s w (.inr h2)
end Go.Proofs.YtbgnigjfkbmceaaGreatDoor
namespace Go.Proofs.YtbgnigjfkbmceaaGreatDoor
open Go.RowKit Go.Shelf
attribute [local go_sem] Oper.semAt_some
end Go.Proofs.YtbgnigjfkbmceaaGreatDoor
namespace Go.Proofs.YtbgnigjfkbmceaaGreatDoor
open Go.RowKit Go.Shelf
attribute [local go_sem] Oper.semAt_some
end Go.Proofs.YtbgnigjfkbmceaaGreatDoor
namespace Go.Proofs.YtbgnigjfkbmceaaGreatDoor
open Go.RowKit
def Ju(f:AR)(a:A9):Int:=match C8 f a with
 |none=>2
 |some n=>if n.kind=2 then 0 else 20
def KO(f:AR)(a:A9)(name:AE):A9×Bool:=match C8 f a with
 |none=>((0,0),false)
 |some n=>match n.entries.find? (fun e:BQ=>decide (e.1=name))with
   |none=>((0,0),false)
   |some e=>((a.1,e.2),true)
theorem nO{f:AR}{a:A9}{name:AE}(h:¬Ju f a=0):AK f a name=((0,0),Ju f a):=by
 unfold Ju at h ⊢;unfold AK
 cases hn:C8 f a with
 |none=>rfl
 |some n=>
   simp only[hn]at h ⊢;by_cases hk:n.kind=2
   ·rw[if_pos hk]at h;exact absurd rfl h
   rw[if_neg hk,if_neg hk]
theorem nP{f:AR}{a:A9}{name:AE}(h:Ju f a=0)(h2:(KO f a name).2=false):AK f a name=((0,0),2):=by
 unfold Ju at h;unfold KO at h2;unfold AK
 cases hn:C8 f a with
 |none=>rfl
 |some n=>
   simp only[hn]at h h2 ⊢;by_cases hk:n.kind=2
   ·rw[if_pos hk]
    cases hf:n.entries.find? (fun e:BQ=>decide (e.1=name))with
    |none=>rfl
    |some e=>rw[hf]at h2;cases h2
   rw[if_neg hk]at h;exact absurd h (by decide)
theorem nQ{f:AR}{a:A9}{name:AE}(h:Ju f a=0)(h2:(KO f a name).2=true):AK f a name=((KO f a name).1,0):=by
 unfold Ju at h;unfold KO at h2 ⊢;unfold AK
 cases hn:C8 f a with
 |none=>rw[hn]at h2;cases h2
 |some n=>
   simp only[hn]at h h2 ⊢;by_cases hk:n.kind=2
   ·rw[if_pos hk]
    cases hf:n.entries.find? (fun e:BQ=>decide (e.1=name))with
    |none=>rw[hf]at h2;cases h2
    |some e=>rfl
   rw[if_neg hk]at h;exact absurd h (by decide)
section
theorem nR(f:AR)(a:A9)(hf:FlsB f):AFn prog 246 [.agg (Ao f), .agg (AB a)] (fun r=>r= .v (.int .i64 (Ju f a))):=by
 refine enter Tryz.func246 rfl rfl rfl rfl rfl 0 rfl ?_;refine FV (h:=CG (h:=?_));refine A3 rfl (A8 (TG f a hf) ?_);rintro r (⟨e,rfl⟩|⟨n,e,rfl⟩)
 ·skip
  refine B7 (h:=q_ (BH (Aa (h:=?_))));refine A3 rfl (OF (by kernel_rfl) rfl rfl ?_);refine B7 (h:=?_);refine A4 rfl (fun hb1 hc1=>?_) (fun hb1 hc1=>?_)
  ·refine Bl (h:=?_);refine A6 ?_;rw[show Ju f a=2 by simp only[Ju,e]];rfl
  exact E7
 skip
 refine B7 (h:=q_ (BH (Aa (h:=?_))))
 first|refine A3 rfl (OF (by kernel_rfl) rfl rfl ?_)|refine A3 rfl (RJ (by kernel_rfl) rfl rfl ?_)
 refine B7 (h:=?_);refine A4 rfl (fun hb2 hc2=>?_) (fun hb2 hc2=>?_)
 ·exact E7
 refine Aa (h:=k_ (h:=D5 (h:=B7 (h:=?_))));refine A4 rfl (fun hb3 hc3=>?_) (fun hb3 hc3=>?_)
 ·refine Bl (h:=?_);refine A6 ?_;rw[show Ju f a=20 by simp only[Ju,e];exact if_neg hc3];rfl
 refine Er (h:=?_);refine A6 ?_;rw[show Ju f a=0 by simp only[Ju,e];exact if_pos hc3];rfl
theorem nT(f:AR)(a:A9)(name:AE)(hf:FlsB f):AFn prog 247 [.agg (Ao f), .agg (AB a), .v (.string name)] (fun r=>r= .tup [.agg (AB (KO f a name).1), .v (.bool (KO f a name).2)]):=by
 have hen:=RG hf a;refine enter Tryz.func247 rfl rfl rfl rfl rfl 0 rfl ?_;refine Jb (h:=CG (h:=?_));refine A3 rfl (A8 (TG f a hf) ?_);rintro r (⟨e,rfl⟩|⟨n,e,rfl⟩)
 ·skip
  refine Bw (h:=?_);refine A3 rfl (OF (by kernel_rfl) rfl rfl ?_);refine e_ (?_);refine A4 rfl (fun hb1 hc1=>?_) (fun hb1 hc1=>?_)
  ·refine Br (h:=?_);refine A6 ?_;rw[show KO f a name=((0,0),false) by simp only[KO,e]];rfl
  exact E7
 have hnl:n.entries.length≤1000:=by simpa[Ah,e]using hen
 refine Bw (h:=?_)
 first|refine A3 rfl (OF (by kernel_rfl) rfl rfl ?_)|refine A3 rfl (RJ (by kernel_rfl) rfl rfl ?_)
 refine e_ (?_);refine A4 rfl (fun hb2 hc2=>?_) (fun hb2 hc2=>?_)
 ·exact E7
 refine Dl (h:=k_ (h:=Ef (h:=m_ (h:=e_ (BH (?_))))));refine BR (fun m t=>∃j:Nat,j≤n.entries.length∧m=n.entries.length - j∧(∀i y,i<j→n.entries[i]?=some y→decide (y.1=name)=false)∧t=⟨look [(2, .v (.string name)),(4, .bp 1 0),(6, .bp 2 0),(20, .sl 2 (n.entries.map DO) none),(21, .v (.int .i64 ((n.entries.map DO).length:Int))),(22, .v (.int .i64 (j:Int)))],⟨[Ao f,AB a,[.v (.int .i64 0), .v (.int .i64 0)]],[]⟩⟩) (n.entries.length) ((wk 3 0)) (⟨0,by omega,rfl,fun i y hi=>by omega,rfl⟩) ?_;rintro m t ⟨j,hj,rfl,ha,rfl⟩;refine w_ (Cj (h:=q_ (?_)));refine A4 rfl (fun hb3 hc3=>?_) (fun hb3 hc3=>?_)
 ·obtain⟨hlt,x,hy,hrow, -⟩:=Bz DO hc3;refine C2 (h:=w_ (i_ (h:=Hu (h:=Az (h:=m_ (h:=BN (h:=?_)))))));refine A4 rfl (fun hb4 hc4=>?_) (fun hb4 hc4=>?_)
  ·refine Hs (h:=E0 (h:=BC (h:=EB (h:=?_))));refine A6 ?_;rw[show KO f a name=((a.1,x.2),true) by simp only[KO,e];rw[Mh hy (by simpa using hc4) ha]];rfl
  refine BF (BB (t_ (Av (Gp (h:=?_)))));refine⟨_,_,?_,⟨j+1,by omega,rfl,GP hy ha (by simpa using hc4),rfl⟩,(wk 3 0)⟩;omega
 have e3:=CD DO hj hc3;subst e3;refine CK (h:=w_ (E0 (h:=BJ (h:=?_))));refine A6 ?_;rw[show KO f a name=((0,0),false) by simp only[KO,e];rw[Mi ha]];rfl
theorem nU(f:AR)(a:A9)(name:AE)(hf:FlsB f):AFn prog 188 [.agg (Ao f), .agg (AB a), .v (.string name)] (fun r=>r= .tup [.agg (AB (AK f a name).1), .v (.int .i64 (AK f a name).2)]):=by
 refine enter Tryz.func188 rfl rfl rfl rfl rfl 0 rfl ?_;refine Jb (h:=q_ (CG (h:=?_)));refine A3 rfl (A8 (nR f a hf) ?_);rintro r rfl;refine C4 (h:=Bn (h:=?_));refine A4 rfl (fun hb1 hc1=>?_) (fun hb1 hc1=>?_)
 ·refine w_ (Gr (h:=E8 (h:=?_)));refine A6 ?_;rw[nO hc1];rfl
 refine AG (Hc (h:=?_));refine A3 rfl (A8 (nT f a name hf) ?_);rintro r rfl;refine Gm (h:=?_);refine A4 rfl (fun hb2 hc2=>?_) (fun hb2 hc2=>?_)
 ·refine Br (h:=?_);refine A6 ?_;rw[nP hc1 (by simpa using hc2)];rfl
 refine AG (HL (h:=?_));refine A6 ?_;rw[nQ hc1 (by simpa using hc2)];rfl
end
theorem nV{s:Spc}{start:A9}{p:AE}{fl:Bool}(h1:¬p=⟨#[]⟩)(h2:128<p.size):Bb s start p fl=(GX,36):=by unfold Bb;rw[if_neg h1,if_pos h2]
section
variable {s:Spc}{start a:A9}{p:AE}{fl:Bool}(h1:¬p=⟨#[]⟩)(h2:¬128<p.size)(ha:(if G2 p=true then Ff s else start)=a)
include h1 h2 ha
theorem nW(hd:AU s.files a=false):Bb s start p fl=(GX,2):=by
 unfold Bb;rw[if_neg h1,if_neg h2,ha,if_pos hd]
variable (hd:AU s.files a=true)
include hd
theorem Py{e:Int}{τ:Lk}(h:G4 s (fl||Be p) (Kl (Fe p) a)=(e,τ))(he:e≠0):Bb s start p fl=(GX,e):=by
 unfold Bb;rw[if_neg h1,if_neg h2,ha,if_neg (by simp[hd]),h,if_pos he]
theorem nX{τ:Lk}(h:G4 s (fl||Be p) (Kl (Fe p) a)=(0,τ))(hs:Be p=true∧τ.ex=true∧AU s.files τ.file=false):Bb s start p fl=(GX,20):=by
 unfold Bb;rw[if_neg h1,if_neg h2,ha,if_neg (by simp[hd]),h,if_neg (by simp),if_pos hs]
theorem Ub{τ:Lk}(h:G4 s (fl||Be p) (Kl (Fe p) a)=(0,τ))(hs:¬(Be p=true∧τ.ex=true∧AU s.files τ.file=false)):Bb s start p fl=(Lf s (Be p) τ,0):=by
 unfold Bb;rw[if_neg h1,if_neg h2,ha,if_neg (by simp[hd]),h,if_neg (by simp),if_neg hs]
end
section
theorem Uc{s:Spc}(hs:SpcB s)(hv:SpcV s)(a:A9):AFn prog 193 [.agg (AT s), .agg (AB a)] (fun r=>r= .agg (AB (EY s s.mounts.length a))):=
 (fC s a hs).mono fun r hr=>by rw[hr,l3 hv]
end
end Go.Proofs.YtbgnigjfkbmceaaGreatDoor
