/-
  Part 11 of the proof of WatchNamesP: what the statement's proof uses of the texts in wip/tpl.
-/
import Derived.Test.YtobclmbkdhbnpaaGreatDoorShelf
import Derived.Laws.RangeAny
import Derived.Deep.LoopGhost
import Derived.Lib.OthersKept
import Derived.Lib.IndexLaws
import Derived.Shelf.Abstract
import Derived.Shelf.RegionOpen
import Derived.OwnWalkIn
import Derived.TacticsInMore
import Derived.LoopNIn
import Derived.LoopIn
import Derived.Maps.AppendAt
import Derived.OwnWalk
import Derived.StillTailTactics
import Derived.Test.YtobclmbkdhbnpaaGreatDoorQb10
open Go.Proofs.Tryz (prog)
set_option maxRecDepth 10000
set_option maxHeartbeats 4000000
set_option linter.unusedVariables false
set_option linter.unusedSimpArgs false
namespace Go.Proofs.YtobclmbkdhbnpaaGreatDoor
open Go.RowKit
def JJ(r:AB×Int×Int×Int×Int):List AV:=[.v (.string r.1), .v (.int .i64 r.2.1), .v (.int .i64 r.2.2.1), .v (.int .i64 r.2.2.2.1), .v (.int .i64 r.2.2.2.2)]
theorem Yq{a b:Nat}(h:a<b):Nat.blt a b=true:=by rw[Nat.blt_eq];exact h
theorem Yr{c:Cal}{j:Nat}(h:j<4):∃x,(Jt c)[j]?=some x∧(E5 c)[1+j]?=some (.v (.int .i64 x)):=by
 match j,h with
 |0,_=>exact⟨_,rfl,rfl⟩
 |1,_=>exact⟨_,rfl,rfl⟩
 |2,_=>exact⟨_,rfl,rfl⟩
 |3,_=>exact⟨_,rfl,rfl⟩
theorem Ys{l:List Int}{n j:Nat}{x:Int}(hn:n≤j)(hy:l[j]?=some x)(hx:x≠0):((l.drop n).any fun x=>decide (x≠0))=true:=by
 rw[List.any_eq_true];refine⟨x,?_,by simpa using hx⟩;refine Au (i:=j - n) ?_;rw[List.getElem?_drop,show n+(j - n)=j by omega];exact hy
theorem Yt{l:List Int}{n:Nat}(h:∀i x,n≤i→l[i]?=some x→x=0):((l.drop n).any fun x=>decide (x≠0))=false:=by
 rw[List.any_eq_false];intro x hx;obtain⟨i,hi⟩:=List.mem_iff_getElem?.1 hx;rw[List.getElem?_drop]at hi;simp[h _ x (Nat.le_add_right n i) hi]
theorem T8(n:Int):0≤(Dc n).2.1∧(Dc n).2.1≤2:=by
 unfold Dc;split
 ·decide
 rename_i h;obtain⟨m,rfl⟩:=Int.eq_ofNat_of_zero_le (show 0≤n by omega);have hm:m<22:=by omega
 have key:∀m,m<22→0≤((JG[m]?).getD (⟨#[]⟩,0,0,0,0)).2.1∧((JG[m]?).getD (⟨#[]⟩,0,0,0,0)).2.1≤2:=by decide
 exact key m hm
section
theorem T9(n:Nod)(euid egid want:Int):AFn prog 164 [.agg (AW n), .v (.int .i64 euid), .v (.int .i64 egid), .v (.int .i64 want)] (fun r=>r= .v (.bool (EC n euid egid want))):=by
 refine enter Tryz.func164 rfl rfl rfl rfl rfl 0 rfl ?_;refine w_ (b_ (h:=a_ (h:=e_ (q_ (w_ (m_ (h:=BQ (h:=m_ (h:=?_)))))))));refine Aw false rfl rfl (fun hb1=>?_) (fun hb1=>?_)
 ·have hc1:=bp hb1;refine A3 (h:=A3 (h:=AY (h:=e_ (CD (h:=w_ (a_ (h:=e_ (A4 (A9 (?_))))))))));refine AD ?_
  first|(exfalso;first|contradiction|omega)|(exact vb (by first|(simp[EC,EN, *];done)|(simp[EC,EN, *];intro h;exact absurd ((by assumption:euid=n.uid).trans h) (by assumption))))
 have hc1:=bp hb1;refine m_ (h:=Co (h:=Aj (h:=e_ (?_))));refine AA rfl (fun hb2=>?_) (fun hb2=>?_)
 ·have hc2:=bp hb2;refine w_ (a_ (h:=e_ (A4 (A9 (?_)))));refine AD ?_
  first|(exfalso;first|contradiction|omega)|(exact vb (by first|(simp[EC,EN, *];done)|(simp[EC,EN, *];intro h;exact absurd ((by assumption:euid=n.uid).trans h) (by assumption))))
 have hc2:=bp hb2;refine AO (q_ (w_ (m_ (h:=Ah (h:=e_ (?_))))));refine AA rfl (fun hb3=>?_) (fun hb3=>?_)
 ·have hc3:=bp hb3;refine w_ (m_ (h:=Dz (h:=Ah (h:=m_ (h:=?_)))));refine Aw false rfl rfl (fun hb4=>?_) (fun hb4=>?_)
  ·have hc4:=bp hb4;refine A3 (h:=A3 (h:=A3 (h:=AY (h:=m_ (h:=A3 (h:=A3 (h:=A3 (h:=A3 (h:=AY (h:=a_ (h:=e_ (A4 (A9 (?_))))))))))))));refine AD ?_
   first|(exfalso;first|contradiction|omega)|(exact vb (by first|(simp[EC,EN, *];done)|(simp[EC,EN, *];intro h;exact absurd ((by assumption:euid=n.uid).trans h) (by assumption))))
  have hc4:=bp hb4;refine f_ (h:=l_ (h:=Ah (h:=Aj (h:=m_ (h:=?_)))));refine Aw false rfl rfl (fun hb5=>?_) (fun hb5=>?_)
  ·have hc5:=bp hb5;refine A3 (h:=A3 (h:=A3 (h:=A3 (h:=AY (h:=a_ (h:=e_ (A4 (A9 (?_)))))))));refine AD ?_
   first|(exfalso;first|contradiction|omega)|(exact vb (by first|(simp[EC,EN, *];done)|(simp[EC,EN, *];intro h;exact absurd ((by assumption:euid=n.uid).trans h) (by assumption))))
  have hc5:=bp hb5;refine f_ (h:=l_ (h:=Dz (h:=Bf (h:=Aj (h:=a_ (h:=e_ (A4 (A9 (?_)))))))));refine AD ?_
  first|(exfalso;first|contradiction|omega)|(exact vb (by first|(simp[EC,EN, *];done)|(simp[EC,EN, *];intro h;exact absurd ((by assumption:euid=n.uid).trans h) (by assumption))))
 have hc3:=bp hb3;refine AO (w_ (f_ (h:=l_ (h:=Dz (h:=a_ (h:=e_ (q_ (w_ (m_ (h:=f_ (h:=l_ (h:=Ah (h:=e_ (?_))))))))))))));refine AA rfl (fun hb6=>?_) (fun hb6=>?_)
 ·have hc6:=bp hb6;refine AX (f_ (h:=l_ (h:=Qd (h:=Dz (h:=a_ (h:=e_ (w_ (m_ (h:=m_ (h:=Dz (h:=m_ (h:=Ah (h:=a_ (h:=e_ (A4 (?_))))))))))))))));refine AD ?_
  first|(exfalso;first|contradiction|omega)|(exact vb (by first|(simp[EC,EN, *];done)|(simp[EC,EN, *];intro h;exact absurd ((by assumption:euid=n.uid).trans h) (by assumption))))
 have hc6:=bp hb6;refine w_ (m_ (h:=f_ (h:=l_ (h:=Ah (h:=e_ (?_))))));refine AA rfl (fun hb7=>?_) (fun hb7=>?_)
 ·have hc7:=bp hb7;refine AX (f_ (h:=l_ (h:=Qd (h:=Dz (h:=a_ (h:=e_ (w_ (m_ (h:=m_ (h:=Dz (h:=m_ (h:=Ah (h:=a_ (h:=e_ (A4 (?_))))))))))))))));refine AD ?_
  first|(exfalso;first|contradiction|omega)|(exact vb (by first|(simp[EC,EN, *];done)|(simp[EC,EN, *];intro h;exact absurd ((by assumption:euid=n.uid).trans h) (by assumption))))
 have hc7:=bp hb7;refine AO (w_ (m_ (h:=m_ (h:=Dz (h:=m_ (h:=Ah (h:=a_ (h:=e_ (A4 (?_))))))))));refine AD ?_
 first|(exfalso;first|contradiction|omega)|(exact vb (by first|(simp[EC,EN, *];done)|(simp[EC,EN, *];intro h;exact absurd ((by assumption:euid=n.uid).trans h) (by assumption))))
theorem PJ(n:Int):AFn prog 98 [.v (.int .i64 n)] (fun r=>r= .v (.bool (LQ n))):=by
 refine enter Tryz.func98 rfl rfl rfl rfl rfl 0 rfl ?_;refine w_ (a_ (h:=e_ (w_ (m_ (h:=Fz (h:=m_ (h:=?_)))))));refine Aw true rfl rfl (fun hb1=>?_) (fun hb1=>?_)
 ·have hc1:=bp hb1;refine m_ (h:=Kh (h:=AY (h:=a_ (h:=e_ (A4 (?_))))));refine AD ?_
  first|(exfalso;first|contradiction|omega)|(exact vb (by simp[LQ, *]))
 have hc1:=bp hb1;refine A3 (h:=A3 (h:=Aj (h:=a_ (h:=e_ (A4 (?_))))));refine AD ?_
 first|(exfalso;first|contradiction|omega)|(exact vb (by simp[LQ, *]))
theorem TA:AFn prog 130 [] (fun r=>r= .sl 5 (JG.map JJ) none):=by
 refine enter Tryz.func130 rfl rfl rfl rfl rfl 0 rfl ?_;refine w_ (a_ (h:=e_ (w_ (Aa (h:=Aa (h:=Aa (h:=Aa (h:=Aa (h:=Aa (h:=Aa (h:=Aa (h:=Aa (h:=Aa (h:=Aa (h:=Aa (h:=Aa (h:=Aa (h:=Aa (h:=Aa (h:=Aa (h:=Aa (h:=Aa (h:=Aa (h:=?_))))))))))))))))))))))));refine Aa (h:=Aa (h:=CR (h:=a_ (h:=e_ (A4 (?_))))));refine AD ?_;rfl
theorem Yu:AFn prog 129 [] (fun r=>r= .v (.int .i64 22)):=by
 refine enter Tryz.func129 rfl rfl rfl rfl rfl 0 rfl ?_;refine w_ (a_ (h:=e_ (w_ (?_))));refine A8 rfl (AN (TA) ?_);rintro r rfl;refine n_ (h:=a_ (h:=e_ (A4 (?_))));refine AD ?_;rfl
theorem Yv(n:Int):AFn prog 94 [.v (.int .i64 n)] (fun r=>r= .agg (JJ (Dc n))):=by
 refine enter Tryz.func94 rfl rfl rfl rfl rfl 0 rfl ?_;refine w_ (Ak (h:=e_ (q_ (w_ (m_ (h:=BQ (h:=m_ (h:=?_))))))));refine Aw false rfl rfl (fun hb1=>?_) (fun hb1=>?_)
 ·have hc1:=bp hb1;refine A3 (h:=A3 (h:=A3 (h:=AY (h:=e_ (CD (h:=w_ (Aa (h:=s_ (h:=e_ (A4 (A9 (?_))))))))))));refine AD ?_;rw[Dc,if_pos (by omega)];rfl
 have hc1:=bp hb1;refine m_ (h:=?_);refine Ax (AN (Yu) ?_);rintro r rfl;refine Fz (h:=Aj (h:=e_ (?_)));refine AA rfl (fun hb2=>?_) (fun hb2=>?_)
 ·have hc2:=bp hb2;refine w_ (Aa (h:=s_ (h:=e_ (A4 (A9 (?_))))));refine AD ?_;rw[Dc,if_pos (by omega)];rfl
 have hc2:=bp hb2;refine AO (w_ (?_));refine A8 rfl (AN (TA) ?_);rintro r rfl;obtain⟨m,rfl⟩:=Int.eq_ofNat_of_zero_le (show 0≤n by omega);obtain⟨row,hrow⟩:∃row,JG[m]?=some row:=⟨JG[m]'(by show m<22;omega),BG (by show m<22;omega)⟩;have hrow2:(JG.map JJ)[m]?=some (JJ row):=by rw[List.getElem?_map,hrow];rfl
 refine m_ (h:=?_);refine A8 rfl (DZ (n:=m) rfl rfl rfl hrow2 ?_);refine l_ (h:=s_ (h:=e_ (A4 (?_))));refine AD ?_;rw[Dc,if_neg (by omega),Int.toNat_natCast,hrow];rfl
theorem Yw(c:Cal)(hp:c.paths.length≤1000)(ha:c.args.length≤1000):AFn prog 61 [.agg (E5 c)] (fun r=>r= .v (.int .i64 (BZ c))):=by
 obtain⟨n0,hn0⟩:=Int.eq_ofNat_of_zero_le (T8 c.num).1;have hpl:(c.paths.map Eu).length=c.paths.length:=List.length_map _;have hal:(c.args.map Eu).length=c.args.length:=List.length_map _;have hn2:n0≤2:=by have:=(T8 c.num).2;omega
 refine enter Tryz.func61 rfl rfl rfl rfl rfl 0 rfl ?_;refine w_ (b_ (h:=a_ (h:=e_ (w_ (f_ (h:=l_ (h:=?_)))))));refine A8 rfl (AN (Yv c.num) ?_);rintro r rfl;refine Ak (h:=s_ (h:=e_ (q_ (w_ (f_ (h:=l_ (h:=Ah (h:=e_ (?_)))))))));refine AA rfl (fun hb1=>?_) (fun hb1=>?_)
 ·have hc1:=bp hb1;refine w_ (a_ (h:=e_ (A4 (A9 (?_)))));refine AD ?_
  first|(exfalso;first|contradiction|omega)|(exact vi (by first|(rw[BZ,if_pos hc1];done)|(rw[BZ,if_neg hc1,if_pos hany];done)|(rw[BZ,if_neg hc1,if_neg (by rw[hany];simp),if_pos (by omega)];done)|(rw[BZ,if_neg hc1,if_neg (by rw[hany];simp),if_neg (by omega),if_pos hany2];done)|(rw[BZ,if_neg hc1,if_neg (by rw[hany];simp),if_neg (by omega),if_neg (by rw[hany2];simp),if_pos hany3];done)|(rw[BZ,if_neg hc1,if_neg (by rw[hany];simp),if_neg (by omega),if_neg (by rw[hany2];simp),if_neg (by rw[hany3];simp)];done)))
 have hc1:=bp hb1;refine AO (q_ (w_ (f_ (h:=l_ (h:=a_ (h:=e_ (Ap (?_))))))));refine By (fun m s=>∃j:Nat,n0≤j∧j≤4∧m=4 - j∧(∀i x,n0≤i→i<j→(Jt c)[i]?=some x→x=0)∧s=⟨look [(1, .bp 0 0),(3, .bp 1 0),(4, .v (.int .i64 (j:Int)))],⟨[E5 c,JJ (Dc c.num)],[]⟩⟩) (4 - n0) (by rw[←hn0];exact(wk 2 0)) (⟨n0,Av _,by omega,rfl,fun i x h1 h2=>by omega,rfl⟩) ?_;rintro m s ⟨j,hlo,hj,rfl,hz,rfl⟩;refine q_ (w_ (m_ (h:=BQ (h:=e_ (?_)))));refine AA rfl (fun hb2=>?_) (fun hb2=>?_)
 ·have hc2:=bp hb2;obtain⟨x,hy,hrx⟩:=Yr (c:=c) (j:=j) (by omega);refine AO (q_ (Ap (w_ (m_ (h:=f_ (h:=?_))))));refine A8 rfl (E6 (len:=4) (sz:=1) (n:=j) (by kernel_rfl) rfl rfl rfl (Yq (by omega)) ?_);refine A8 rfl (Bd rfl rfl (by rw[show 1+j * 1=1+j by omega];exact hrx) ?_);refine Bf (h:=e_ (?_));refine AA rfl (fun hb3=>?_) (fun hb3=>?_)
  ·have hc3:=bp hb3;have hany:(((Jt c).drop (Dc c.num).2.1.toNat).any fun x=>decide (x≠0))=true:=by rw[hn0,Int.toNat_natCast];exact Ys hlo hy hc3
   refine w_ (a_ (h:=e_ (A4 (Ab (A9 (A9 (Ab (A9 (?_)))))))));refine AD ?_
   first|(exfalso;first|contradiction|omega)|(exact vi (by first|(rw[BZ,if_pos hc1];done)|(rw[BZ,if_neg hc1,if_pos hany];done)|(rw[BZ,if_neg hc1,if_neg (by rw[hany];simp),if_pos (by omega)];done)|(rw[BZ,if_neg hc1,if_neg (by rw[hany];simp),if_neg (by omega),if_pos hany2];done)|(rw[BZ,if_neg hc1,if_neg (by rw[hany];simp),if_neg (by omega),if_neg (by rw[hany2];simp),if_pos hany3];done)|(rw[BZ,if_neg hc1,if_neg (by rw[hany];simp),if_neg (by omega),if_neg (by rw[hany2];simp),if_neg (by rw[hany3];simp)];done)))
  have hc3:=bp hb3;have hx0:x=0:=by simpa using hc3
  refine BH (Ay (t_ (AX (m_ (h:=BB (h:=a_ (h:=AT (?_))))))));refine AG ?_
  refine⟨_,_,?_,⟨j+1,by omega,by omega,rfl,(fun i x h1 h2 h3=>by
   by_cases e:i=j
   ·subst e;rw[hy]at h3;injection h3 with h3;rw[←h3];exact hx0
   exact hz i x h1 (by omega) h3),rfl⟩,(wk 2 0)⟩
  omega
 have hc2:=bp hb2
 have hany:(((Jt c).drop (Dc c.num).2.1.toNat).any fun x=>decide (x≠0))=false:=by
  rw[hn0,Int.toNat_natCast];refine Yt fun i x h1 h2=>hz i x h1 ?_ h2;have:=(Ag.1 h2).1;have h4:(Jt c).length=4:=rfl;omega
 refine Ba (Ao (Ao (Bb (t_ (q_ (w_ (f_ (h:=l_ (h:=n_ (h:=f_ (h:=l_ (h:=Bf (h:=m_ (h:=?_))))))))))))));refine Aw false rfl rfl (fun hb4=>?_) (fun hb4=>?_)
 ·have hc4:=bp hb4;refine A3 (h:=A3 (h:=A3 (h:=A3 (h:=A3 (h:=A3 (h:=AY (h:=m_ (h:=A3 (h:=A3 (h:=A3 (h:=A3 (h:=A3 (h:=A3 (h:=AY (h:=e_ (CD (h:=w_ (a_ (h:=e_ (A4 (A9 (?_))))))))))))))))))))));refine AD ?_
  first|(exfalso;first|contradiction|omega)|(exact vi (by first|(rw[BZ,if_pos hc1];done)|(rw[BZ,if_neg hc1,if_pos hany];done)|(rw[BZ,if_neg hc1,if_neg (by rw[hany];simp),if_pos (by omega)];done)|(rw[BZ,if_neg hc1,if_neg (by rw[hany];simp),if_neg (by omega),if_pos hany2];done)|(rw[BZ,if_neg hc1,if_neg (by rw[hany];simp),if_neg (by omega),if_neg (by rw[hany2];simp),if_pos hany3];done)|(rw[BZ,if_neg hc1,if_neg (by rw[hany];simp),if_neg (by omega),if_neg (by rw[hany2];simp),if_neg (by rw[hany3];simp)];done)))
 have hc4:=bp hb4;refine f_ (h:=l_ (h:=n_ (h:=f_ (h:=l_ (h:=BQ (h:=Aj (h:=m_ (h:=?_))))))));refine Aw false rfl rfl (fun hb5=>?_) (fun hb5=>?_)
 ·have hc5:=bp hb5;refine A3 (h:=A3 (h:=A3 (h:=A3 (h:=A3 (h:=A3 (h:=AY (h:=e_ (CD (h:=w_ (a_ (h:=e_ (A4 (A9 (?_))))))))))))));refine AD ?_
  first|(exfalso;first|contradiction|omega)|(exact vi (by first|(rw[BZ,if_pos hc1];done)|(rw[BZ,if_neg hc1,if_pos hany];done)|(rw[BZ,if_neg hc1,if_neg (by rw[hany];simp),if_pos (by omega)];done)|(rw[BZ,if_neg hc1,if_neg (by rw[hany];simp),if_neg (by omega),if_pos hany2];done)|(rw[BZ,if_neg hc1,if_neg (by rw[hany];simp),if_neg (by omega),if_neg (by rw[hany2];simp),if_pos hany3];done)|(rw[BZ,if_neg hc1,if_neg (by rw[hany];simp),if_neg (by omega),if_neg (by rw[hany2];simp),if_neg (by rw[hany3];simp)];done)))
 have hc5:=bp hb5;refine f_ (h:=l_ (h:=n_ (h:=f_ (h:=l_ (h:=Co (h:=Aj (h:=e_ (?_))))))));refine AA rfl (fun hb6=>?_) (fun hb6=>?_)
 ·have hc6:=bp hb6;refine w_ (a_ (h:=e_ (A4 (A9 (?_)))));refine AD ?_
  first|(exfalso;first|contradiction|omega)|(exact vi (by first|(rw[BZ,if_pos hc1];done)|(rw[BZ,if_neg hc1,if_pos hany];done)|(rw[BZ,if_neg hc1,if_neg (by rw[hany];simp),if_pos (by omega)];done)|(rw[BZ,if_neg hc1,if_neg (by rw[hany];simp),if_neg (by omega),if_pos hany2];done)|(rw[BZ,if_neg hc1,if_neg (by rw[hany];simp),if_neg (by omega),if_neg (by rw[hany2];simp),if_pos hany3];done)|(rw[BZ,if_neg hc1,if_neg (by rw[hany];simp),if_neg (by omega),if_neg (by rw[hany2];simp),if_neg (by rw[hany3];simp)];done)))
 have hc6:=bp hb6;refine AO (q_ (w_ (a_ (h:=e_ (Ap (?_))))));refine By (fun m s=>∃j:Nat,j≤c.paths.length∧m=c.paths.length - j∧(∀i y,i<j→c.paths[i]?=some y→decide (128<y.size)=false)∧s=⟨look [(1, .bp 0 0),(3, .bp 1 0),(5, .v (.int .i64 (j:Int)))],⟨[E5 c,JJ (Dc c.num)],[]⟩⟩) (c.paths.length) ((wk 2 0)) (⟨0,BC _,rfl,fun i y hi=>by omega,rfl⟩) ?_;rintro m s ⟨j,hj,rfl,ha1,rfl⟩;refine q_ (w_ (m_ (h:=f_ (h:=l_ (h:=n_ (h:=BQ (h:=e_ (?_))))))));refine AA rfl (fun hb7=>?_) (fun hb7=>?_)
 ·have hc7:=bp hb7;obtain⟨hlt,y,hy,hrow, -⟩:=Cp Eu hc7;refine AO (q_ (Ap (w_ (f_ (h:=l_ (h:=m_ (h:=i_ (h:=l_ (h:=n_ (h:=Co (h:=e_ (?_))))))))))));refine AA rfl (fun hb8=>?_) (fun hb8=>?_)
  ·have hc8:=bp hb8;have hany2:(c.paths.any fun p=>decide (128<p.size))=true:=O2 hy (by simp;omega);refine w_ (a_ (h:=e_ (A4 (Ab (A9 (A9 (Ab (A9 (?_)))))))));refine AD ?_
   first|(exfalso;first|contradiction|omega)|(exact vi (by first|(rw[BZ,if_pos hc1];done)|(rw[BZ,if_neg hc1,if_pos hany];done)|(rw[BZ,if_neg hc1,if_neg (by rw[hany];simp),if_pos (by omega)];done)|(rw[BZ,if_neg hc1,if_neg (by rw[hany];simp),if_neg (by omega),if_pos hany2];done)|(rw[BZ,if_neg hc1,if_neg (by rw[hany];simp),if_neg (by omega),if_neg (by rw[hany2];simp),if_pos hany3];done)|(rw[BZ,if_neg hc1,if_neg (by rw[hany];simp),if_neg (by omega),if_neg (by rw[hany2];simp),if_neg (by rw[hany3];simp)];done)))
  have hc8:=bp hb8;refine BH (Ay (t_ (AX (m_ (h:=BB (h:=a_ (h:=AT (?_))))))));refine AG ?_;refine⟨_,_,?_,⟨j+1,by omega,rfl,Eb hy ha1 (by simp;omega),rfl⟩,(wk 2 0)⟩;omega
 have hc7:=bp hb7;have e:=D0 Eu hj hc7;have hany2:(c.paths.any fun p=>decide (128<p.size))=false:=O3 (by rw[←e];exact ha1);refine Ba (Ao (Ao (Bb (t_ (q_ (w_ (a_ (h:=e_ (Ap (?_))))))))));refine By (fun m s=>∃j:Nat,j≤c.args.length∧m=c.args.length - j∧(∀i y,i<j→c.args[i]?=some y→decide (64<y.size)=false)∧s=⟨look [(1, .bp 0 0),(3, .bp 1 0),(6, .v (.int .i64 (j:Int)))],⟨[E5 c,JJ (Dc c.num)],[]⟩⟩) (c.args.length) ((wk 2 0)) (⟨0,BC _,rfl,fun i y hi=>by omega,rfl⟩) ?_;rintro m s ⟨j3,hj3,rfl,ha3,rfl⟩;refine q_ (w_ (m_ (h:=f_ (h:=l_ (h:=n_ (h:=BQ (h:=e_ (?_))))))));refine AA rfl (fun hb9=>?_) (fun hb9=>?_)
 ·have hc9:=bp hb9;obtain⟨hlt,y,hy,hrow, -⟩:=Cp Eu hc9;refine AO (q_ (Ap (w_ (f_ (h:=l_ (h:=m_ (h:=i_ (h:=l_ (h:=n_ (h:=Co (h:=e_ (?_))))))))))));refine AA rfl (fun hb10=>?_) (fun hb10=>?_)
  ·have hc10:=bp hb10;have hany3:(c.args.any fun p=>decide (64<p.size))=true:=O2 hy (by simp;omega);refine w_ (a_ (h:=e_ (A4 (Ab (A9 (A9 (Ab (A9 (?_)))))))));refine AD ?_
   first|(exfalso;first|contradiction|omega)|(exact vi (by first|(rw[BZ,if_pos hc1];done)|(rw[BZ,if_neg hc1,if_pos hany];done)|(rw[BZ,if_neg hc1,if_neg (by rw[hany];simp),if_pos (by omega)];done)|(rw[BZ,if_neg hc1,if_neg (by rw[hany];simp),if_neg (by omega),if_pos hany2];done)|(rw[BZ,if_neg hc1,if_neg (by rw[hany];simp),if_neg (by omega),if_neg (by rw[hany2];simp),if_pos hany3];done)|(rw[BZ,if_neg hc1,if_neg (by rw[hany];simp),if_neg (by omega),if_neg (by rw[hany2];simp),if_neg (by rw[hany3];simp)];done)))
  have hc10:=bp hb10;refine BH (Ay (t_ (AX (m_ (h:=BB (h:=a_ (h:=AT (?_))))))));refine AG ?_;refine⟨_,_,?_,⟨j3+1,by omega,rfl,Eb hy ha3 (by simp;omega),rfl⟩,(wk 2 0)⟩;omega
 have hc9:=bp hb9;have e3:=D0 Eu hj3 hc9;have hany3:(c.args.any fun p=>decide (64<p.size))=false:=O3 (by rw[←e3];exact ha3);refine Ba (Ao (Ao (Bb (t_ (w_ (a_ (h:=e_ (A4 (?_)))))))));refine AD ?_
 first|(exfalso;first|contradiction|omega)|(exact vi (by first|(rw[BZ,if_pos hc1];done)|(rw[BZ,if_neg hc1,if_pos hany];done)|(rw[BZ,if_neg hc1,if_neg (by rw[hany];simp),if_pos (by omega)];done)|(rw[BZ,if_neg hc1,if_neg (by rw[hany];simp),if_neg (by omega),if_pos hany2];done)|(rw[BZ,if_neg hc1,if_neg (by rw[hany];simp),if_neg (by omega),if_neg (by rw[hany2];simp),if_pos hany3];done)|(rw[BZ,if_neg hc1,if_neg (by rw[hany];simp),if_neg (by omega),if_neg (by rw[hany2];simp),if_neg (by rw[hany3];simp)];done)))
theorem Yx(c:Cal):AFn prog 95 [.agg (E5 c)] (fun r=>r= .sl 1 ((CJ c).map CQ) none):=by
 refine enter Tryz.func95 rfl rfl rfl rfl rfl 0 rfl ?_;refine w_ (b_ (h:=a_ (h:=e_ (q_ (w_ (f_ (h:=l_ (h:=e_ (Ap (w_ (Ah (h:=a_ (h:=e_ (?_))))))))))))));refine AA rfl (fun hb1=>?_) (fun hb1=>?_)
 ·have hc1:=bp hb1;refine w_ (CR (h:=a_ (h:=e_ (A4 (Ab (A9 (?_)))))));refine AD ?_
  first|(exfalso;first|contradiction|omega)|(simp only[CJ,Br];first|(simp[*,CQ];done)|(simp[*,CQ];rfl))
 have hc1:=bp hb1;refine w_ (Ah (h:=a_ (h:=e_ (?_))));refine AA rfl (fun hb2=>?_) (fun hb2=>?_)
 ·have hc2:=bp hb2;refine w_ (a_ (h:=e_ (q_ (w_ (f_ (h:=?_))))));refine A8 rfl (E6 (len:=4) (sz:=1) (n:=0) (by kernel_rfl) rfl rfl rfl rfl ?_);refine l_ (h:=Dz (h:=Bf (h:=e_ (?_))));refine AA rfl (fun hb3=>?_) (fun hb3=>?_)
  ·have hc3:=bp hb3;refine AX (m_ (h:=BB (h:=a_ (h:=e_ (q_ (w_ (f_ (h:=?_))))))));refine A8 rfl (E6 (len:=4) (sz:=1) (n:=0) (by kernel_rfl) rfl rfl rfl rfl ?_);refine l_ (h:=Dz (h:=Bf (h:=e_ (?_))));refine AA rfl (fun hb4=>?_) (fun hb4=>?_)
   ·have hc4:=bp hb4;refine AX (m_ (h:=BB (h:=a_ (h:=e_ (w_ (m_ (h:=CR (h:=a_ (h:=e_ (A4 (Ab (A9 (?_)))))))))))));refine AD ?_
    first|(exfalso;first|contradiction|omega)|(simp only[CJ,Br];first|(simp[*,CQ];done)|(simp[*,CQ];rfl))
   have hc4:=bp hb4;refine AO (w_ (m_ (h:=CR (h:=a_ (h:=e_ (A4 (Ab (A9 (?_)))))))));refine AD ?_
   first|(exfalso;first|contradiction|omega)|(simp only[CJ,Br];first|(simp[*,CQ];done)|(simp[*,CQ];rfl))
  have hc3:=bp hb3;refine AO (q_ (w_ (f_ (h:=?_))));refine A8 rfl (E6 (len:=4) (sz:=1) (n:=0) (by kernel_rfl) rfl rfl rfl rfl ?_);refine l_ (h:=Dz (h:=Bf (h:=e_ (?_))));refine AA rfl (fun hb5=>?_) (fun hb5=>?_)
  ·have hc5:=bp hb5;refine AX (m_ (h:=BB (h:=a_ (h:=e_ (w_ (m_ (h:=CR (h:=a_ (h:=e_ (A4 (Ab (A9 (?_)))))))))))));refine AD ?_
   first|(exfalso;first|contradiction|omega)|(simp only[CJ,Br];first|(simp[*,CQ];done)|(simp[*,CQ];rfl))
  have hc5:=bp hb5;refine AO (w_ (m_ (h:=CR (h:=a_ (h:=e_ (A4 (Ab (A9 (?_)))))))));refine AD ?_
  first|(exfalso;first|contradiction|omega)|(simp only[CJ,Br];first|(simp[*,CQ];done)|(simp[*,CQ];rfl))
 have hc2:=bp hb2;refine w_ (Ah (h:=a_ (h:=e_ (?_))));refine AA rfl (fun hb6=>?_) (fun hb6=>?_)
 ·have hc6:=bp hb6;refine w_ (CR (h:=a_ (h:=e_ (A4 (Ab (A9 (?_)))))));refine AD ?_
  first|(exfalso;first|contradiction|omega)|(simp only[CJ,Br];first|(simp[*,CQ];done)|(simp[*,CQ];rfl))
 have hc6:=bp hb6;refine w_ (Ah (h:=a_ (h:=e_ (?_))));refine AA rfl (fun hb7=>?_) (fun hb7=>?_)
 ·have hc7:=bp hb7;refine w_ (CR (h:=a_ (h:=e_ (A4 (Ab (A9 (?_)))))));refine AD ?_
  first|(exfalso;first|contradiction|omega)|(simp only[CJ,Br];first|(simp[*,CQ];done)|(simp[*,CQ];rfl))
 have hc7:=bp hb7;refine q_ (w_ (Ah (h:=a_ (h:=e_ (?_)))));refine AA rfl (fun hb8=>?_) (fun hb8=>?_)
 ·have hc8:=bp hb8;refine AO (CD (h:=w_ (CR (h:=a_ (h:=e_ (A4 (Ab (A9 (?_)))))))));refine AD ?_
  first|(exfalso;first|contradiction|omega)|(simp only[CJ,Br];first|(simp[*,CQ];done)|(simp[*,CQ];rfl))
 have hc8:=bp hb8;refine w_ (Ah (h:=a_ (h:=e_ (?_))));refine AA rfl (fun hb9=>?_) (fun hb9=>?_)
 ·have hc9:=bp hb9;refine AO (CD (h:=w_ (CR (h:=a_ (h:=e_ (A4 (Ab (A9 (?_)))))))));refine AD ?_
  first|(exfalso;first|contradiction|omega)|(simp only[CJ,Br];first|(simp[*,CQ];done)|(simp[*,CQ];rfl))
 have hc9:=bp hb9;refine AX (Ah (h:=a_ (h:=e_ (?_))));refine AA rfl (fun hb10=>?_) (fun hb10=>?_)
 ·have hc10:=bp hb10;refine w_ (CR (h:=a_ (h:=e_ (A4 (Ab (A9 (?_)))))));refine AD ?_
  first|(exfalso;first|contradiction|omega)|(simp only[CJ,Br];first|(simp[*,CQ];done)|(simp[*,CQ];rfl))
 have hc10:=bp hb10;refine w_ (Ah (h:=a_ (h:=e_ (?_))));refine AA rfl (fun hb11=>?_) (fun hb11=>?_)
 ·have hc11:=bp hb11;refine w_ (CR (h:=a_ (h:=e_ (A4 (Ab (A9 (?_)))))));refine AD ?_
  first|(exfalso;first|contradiction|omega)|(simp only[CJ,Br];first|(simp[*,CQ];done)|(simp[*,CQ];rfl))
 have hc11:=bp hb11;refine BH (Ay (t_ (w_ (CR (h:=a_ (h:=e_ (A4 (?_))))))));refine AD ?_
 first|(exfalso;first|contradiction|omega)|(simp only[CJ,Br];first|(simp[*,CQ];done)|(simp[*,CQ];rfl))
theorem Yy(c:Cal):AFn prog 96 [.agg (E5 c)] (fun r=>r= .v (.bool (CK c))):=by
 refine enter Tryz.func96 rfl rfl rfl rfl rfl 0 rfl ?_;refine w_ (b_ (h:=a_ (h:=e_ (q_ (w_ (f_ (h:=l_ (h:=e_ (Ap (w_ (Ah (h:=a_ (h:=e_ (?_))))))))))))));refine AA rfl (fun hb1=>?_) (fun hb1=>?_)
 ·have hc1:=bp hb1;refine w_ (f_ (h:=?_));refine A8 rfl (E6 (len:=4) (sz:=1) (n:=0) (by kernel_rfl) rfl rfl rfl rfl ?_);refine l_ (h:=Dz (h:=Ah (h:=a_ (h:=e_ (A4 (Ab (A9 (?_))))))));refine AD ?_
  first|(exfalso;first|contradiction|omega)|(exact vb (by simp[CK, *]))
 have hc1:=bp hb1;refine q_ (w_ (Ah (h:=a_ (h:=e_ (?_)))));refine AA rfl (fun hb2=>?_) (fun hb2=>?_)
 ·have hc2:=bp hb2;refine AO (CD (h:=w_ (a_ (h:=e_ (A4 (Ab (A9 (?_))))))));refine AD ?_
  first|(exfalso;first|contradiction|omega)|(exact vb (by simp[CK, *]))
 have hc2:=bp hb2;refine w_ (Ah (h:=a_ (h:=e_ (?_))));refine AA rfl (fun hb3=>?_) (fun hb3=>?_)
 ·have hc3:=bp hb3;refine AO (CD (h:=w_ (a_ (h:=e_ (A4 (Ab (A9 (?_))))))));refine AD ?_
  first|(exfalso;first|contradiction|omega)|(exact vb (by simp[CK, *]))
 have hc3:=bp hb3;refine w_ (Ah (h:=a_ (h:=e_ (?_))));refine AA rfl (fun hb4=>?_) (fun hb4=>?_)
 ·have hc4:=bp hb4;refine AO (CD (h:=w_ (a_ (h:=e_ (A4 (Ab (A9 (?_))))))));refine AD ?_
  first|(exfalso;first|contradiction|omega)|(exact vb (by simp[CK, *]))
 have hc4:=bp hb4;refine w_ (Ah (h:=a_ (h:=e_ (?_))));refine AA rfl (fun hb5=>?_) (fun hb5=>?_)
 ·have hc5:=bp hb5;refine AO (CD (h:=w_ (a_ (h:=e_ (A4 (Ab (A9 (?_))))))));refine AD ?_
  first|(exfalso;first|contradiction|omega)|(exact vb (by simp[CK, *]))
 have hc5:=bp hb5;refine w_ (Ah (h:=a_ (h:=e_ (?_))));refine AA rfl (fun hb6=>?_) (fun hb6=>?_)
 ·have hc6:=bp hb6;refine AO (CD (h:=w_ (a_ (h:=e_ (A4 (Ab (A9 (?_))))))));refine AD ?_
  first|(exfalso;first|contradiction|omega)|(exact vb (by simp[CK, *]))
 have hc6:=bp hb6;refine AX (Ah (h:=a_ (h:=e_ (?_))));refine AA rfl (fun hb7=>?_) (fun hb7=>?_)
 ·have hc7:=bp hb7;refine w_ (a_ (h:=e_ (A4 (Ab (A9 (?_))))));refine AD ?_
  first|(exfalso;first|contradiction|omega)|(exact vb (by simp[CK, *]))
 have hc7:=bp hb7;refine BH (Ay (t_ (w_ (a_ (h:=e_ (A4 (?_)))))));refine AD ?_
 first|(exfalso;first|contradiction|omega)|(exact vb (by simp[CK, *]))
end
theorem FV(s:ByteArray):s.toList=s.data.toList:=Lib.toList_data s
theorem TB{a b:ByteArray}(h:a.data.toList=b.data.toList):a=b:=by
 cases a;cases b;simp at h;simp[h]
theorem Yz{a b:ByteArray}:a.data.toList=b.data.toList↔a=b:=⟨TB,fun h=>by rw[h]⟩
theorem Z0(a b:ByteArray):(a.toList==b.toList)=decide (a=b):=by
 rw[FV,FV,Bool.eq_iff_iff,beq_iff_eq,decide_eq_true_iff];exact Yz
theorem TC(s:ByteArray):s.toList.isEmpty=decide (s.size=0):=by
 rw[FV,Lib.size_eq,Bool.eq_iff_iff,List.isEmpty_iff,decide_eq_true_iff,List.length_eq_zero_iff]
set_option maxRecDepth 100000 in
set_option maxHeartbeats 400000 in
theorem PK(s:ByteArray)(w:World):
    Calls prog 170 #[.string s, .string ⟨#[47]⟩] w fun e w'=>e= .returned (.int .i64 (Lib.indexByte s.data.toList 47))∧w=w':=by
 by_cases h:s=⟨#[47]⟩
 ·subst h
  go_enter Tryz.func170,Tryz.ntmps170
  go_wp2
  go_ret
  exact⟨rfl,rfl⟩
 have h1:([47]==s.toList)=false:=by
  have:=Z0 ⟨#[47]⟩ s;rw[decide_eq_false (fun e=>h e.symm),FV ⟨#[47]⟩]at this;exact this
 go_enter Tryz.func170,Tryz.ntmps170
 go_wp2_with (go_at_call 177;refine(Tryz.stringslite_IndexByte _ _ _).mono ?_;rintro e w' ⟨rfl,rfl⟩)
 go_ret
 exact⟨rfl,rfl⟩
theorem Z1(s:ByteArray)(w:World):
    Calls prog 155 #[.string s, .string ⟨#[47]⟩] w fun e w'=>e= .returned (.int .i64 (Lib.indexByte s.data.toList 47))∧w=w':=by
 go_enter Tryz.func155,Tryz.ntmps155
 go_wp2_with (go_at_call 170;refine(PK _ _).mono ?_;rintro e w' ⟨rfl,rfl⟩)
 go_ret
 exact⟨rfl,rfl⟩
theorem PL{l:Bs}(h:(47:UInt8)∈l):∃i:Nat,Lib.indexByte l 47=i∧i<l.length∧l=l.take i++47::l.drop (i+1)∧(47:UInt8)∉l.take i:=by
 have hge:=Lib.indexByte_ge l 47;by_cases hm:Lib.indexByte l 47= -1
 ·have:=Lib.indexByte_none hm;obtain⟨k,hk⟩:=List.mem_iff_getElem?.1 h;exact absurd hk (this k)
 obtain⟨i,hi⟩:=Int.eq_ofNat_of_zero_le (show 0≤Lib.indexByte l 47 by omega);obtain⟨h1,h2⟩:=Lib.indexByte_some hi;have hlt:i<l.length:=(Ag.1 h1).1;refine⟨i,hi,hlt,?_,?_⟩
 ·have h3:l[i]=47:=(Ag.1 h1).2;rw[←h3,List.getElem_cons_drop,List.take_append_drop]
 intro hmem;obtain⟨k,hk⟩:=List.mem_iff_getElem?.1 hmem;rw[List.getElem?_take]at hk;split at hk
 ·exact h2 k (by assumption) hk
 cases hk
theorem TD{l:Bs}(h:(47:UInt8)∉l):Lib.indexByte l 47= -1:=by
 have hge:=Lib.indexByte_ge l 47;by_cases hm:Lib.indexByte l 47= -1
 ·exact hm
 obtain⟨i,hi⟩:=Int.eq_ofNat_of_zero_le (show 0≤Lib.indexByte l 47 by omega);obtain⟨h1,_⟩:=Lib.indexByte_some hi;exact absurd (Au h1) h
theorem Z2(r:Int)(h0:128≤r)(h1:Lib.validRune r=true):
    (∃a b:UInt8,Utf8.encode r=⟨#[a,b]⟩∧128≤b.toNat)∨(∃a b c:UInt8,Utf8.encode r=⟨#[a,b,c]⟩)∨(∃a b c d:UInt8,Utf8.encode r=⟨#[a,b,c,d]⟩):=by
 have hv:Utf8.valid r=true:=by
  have:=of_decide_eq_true h1;unfold Utf8.valid;simp only[Bool.or_eq_true,Bool.and_eq_true,decide_eq_true_iff];omega
 unfold Utf8.encode;simp only[hv,if_true];have hn:¬r.toNat<128:=by omega
 rw[if_neg hn];by_cases h2:r.toNat<2048
 ·rw[if_pos h2];refine .inl ⟨_,_,rfl,?_⟩;simp only[UInt8.toNat_ofNat'];omega
 rw[if_neg h2];by_cases h3:r.toNat<65536
 ·rw[if_pos h3];exact .inr (.inl ⟨_,_,_,rfl⟩)
 rw[if_neg h3];exact .inr (.inr ⟨_,_,_,_,rfl⟩)
set_option maxRecDepth 1000000 in
set_option maxHeartbeats 2000000 in
theorem Z3(r:Int)(w:World)(h0:128≤r)(h1:r≤2147483647)(h2:r≠65533)(hv:Lib.validRune r=false):
    Calls prog 171 #[.string ⟨#[0,47]⟩, .int .i32 r] w fun e w'=>e= .returned (.int .i64 (-1))∧w=w':=by
 have h2':(r==65533)=false:=by simpa using h2
 go_enter Tryz.func171,Tryz.ntmps171
 go_wp2_with (go_at_call 182;refine(Tryz.utf8_ValidRune _ _).mono ?_;rintro e w' ⟨rfl,rfl⟩;rw[hv])
 go_ret
 exact⟨rfl,rfl⟩
set_option maxRecDepth 1000000 in
set_option maxHeartbeats 2000000 in
theorem Z4(r:Int)(w:World)(h0:128≤r)(h1:r≤2147483647)(h2:r≠65533)(hv:Lib.validRune r=true):
    Calls prog 171 #[.string ⟨#[0,47]⟩, .int .i32 r] w fun e w'=>e= .returned (.int .i64 (-1))∧Below w.heap.size w w':=by
 have h2':(r==65533)=false:=by simpa using h2
 have hlt:decide (r<128)=false:=by simpa using h0
 rcases Z2 r h0 hv with⟨a,b,he,hb⟩|⟨a,b,c,he⟩|⟨a,b,c,d,he⟩
 ·have hne:((((⟨#[0,47]⟩:ByteArray)[1]'(by decide)).toNat:Int) != (((⟨#[a,b]⟩:ByteArray)[1]'(by show 1<2;decide)).toNat:Int))=true:=by
     show((47:Int) != (b.toNat:Int))=true;rw[bne_iff_ne];omega
  go_enter Tryz.func171,Tryz.ntmps171
  go_wp2_with (go_at_call 182;refine(Tryz.utf8_ValidRune _ _).mono ?_;rintro e w' ⟨rfl,rfl⟩;rw[hv])
  go_step3
  go_wp2
  refine wp_loop_rounds 1 ?_;rw[rounds_succ]
  go_wp2
  go_step3
  go_wp2
  go_quiet (fail)
  have hb:=MF (Below.refl w'.heap.size w') nq;generalize w'.drewN nq=wq at *
  go_wp2
  go_quiet ((go_at_call 181;exact Calls.quiet_of_same (Tryz.strings_IndexByte _ _ _)))
  go_wp2
  rw[Exit.noGoto_ret]
  go_wp2
  rw[Exit.noGoto_ret]
  go_wp2
  go_ret
  exact⟨rfl,MF hb _⟩
 ·go_enter Tryz.func171,Tryz.ntmps171
  go_wp2_with (go_at_call 182;refine(Tryz.utf8_ValidRune _ _).mono ?_;rintro e w' ⟨rfl,rfl⟩;rw[hv])
  go_step3
  go_wp2
  refine wp_loop_rounds 1 ?_;rw[rounds_succ]
  go_wp2
  rw[Exit.noGoto_ret]
  go_wp2
  go_ret
  exact⟨rfl,Below.refl _ _⟩
 go_enter Tryz.func171,Tryz.ntmps171
 go_wp2_with (go_at_call 182;refine(Tryz.utf8_ValidRune _ _).mono ?_;rintro e w' ⟨rfl,rfl⟩;rw[hv])
 go_step3
 go_wp2
 refine wp_loop_rounds 1 ?_;rw[rounds_succ]
 go_wp2
 rw[Exit.noGoto_ret]
 go_wp2
 go_ret
 exact⟨rfl,Below.refl _ _⟩
theorem Z5(i:Nat)(hi:i<2):((⟨#[0,47]⟩:ByteArray)[i]'hi).toNat<128:=by
 match i,hi with
 |0,_=>show(0:UInt8).toNat<128;decide
 |1,_=>show(47:UInt8).toNat<128;decide
set_option maxRecDepth 1000000 in
set_option maxHeartbeats 2000000 in
theorem Z6(w:World):
    Calls prog 171 #[.string ⟨#[0,47]⟩, .int .i32 65533] w fun e w'=>e= .returned (.int .i64 (-1))∧Below w.heap.size w w':=by
 go_enter Tryz.func171,Tryz.ntmps171
 go_wp2
 go_loopg [5,6] 2 (fun g _ _ wx=>∃i:Nat,i+g=2∧wx=w.iter ⟨#[0,47]⟩ i)
 case atStart=>exact⟨0,by omega,rfl⟩
 case round=>
  obtain⟨i,hig,rfl⟩:=hrel
  cases gk with
  |zero=>
    obtain rfl:i=2:=by omega
    have hnx:=run_next_end (P:=prog) w ⟨#[0,47]⟩ 2
    go_wp2
    go_ret
    exact⟨rfl,(Below.refl _ _).alloc (Av _) _⟩
  |succ g=>
    have hi:i<2:=by omega
    have hx:=Z5 i hi;have hnx:=fun ty=>run_next_ascii (P:=prog) w ⟨#[0,47]⟩ i ty hi hx;generalize ((⟨#[0,47]⟩:ByteArray)[i]'hi)=x at *;have hne:((x.toNat:Int)==65533)=false:=beq_eq_false_iff_ne.2 (by omega)
    go_wp2
    go_roundg g
    case measure=>omega
    case rel=>exact⟨i+1,by omega,rfl⟩
theorem TE(s:ByteArray)(i:Nat)(h:i<s.size)(ha:128≤(s[i]'h).toNat):
    1≤(Utf8.decode s i).2∧i+(Utf8.decode s i).2≤s.size∧∀k,k<(Utf8.decode s i).2→128≤(s.get! (i+k)).toNat:=by
 have hn:¬(s[i]'h).toNat<128:=by omega
 have h0:s.get! (i+0)=s[i]'h:=get_at s i h;have g0:128≤(s.get! (i+0)).toNat:=by rw[h0];exact ha
 have c1:∀k,(decide (i+k<s.size)&&(s.get! (i+k)).toNat / 64==2)=true→i+k<s.size∧128≤(s.get! (i+k)).toNat:=by
  intro k hk;simp only[Bool.and_eq_true,decide_eq_true_iff,beq_iff_eq]at hk;exact⟨hk.1,by omega⟩
 have one:1≤1∧i+1≤s.size∧∀k,k<1→128≤(s.get! (i+k)).toNat:=by
  refine⟨Av _,h,fun k hk=>?_⟩;obtain rfl:k=0:=by omega
  exact g0
 unfold Utf8.decode;simp only[h0,hn,if_false];split
 ·rename_i hc;rw[Bool.and_eq_true]at hc;obtain⟨a1,b1⟩:=c1 1 hc.2;split
  ·refine⟨by simp,a1,fun k hk=>?_⟩;have:k=0∨k=1:=by simp at hk;omega
   rcases this with rfl|rfl
   ·exact g0
   exact b1
  exact one
 split
 ·rename_i hc;rw[Bool.and_eq_true,Bool.and_eq_true]at hc;obtain⟨a1,b1⟩:=c1 1 hc.1.2;obtain⟨a2,b2⟩:=c1 2 hc.2;split
  ·refine⟨by simp,a2,fun k hk=>?_⟩;have:k=0∨k=1∨k=2:=by simp at hk;omega
   rcases this with rfl|rfl|rfl
   ·exact g0
   ·exact b1
   exact b2
  exact one
 split
 ·rename_i hc;rw[Bool.and_eq_true,Bool.and_eq_true,Bool.and_eq_true]at hc;obtain⟨a1,b1⟩:=c1 1 hc.1.1.2;obtain⟨a2,b2⟩:=c1 2 hc.1.2;obtain⟨a3,b3⟩:=c1 3 hc.2;split
  ·refine⟨by simp,a3,fun k hk=>?_⟩;have:k=0∨k=1∨k=2∨k=3:=by simp at hk;omega
   rcases this with rfl|rfl|rfl|rfl
   ·exact g0
   ·exact b1
   ·exact b2
   exact b3
  exact one
 exact one
theorem Z7(s:ByteArray)(j:Nat)(hj:j<s.size):s.data.toList[j]?=some (s.get! j):=by
 have:=get_at s j hj;rw[Nat.add_zero]at this;rw[this];exact Lib.data_getElem? s j hj
theorem Z8{s:ByteArray}{i:Nat}(h:i<s.size)(ha:128≤(s[i]'h).toNat)(hno:Lib.NoAny s.data.toList [0,47] i):Lib.NoAny s.data.toList [0,47] (i+(Utf8.decode s i).2):=by
 obtain⟨_,h2,h3⟩:=TE s i h ha;intro j b hj hb;by_cases hlt:j<i
 ·exact hno j b hlt hb
 have:=h3 (j - i) (by omega);rw[show i+(j - i)=j by omega]at this;rw[Z7 s j (by omega)]at hb;injection hb with hb;rw[hb]at this;have h0:b≠0:=by rintro rfl;simp at this
 have h47:b≠47:=by
  rintro rfl;have:(47:UInt8).toNat=47:=rfl;omega
 simp[h0,h47]
theorem Z9(r:Int)(w:World)(h0:128≤r)(h1:r≤2147483647):
    Calls prog 171 #[.string ⟨#[0,47]⟩, .int .i32 r] w fun e w'=>e= .returned (.int .i64 (-1))∧Below w.heap.size w w':=by
 by_cases h2:r=65533
 ·subst h2;exact Z6 w
 cases hv:Lib.validRune r with
 |true=>exact Z4 r w h0 h1 h2 hv
 |false=>exact(Z3 r w h0 h1 h2 hv).mono fun e w' h=>⟨h.1,by rw[←h.2];exact Below.refl _ _⟩
def TF(s:ByteArray)(w:World)(e:Ending)(w':World):Prop:=∃v:Int,e= .returned (.int .i64 v)∧Below w.heap.size w w'∧((0≤v)↔((0:UInt8)∈s.data.toList∨(47:UInt8)∈s.data.toList))
theorem ZA{s:ByteArray}(h:Lib.NoAny s.data.toList [0,47] s.size):¬((0:UInt8)∈s.data.toList∨(47:UInt8)∈s.data.toList):=by
 rintro(h'|h')
 ·obtain⟨j,hj⟩:=List.mem_iff_getElem?.1 h';have:=h j 0 (by rw[Lib.size_eq];exact(Ag.1 hj).1) hj;simp at this
 obtain⟨j,hj⟩:=List.mem_iff_getElem?.1 h';have:=h j 47 (by rw[Lib.size_eq];exact(Ag.1 hj).1) hj;simp at this
theorem ZB{s:ByteArray}{i:Nat}{x:UInt8}(hx:s.data.toList[i]?=some x)(h:[0,47].contains x=true):((0:UInt8)∈s.data.toList∨(47:UInt8)∈s.data.toList):=by
 have hm:=Au hx;simp at h;rcases h with rfl|rfl
 ·exact .inl hm
 exact .inr hm
set_option maxRecDepth 1000000 in
set_option maxHeartbeats 4000000 in
theorem ZC(s:ByteArray)(w:World)(h8:s.size≤8):Calls prog 156 #[.string s, .string ⟨#[0,47]⟩] w (TF s w):=by
 have h8z:decide ((8:Int)<(s.size:Int))=false:=decide_eq_false (by omega)
 go_enter Tryz.func156,Tryz.ntmps156
 go_wp2_with (go_at_call 172;refine(Tryz.strings_shouldUseASCIISet _ _).mono ?_;rintro e w' ⟨rfl,hw⟩;rw[hw,h8z])
 clear hw
 go_loopg [9,10] s.size (fun g _ _ wx=>∃i:Nat,s.size≤i+g∧i≤s.size∧wx.heap[w.heap.size]?=some (.stringIter s i)∧Below w.heap.size w wx∧Hid (Lib.NoAny s.data.toList [0,47] i))
 case atStart=>exact⟨0,by omega,by omega,World.iter_heap w s 0,(Below.refl _ _).alloc (Av _) _,Lib.hid (Lib.NoAny.zero _ _)⟩
 case round=>
  obtain⟨i,hg,hi,hit,hbel,hno⟩:=hrel;have hks:=hbel.size;by_cases hlt:i<s.size
  ·obtain⟨g,rfl⟩:∃g,gk=g+1:=⟨gk - 1,by omega⟩;by_cases hx:(s[i]'hlt).toNat<128
   ·have hnx:=fun ty=>Lib.run_next_ascii_at (P:=prog) wr w.heap.size s i ty hit hlt hx;have hxl:s.data.toList[i]?=some (s[i]'hlt):=Lib.data_getElem? s i hlt;generalize (s[i]'hlt)=x at *;have Hx:=Lib.hid hxl;have hit':=Lib.iterAt_heap wr w.heap.size s i (i+1) hit;have hbel':=Lib.below_iterAt hbel (Av _) s (i+1);generalize wr.iterAt w.heap.size s (i+1)=w1 at *;have hcon:=Lib.contains_iff_indexByte [0,47] x;have hback:((x.toNat:Int)).toNat.toUInt8=x:=by simp
    have HI:=Lib.hid hit';clear hxl hit hit';cases hin:[0,47].contains x
    ·rw[hin]at hcon;have hneg:¬((0:Int)≤Lib.indexByte [0,47] x):=of_decide_eq_false hcon.symm;clear hcon
     go_wp2_with (go_at_call 171;refine(Tryz.strings_IndexRune_ascii _ _ _ (by omega) (by omega)).mono ?_;rintro e w' ⟨rfl,hw⟩;rw[hw,hback])
     go_roundg g
     case measure=>omega
     case rel=>exact⟨i+1,by omega,by omega,HI.out,hbel',Lib.hid (hno.out.succ Hx.out hin)⟩
    rw[hin]at hcon;have hpos:(0:Int)≤Lib.indexByte [0,47] x:=of_decide_eq_true hcon.symm;clear hcon
    go_wp2_with (go_at_call 171;refine(Tryz.strings_IndexRune_ascii _ _ _ (by omega) (by omega)).mono ?_;rintro e w' ⟨rfl,hw⟩;rw[hw,hback])
    go_ret
    exact⟨_,rfl,hbel',⟨fun _=>ZB Hx.out hin,fun _=>by omega⟩⟩
   have hx':128≤(s[i]'hlt).toNat:=by omega
   obtain⟨p1,p2,_⟩:=TE s i hlt hx';have HN:=Lib.hid (Z8 hlt hx' hno.out);have q1:=(decode_high s i hlt hx').1;have q2:=decode_le s i;have hnx:=fun ty=>Lib.run_next_any_at (P:=prog) wr w.heap.size s i ty hit hlt;generalize Utf8.decode s i=d at *;obtain⟨d1,d2⟩:=d;simp only at *;have hit':=Lib.iterAt_heap wr w.heap.size s i (i+d2) hit;have hbel':=Lib.below_iterAt hbel (Av _) s (i+d2);have hsz:=Lib.iterAt_size wr w.heap.size s (i+d2);generalize wr.iterAt w.heap.size s (i+d2)=w1 at *;have hk1:w.heap.size<w1.heap.size:=(Array.getElem?_eq_some_iff.1 hit').1;have HI:=Lib.hid hit';clear hit hit' hsz
   go_wp2_with fail
   refine(Z9 _ _ (by omega) (by omega)).mono ?_;rintro e w2 ⟨rfl,hb2⟩
   go_wp2
   go_roundg g
   case measure=>omega
   case rel=>exact⟨i+d2,by omega,by omega,(hb2.block _ hk1).trans HI.out,hbel'.trans (hb2.mono (by omega)),HN⟩
  obtain rfl:i=s.size:=by omega
  have hnx:=fun ty=>Lib.run_next_end_at (P:=prog) wr w.heap.size s s.size ty hit hlt
  go_wp2
  go_ret
  exact⟨_,rfl,hbel,⟨fun h=>absurd h (by decide),fun h=>absurd h (ZA hno.out)⟩⟩
theorem ZD(s:ByteArray):(0≤Lib.indexAny s.data.toList [0,47])↔((0:UInt8)∈s.data.toList∨(47:UInt8)∈s.data.toList):=by
 generalize s.data.toList=l
 induction l with
 |nil=>simp[Lib.indexAny]
 |cons b l ih=>
   have hge:=Lib.indexAny_ge [0,47] l;unfold Lib.indexAny;by_cases hb:[0,47].contains b=true
   ·rw[if_pos hb];simp only[List.contains_cons,List.contains_nil,Bool.or_false,Bool.or_eq_true,beq_iff_eq]at hb;rcases hb with rfl|rfl<;>simp
   rw[if_neg hb];have h0:(0:UInt8)≠b:=by rintro rfl;simp at hb
   have h47:(47:UInt8)≠b:=by rintro rfl;simp at hb
   simp only[List.mem_cons,h0,h47,false_or];rw[←ih];split
   ·rename_i h;have:Lib.indexAny l [0,47]= -1:=by simpa using h
    rw[this]
   rename_i h;have:Lib.indexAny l [0,47]≠ -1:=by simpa using h
   constructor<;>intro h'<;>omega
theorem ZE(s:ByteArray)(w:World)(hs:s.size≤1000000):Calls prog 156 #[.string s, .string ⟨#[0,47]⟩] w (TF s w):=by
 by_cases h8:s.size≤8
 ·exact ZC s w h8
 refine(Tryz.strings_IndexAny_long (fun w=>by kernel_rfl) s ⟨#[0,47]⟩ w (by decide) (by omega) (by omega) (by decide) ?_).mono ?_
 ·intro j b hj;have:b∈[0,47]:=Au hj;simp at this;rcases this with rfl|rfl<;>decide
 rintro e w' ⟨rfl,rfl⟩;exact⟨_,rfl,G7 _ _ _,ZD s⟩
def PM(s:ByteArray):Bool:=decide ((0:UInt8)∈s.data.toList∨(47:UInt8)∈s.data.toList)
theorem ZF(s:ByteArray)(w:World)(hs:s.size≤1000000):
    Calls prog 118 #[.string s, .string ⟨#[0,47]⟩] w fun e w'=>e= .returned (.bool (PM s))∧Below w.heap.size w w':=by
 go_enter Tryz.func118,Tryz.ntmps118
 go_wp2_with fail
 refine(ZE s w hs).mono ?_;rintro e w' ⟨v,rfl,hb,hv⟩;have HV:=Lib.hid hv;clear hv
 go_wp2
 go_ret
 exact⟨J0 (decide_eq_decide.2 HV.out),hb⟩
theorem TG(s:ByteArray):(s.toList==[46])=decide (s.data.toList=[46]):=by rw[FV,Bool.eq_iff_iff];simp
theorem TH(s:ByteArray):(s.toList==[46,46])=decide (s.data.toList=[46,46]):=by rw[FV,Bool.eq_iff_iff];simp
set_option maxHeartbeats 1000000 in
theorem TJ(s:ByteArray)(w:World):
    Calls prog 77 #[.string s] w fun e w'=>e= .returned (.bool (F7 s.data.toList))∧Below w.heap.size w w':=by
 have hsz:=Lib.size_eq s;by_cases h0:s.size=0
 ·have he:s.toList.isEmpty=true:=by rw[TC];simp[h0]
  have he':s.toList=[]:=List.isEmpty_iff.1 he
  have HF:Hid (F7 s.data.toList=false):=Lib.hid (by
   rw[←FV,he'];rfl)
  clear hsz
  go_enter Tryz.func77,Tryz.ntmps77
  go_wp2
  go_ret
  exact⟨J0 HF.out.symm,Below.refl _ _⟩
 have he:s.toList.isEmpty=false:=by rw[TC];simp[h0]
 have hne:s.data.toList≠[]:=by intro e;rw[e]at hsz;exact h0 hsz
 by_cases h12:s.size≤12
 ·have hle:decide ((s.size:Int)≤12)=true:=decide_eq_true (by omega);by_cases h1:s.data.toList=[46]
  ·have e1:(s.toList==[46])=true:=by rw[TG];simp[h1]
   have e1':(s.toList != [46])=false:=by simp[bne,e1]
   have HF:Hid (F7 s.data.toList=false):=Lib.hid (by rw[h1];rfl);clear hsz hne h1
   go_enter Tryz.func77,Tryz.ntmps77
   go_wp2
   go_ret
   exact⟨J0 HF.out.symm,Below.refl _ _⟩
  have e1:(s.toList==[46])=false:=by rw[TG];simp[h1]
  have e1':(s.toList != [46])=true:=by simp[bne,e1]
  by_cases h2:s.data.toList=[46,46]
  ·have e2:(s.toList==[46,46])=true:=by rw[TH];simp[h2]
   have e2':(s.toList != [46,46])=false:=by simp[bne,e2]
   have HF:Hid (F7 s.data.toList=false):=Lib.hid (by rw[h2];rfl);clear hsz hne h1 h2
   go_enter Tryz.func77,Tryz.ntmps77
   go_wp2
   go_ret
   exact⟨J0 HF.out.symm,Below.refl _ _⟩
  have e2:(s.toList==[46,46])=false:=by rw[TH];simp[h2]
  have e2':(s.toList != [46,46])=true:=by simp[bne,e2]
  have HF:Hid (F7 s.data.toList= !PM s):=Lib.hid (by
   unfold PM;rw[Bool.eq_iff_iff,OP];simp only[Bool.not_eq_true',decide_eq_false_iff_not,not_or]
   exact⟨fun h=>h.2.2.2.2,fun h=>⟨hne,by omega,h1,h2,h⟩⟩)
  clear hsz hne h1 h2
  go_enter Tryz.func77,Tryz.ntmps77
  go_wp2_with fail
  refine(ZF s _ (by omega)).mono ?_;rintro e w' ⟨rfl,hb⟩
  go_wp2
  go_ret
  exact⟨J0 HF.out.symm,hb⟩
 have hle:decide ((s.size:Int)≤12)=false:=decide_eq_false (by omega);have HF:Hid (F7 s.data.toList=false):=Lib.hid (decide_eq_false (fun h=>by have:=h.2.1;omega));clear hsz hne
 go_enter Tryz.func77,Tryz.ntmps77
 go_wp2
 go_ret
 exact⟨J0 HF.out.symm,Below.refl _ _⟩
theorem ZG(s:AB):AFn prog 77 [.v (.string s)] (fun r=>r= .v (.bool (Da s))):=by
 rw[RN];exact M0 (us:=[.string s]) fun w=>TJ s w
section
theorem ZH(s:Spc)(hs:SpcB s):AFn prog 55 [.agg (As s)] (fun r=>r= .agg (As s)):=by
 have hfew:=hs.few;refine enter Tryz.func55 rfl rfl rfl rfl rfl 0 rfl ?_;refine w_ (b_ (h:=Ak (h:=e_ (q_ (Bo ([(0,As s)]) 8 (h:=AJ 0 (h:=?_)))))))
 first|refine AF 1 (h:=?_)|refine B5 1 rfl (fun _ hS=>Cv (row:=As s) rfl (kb hS rfl) (BK rfl) rfl ⟨rfl,rfl⟩) ?_
 refine AJ 3 (h:=?_)
 first|refine AF 4 (h:=?_)|refine B5 4 rfl (fun _ hS=>Cv (row:=As s) rfl (kb hS rfl) (BK rfl) rfl ⟨rfl,rfl⟩) ?_
 refine c_ 2 rfl (AN (S4 s.files hs.files) ?_);rintro r rfl;refine o_ (h:=?_)
 first|refine c_ 5 rfl (Ei rfl rfl rfl (by simp;omega) (by repeat constructor) ?_)|refine c_ 5 rfl (Ej rfl rfl (by simp;omega) (by repeat constructor) ?_)
 refine o_ (h:=Fy 6 (h:=?_));refine BA 7 rfl (B1 rfl rfl rfl rfl rfl rfl (by repeat constructor) (by repeat constructor) ?_);refine o_ (h:=z_ (h:=t_ (A4 (?_))));refine BS (r:= .agg (As s)) none (h5:=?_) (h6:=⟨rfl,rfl,rfl⟩);exact LeA.agg (LeL.cons (AM _) (LeL.cons (LeA.tok _ _ _) LeL.nil))
end
end Go.Proofs.YtobclmbkdhbnpaaGreatDoor
namespace Go.Proofs.YtobclmbkdhbnpaaGreatDoor
section
variable {s:Spc}(hv:SpcV s)
include hv
def GJ(s:Spc)(a:A6):Prop:=(BV s a).2=true∧∀i,0<i→FB s (B8 s (BM s.files) a) i=true
theorem Mq{a:A6}(h:Al s.files a=true)(hm:Bz s a.1=true):(BV s a).2=true:=by rw[Mf hv h hm]
omit hv in
theorem TK(a:A6)(L:List A6)(i:Nat):FB s (a::L) (i+2)=FB s L (i+1):=by
 unfold FB;have h1:(a::L)[i+2]?=L[i+1]?:=List.getElem?_cons_succ;have h2:(a::L)[i+2 - 1]?=L[i+1 - 1]?:=List.getElem?_cons_succ;rw[h1,h2];simp
omit hv in
theorem TL(a b:A6)(L:List A6):FB s (a::b::L) 1=true↔∀dev,Bv s b=some dev→a=(dev,1):=by
 unfold FB;simp only[List.getElem?_cons_succ,List.getElem?_cons_zero,Nat.sub_self]
 cases Bv s b with
 |none=>simp
 |some dev=>simp
omit hv in
theorem TM{L:List A6}{i:Nat}(h:L.length≤i):FB s L i=true:=by
 unfold FB;rw[List.getElem?_eq_none h]
theorem TN(a:A6):Md s a=true↔GJ s a∧Bv s a=none:=by
 rw[Y2 hv,Bool.and_eq_true,List.all_eq_true];constructor
 ·rintro⟨h1,h2⟩;obtain⟨t,ht⟩:=Mc hv (P5 h1).1;refine⟨⟨h1,fun i hi=>?_⟩,?_⟩
  ·by_cases hl:i<(B8 s (BM s.files) a).length
   ·exact h2 i (List.mem_range.2 hl)
   exact TM (by omega)
  have h3:=h2 0 (List.mem_range.2 (by rw[ht];simp));rw[ht]at h3;unfold FB at h3;simp only[List.getElem?_cons_zero]at h3
  cases hc:Bv s a with
  |none=>rfl
  |some dev=>rw[hc]at h3;simp at h3
 rintro⟨⟨h1,h2⟩,hc⟩;refine⟨h1,fun i _=>?_⟩;obtain⟨t,ht⟩:=Mc hv (P5 h1).1;by_cases h0:i=0
 ·subst h0;rw[ht];unfold FB;simp only[List.getElem?_cons_zero,hc]
 exact h2 i (by omega)
theorem ZJ{a b:A6}(h:Al s.files a=true)(hm:Bz s a.1=true)(hs:Ce s a=some b):GJ s a↔GJ s b∧∀dev,Bv s b=some dev→a=(dev,1):=by
 have hb:=LN hv h hs;have hbm:=Oz hv hm hs;obtain⟨t,ht⟩:=Mc hv hb;have hc:B8 s (BM s.files) a=a::B8 s (BM s.files) b:=by rw[He hv h,hs]
 unfold GJ;rw[hc];constructor
 ·rintro⟨_,h2⟩;refine⟨⟨Mq hv hb hbm,fun i hi=>?_⟩,?_⟩
  ·obtain⟨j,rfl⟩:∃j,i=j+1:=⟨i - 1,by omega⟩;rw[←TK a];exact h2 _ (by omega)
  have h3:=h2 1 (by omega);rw[ht]at h3;exact(TL a b t).1 h3
 rintro⟨⟨_,h2⟩,h3⟩;refine⟨Mq hv h hm,fun i hi=>?_⟩;by_cases h1:i=1
 ·subst h1;rw[ht];exact(TL a b t).2 h3
 obtain⟨j,rfl⟩:∃j,i=j+2:=⟨i - 2,by omega⟩;rw[TK];exact h2 _ (by omega)
theorem ZK(h:Al s.files (0,1)=true):GJ s (0,1):=by
 have hs:Ce s (0,1)=none:=by unfold Ce;rw[if_neg (by simp)];exact P0 hv
 refine⟨Mq hv h (by unfold Bz;simp),fun i hi=>?_⟩;rw[He hv h,hs];exact TM (by simp;omega)
theorem ZL{a:A6}{dev:Int}(hc:Bv s a=some dev):Ce s (dev,1)=some a∧Al s.files (dev,1)=true∧Bz s dev=true∧dev≠0∧Al s.files a=true:=by
 obtain⟨i,hi⟩:=Mg hc;have hm:=hv.mnt i _ hi;have h1:=hm.dev1;have h2:=hm.dev2;simp only at h1 h2
 have hs:Ce s (dev,1)=some a:=by
  unfold Ce;rw[if_neg (by simp)];exact SW hv hi
 exact⟨hs,Sm hv (by omega) h2,Me (s:=s) (m:=(dev,a)) (Au hi),by omega,hm.dir⟩
theorem ZM{a:A6}(h:GJ s a):GJ s (Fc s a):=by
 unfold Fc
 cases hc:Bv s a with
 |none=>exact h
 |some dev=>
   obtain⟨h1,h2,h3,_⟩:=ZL hv hc;refine(ZJ hv (a:=(dev,1)) h2 h3 h1).2 ⟨h,fun d hd=>?_⟩;rw[hc]at hd;injection hd with hd;rw[hd]
theorem TO:∀(n:Nat) (a:A6),GJ s a→GJ s (CS s n a)
 |0,_,h=>h
 |n+1,a,h=>by rw[CS];exact TO n _ (ZM hv h)
theorem ZN{a:A6}(h:GJ s a):Md s (CS s s.mounts.length a)=true:=(TN hv _).2 ⟨TO hv _ a h,SU hv _ a fun i m _ _=>by omega⟩
omit hv in
theorem ZO{d:Dvc}(hd:VD d){a b m:Nod}(ha:a∈d.nodes)(hb:b∈d.nodes)(hm:m∈d.nodes)(h1:m.ino≠1)(hk:m.kind=2)(hea:∃e∈a.entries,e.2=m.ino)(heb:∃e∈b.entries,e.2=m.ino):a=b:=by
 have hc:=hd.one m hm h1 hk;obtain⟨A,B,hAB,_,_⟩:=Rf hd.asc ha;rw[hAB,OX,Jk]at hc;have h2:=Re.2 hea;rw[hAB]at hb;rcases List.mem_append.1 hb with hb|hb
 ·have:=L8.2 ⟨b,hb,heb⟩;omega
 rcases List.mem_cons.1 hb with hb|hb
 ·exact hb.symm
 have:=L8.2 ⟨b,hb,heb⟩;omega
theorem TP{a b:A6}{p:AB}(hl:AK s.files a p=(b,0)):Al s.files a=true∧Da p=true∧b.1=a.1∧b.2≠1∧Cd s.files b=true∧(Al s.files b=true→Ce s b=some a):=by
 unfold AK at hl
 cases hn:Bj s.files a with
 |none=>rw[hn]at hl;simp at hl
 |some n=>
   rw[hn]at hl;simp only at hl;by_cases hk:n.kind=2
   ·rw[if_pos hk]at hl;have hdir:Al s.files a=true:=(JC hn).2 hk
    cases hf:n.entries.find? fun e:B6=>decide (e.1=p)with
    |none=>rw[hf]at hl;simp at hl
    |some e=>
      rw[hf]at hl;simp only[Prod.mk.injEq,and_true]at hl;subst hl;have he:=List.mem_of_find?_eq_some hf;have hep:=List.find?_some hf;simp only[decide_eq_true_eq]at hep;obtain⟨q,d,n',e1,e2,e3,e4,e5,e6⟩:=JE (f:=s.files) (a:=a) (by rw[hdir];simp)
      have hn':n'=n:=by
       have:AU s.files a=n:=by unfold AU;rw[hn];rfl
       rw[←this];exact e5.symm
      subst hn';have hd:=hv.files.vd d (Au e2);obtain⟨h1,h2,m,hm,hme⟩:=hd.ent n' e3 e he;have hnb:Bj s.files (a.1,e.2)=some m:=by rw[e1];exact Oy hv e2 hm hme
      refine⟨hdir,by rw[←hep];exact h1,rfl,h2,by unfold Cd;rw[hnb];rfl,fun hdb=>?_⟩;have hmk:m.kind=2:=(JC hnb).1 hdb;have hm1:m.ino≠1:=by rw[hme];exact h2
      obtain⟨p',hp',hpi,hpe⟩:=hd.par m hm hm1 hmk;have:=ZO hd e3 hp' hm hm1 hmk ⟨e,he,hme.symm⟩ hpe;subst this;unfold Ce;rw[if_pos h2];unfold AU;rw[hnb];simp only[Option.getD_some];rw[←hpi,e4]
   rw[if_neg hk]at hl;simp at hl
end
end Go.Proofs.YtobclmbkdhbnpaaGreatDoor
namespace Go.Proofs.YtobclmbkdhbnpaaGreatDoor
theorem ZP{p:AB}(h:Da p=true):p≠Mm∧p≠LP∧p.size≤12∧p≠⟨#[]⟩∧(47:UInt8)∉p.data.toList:=by
 rw[RN]at h;obtain⟨h1,h2,h3,h4,h5,h6⟩:=OP.1 h;refine⟨?_,?_,by rw[Lib.size_eq];exact h2,?_,h6⟩<;>(intro e;subst e;first|exact h3 rfl|exact h4 rfl|exact h1 rfl)
theorem ZQ{p:AB}(h:p.data.toList=[]):p=⟨#[]⟩:=Sf h
theorem ZR{l:Bs}(h1:l≠[])(h2:l.head?≠some 47):CF l≠[]:=by
 intro h;have h3:G8 (C6 l)=47::l:=RJ l
 cases hs:C6 l with
 |nil=>exact OQ l hs
 |cons p ps=>
   rw[hs,HU]at h3;injection h3 with _ h3
   have h4:p=[]:=by
    unfold CF at h;rw[hs,List.filter_cons]at h;split at h
    ·cases h
    rename_i hne
    simpa[ne_]using hne
   rw[h4,List.nil_append]at h3
   cases ps with
   |nil=>exact h1 h3.symm
   |cons q ps=>
     rw[HU]at h3;rw[←h3]at h2;simp at h2
theorem ZS{p:AB}(h1:p≠⟨#[]⟩)(h2:Cg p=false):CN p≠[]:=by
 intro h;unfold CN at h;rw[List.map_eq_nil_iff]at h;refine ZR (fun e=>h1 (ZQ e)) ?_ h;unfold Cg at h2
 simpa using h2
end Go.Proofs.YtobclmbkdhbnpaaGreatDoor
namespace Go.Proofs.YtobclmbkdhbnpaaGreatDoor
abbrev zz:AB:=⟨#[122,122]⟩
end Go.Proofs.YtobclmbkdhbnpaaGreatDoor
namespace Go.Proofs.YtobclmbkdhbnpaaGreatDoor
structure Wk where
 ps:List AB
 at_:A6
 dir:A6
 name:AB
 missing:Bool
 links:Nat
def Dj(s:Spc)(fl:Bool)(p:AB)(ps:List AB)(w:Wk):Int ⊕ Wk:=
 if Al s.files w.at_=false then .inl 20
 else if 12<p.size then .inl 36
 else if p=LP then .inr ⟨ps,CS s s.mounts.length (DH s (s.mounts.length+1) w.at_),(0,0),⟨#[]⟩,w.missing,w.links⟩
 else if p=Mm then .inr ⟨ps,w.at_,(0,0),⟨#[]⟩,w.missing,w.links⟩
 else if Da p=false then .inl 2
 else if(AK s.files w.at_ p).2≠0 then(if ps≠[]then .inl 2 else .inr ⟨ps,w.at_,w.at_,p,true,w.links⟩)
 else if(AU s.files (AK s.files w.at_ p).1).kind=3∧(ps≠[]∨fl=true)then
  (if w.links=8 then .inl 40 else
    .inr ⟨CN (AU s.files (AK s.files w.at_ p).1).target++ps,if Cg (AU s.files (AK s.files w.at_ p).1).target=true then DW s else w.at_,if Cg (AU s.files (AK s.files w.at_ p).1).target=true then(0,0)else w.dir,if Cg (AU s.files (AK s.files w.at_ p).1).target=true then⟨#[]⟩else w.name,w.missing,w.links+1⟩)
 else .inr ⟨ps,CS s s.mounts.length (AK s.files w.at_ p).1,w.at_,p,w.missing,w.links⟩
def FF(s:Spc)(sl:Bool)(w:Wk):Fnd:=
 if w.name=⟨#[]⟩then⟨w.at_,⟨#[]⟩,w.at_, !w.missing,sl,(BV s w.at_).1⟩
 else⟨w.dir,w.name,if w.missing=true then(0,0)else w.at_, !w.missing,sl,if(BV s w.dir).2=true then Cl (BV s w.dir).1 w.name else⟨#[]⟩⟩
structure Sim(w:Wk)(σ:Lk):Prop where
 ps:w.ps=σ.ps
 links:w.links=σ.links
 ex:σ.ex= !w.missing
 here:w.missing=false→w.at_=σ.file
 gone:w.missing=true→σ.file=(0,0)∧w.ps=[]∧w.dir=σ.dir∧w.name=σ.name∧w.name≠⟨#[]⟩
 last:w.ps=[]→w.missing=false→(w.name=⟨#[]⟩→σ.name=⟨#[]⟩∧σ.dir=σ.file)∧(w.name≠⟨#[]⟩→w.dir=σ.dir∧w.name=σ.name)
section
variable {s:Spc}(hv:SpcV s)
include hv
theorem ZT{a:A6}{p:AB}(h:Da p=false):(AK s.files a p).2≠0:=by
 intro e;have:=(TP hv (a:=a) (p:=p) (b:=(AK s.files a p).1) (Prod.ext rfl e)).2.1;rw[this]at h;cases h
theorem ZU{a b:A6}{p:AB}(hl:AK s.files a p=(b,0))(hk:(AU s.files b).kind=3):(AU s.files b).target≠⟨#[]⟩:=by
 have hb:=(TP hv hl).2.2.2.2.1;obtain⟨q,i,d,m,h1,h2,h3,h4,h5,h6⟩:=Ma hb;rw[h6]at hk ⊢;have hp:=(hv.files.vd d (Au h2)).plain m (Au h3);unfold ES at hp;split at hp
 ·cases hp
 try rw[if_pos hk]at hp
 unfold Hy at hp;intro e;rw[e]at hp;revert hp;decide+kernel
theorem ZV(fl:Bool){p:AB}{ps:List AB}{w:Wk}{σ:Lk}(h:Sim w σ)(hm:w.missing=false):(∃e,Dj s fl p ps w= .inl e∧CG s fl p ps σ.file σ.links= .inl e)∨∃w' τ,Dj s fl p ps w= .inr w'∧CG s fl p ps σ.file σ.links= .inr τ∧Sim w' τ:=by
 have ha:=h.here hm;have hex:(true:Bool)= !w.missing:=by rw[hm];rfl
 rw[←ha,←h.links];unfold Dj CG;by_cases c1:Al s.files w.at_=false
 ·simp only[if_pos c1];exact .inl ⟨_,rfl,rfl⟩
 simp only[if_neg c1];by_cases c2:12<p.size
 ·simp only[if_pos c2];exact .inl ⟨_,rfl,rfl⟩
 simp only[if_neg c2];by_cases c3:p=Mm
 ·have c4:¬p=LP:=by rw[c3];decide
  simp only[if_pos c3,if_neg c4];exact .inr ⟨_,_,rfl,rfl,rfl,rfl,hex,fun _=>rfl,fun c=>(by rw[hm]at c;cases c),fun _ _=>⟨fun _=>⟨rfl,rfl⟩,fun c=>absurd rfl c⟩⟩
 simp only[if_neg c3];by_cases c4:p=LP
 ·simp only[if_pos c4];exact .inr ⟨_,_,rfl,rfl,rfl,rfl,hex,fun _=>rfl,fun c=>(by rw[hm]at c;cases c),fun _ _=>⟨fun _=>⟨rfl,rfl⟩,fun c=>absurd rfl c⟩⟩
 simp only[if_neg c4];by_cases c5:Da p=false
 ·have c6:=ZT hv (a:=w.at_) c5;simp only[if_pos c5,if_pos c6,if_pos (show ps≠[]∨Da p=false from .inr c5)];exact .inl ⟨_,rfl,rfl⟩
 simp only[if_neg c5];have hp0:p≠⟨#[]⟩:=(ZP (by simpa using c5)).2.2.2.1;by_cases c6:(AK s.files w.at_ p).2≠0
 ·simp only[if_pos c6];by_cases c7:ps≠[]
  ·simp only[if_pos c7,if_pos (show ps≠[]∨Da p=false from .inl c7)];exact .inl ⟨_,rfl,rfl⟩
  simp only[if_neg c7,if_neg (show¬(ps≠[]∨Da p=false) from fun c=>c.elim c7 c5)];have c8:ps=[]:=Decidable.not_not.1 c7;exact .inr ⟨_,_,rfl,rfl,c8,rfl,rfl,fun c=>(by cases c),fun _=>⟨rfl,c8,rfl,rfl,hp0⟩,fun _ c=>by cases c⟩
 simp only[if_neg c6];by_cases c7:(AU s.files (AK s.files w.at_ p).1).kind=3∧(ps≠[]∨fl=true)
 ·simp only[if_pos c7];by_cases c8:w.links=8
  ·simp only[if_pos c8];exact .inl ⟨_,rfl,rfl⟩
  simp only[if_neg c8];have ht:=ZU hv (a:=w.at_) (p:=p) (b:=(AK s.files w.at_ p).1) (Prod.ext rfl (Decidable.not_not.1 c6)) c7.1;refine .inr ⟨_,_,rfl,rfl,rfl,rfl,hex,fun _=>rfl,fun c=>(by rw[hm]at c;cases c),fun hps _=>?_⟩;by_cases c9:Cg (AU s.files (AK s.files w.at_ p).1).target=true
  ·simp only[if_pos c9];exact⟨fun _=>⟨trivial,trivial⟩,fun c=>absurd rfl c⟩
  have:=ZS ht (by simpa using c9);exact absurd (List.append_eq_nil_iff.1 hps).1 this
 simp only[if_neg c7];exact .inr ⟨_,_,rfl,rfl,rfl,rfl,hex,fun _=>rfl,fun c=>(by rw[hm]at c;cases c),fun _ _=>⟨fun c=>absurd c hp0,fun _=>⟨rfl,rfl⟩⟩⟩
theorem ZW{sl:Bool}{w:Wk}{σ:Lk}(h:Sim w σ)(hps:w.ps=[]):FF s sl w=Fk s sl σ:=by
 unfold FF Fk
 cases hm:w.missing with
 |true=>
   obtain⟨g1,_,g2,g3,g4⟩:=h.gone hm;rw[if_neg g4,h.ex,hm,g1,←g2,←g3];simp only[if_true,g4,if_false]
 |false=>
   have ha:=h.here hm;obtain⟨k1,k2⟩:=h.last hps hm;by_cases c:w.name=⟨#[]⟩
   ·obtain⟨e1,e2⟩:=k1 c;rw[if_pos c,h.ex,hm,e1,e2,←ha];simp only[if_true];by_cases cw:(BV s w.at_).2=true
    ·rw[if_pos cw]
    rw[if_neg cw];have:BV s w.at_=(⟨#[]⟩,false):=Jp hv fun c=>cw (Mq hv c.1 c.2);rw[this]
   obtain⟨e1,e2⟩:=k2 c;rw[if_neg c,h.ex,hm,←e1,←e2,←ha];simp only[c,if_false,Bool.false_eq_true]
end
end Go.Proofs.YtobclmbkdhbnpaaGreatDoor
namespace Go.Proofs.YtobclmbkdhbnpaaGreatDoor
open Go.RowKit Go.Shelf
attribute [local go_sem] Oper.semAt_some
theorem ZX(s:ByteArray)(w:World):
    Calls prog 76 #[.string s, .string ⟨#[47]⟩] w fun e w'=>
     e= .returned (.func (.func 153) #[] #[.pointer (some ⟨w.heap.size+1,0,none⟩), .pointer (some ⟨w.heap.size,0,none⟩), .pointer (some ⟨w.heap.size+1+1,0,none⟩)])∧
     w'=((w.alloc (.cells #[.string s] 9)).alloc (.cells #[.string ⟨#[47]⟩] 9)).alloc (.cells #[.int .i64 0] 3):=by
 go_enter Tryz.func76,Tryz.ntmps76
 go_wp2
 go_ret
 exact⟨rfl,rfl⟩
def Mr(w:World)(b:Nat):Nat:=match w.cell? ⟨b,0,none⟩with
 |some (.string r)=>r.size
 |_=>0
theorem Jv{w:World}{b:Nat}{t:TypeId}{r:ByteArray}(h:Boxed w b t (.string r)):Mr w b=r.size:=by simp[Mr,h.cell]
def Keep3(a b c:Nat)(X Y:World):Prop:=Y.heap[a]?=X.heap[a]?∧Y.heap[b]?=X.heap[b]?∧Y.heap[c]?=X.heap[c]?
theorem Keep3.trans{a b c:Nat}{X Y Z:World}(h:Keep3 a b c X Y)(k:Keep3 a b c Y Z):Keep3 a b c X Z:=⟨k.1.trans h.1,k.2.1.trans h.2.1,k.2.2.trans h.2.2⟩
theorem ZY{a b c N:Nat}(ha:a<N)(hb:b<N)(hc:c<N)(W:World)(l:Nat)(o':Obj)(hl:N≤l):Keep3 a b c W (W.putObj l o'):=
 ⟨World.putObj_heap_other (by omega),World.putObj_heap_other (by omega),World.putObj_heap_other (by omega)⟩
theorem ZZ{a b c:Nat}{X Y:World}(h:Below X.heap.size X Y)(ha:a<X.heap.size)(hb:b<X.heap.size)(hc:c<X.heap.size):Keep3 a b c X Y:=⟨h.block _ ha,h.block _ hb,h.block _ hc⟩
theorem PN(s:ByteArray)(i:Nat)(h:i<s.size):(s.extract (i+1) s.size).size<s.size:=by
 rw[ByteArray.size_extract];omega
theorem Za{s:ByteArray}{i:Nat}(hi:Lib.indexByte s.data.toList 47=i):i<s.size∧C6 s.data.toList=(s.extract 0 i).data.toList::C6 (s.extract (i+1) s.size).data.toList:=by
 have hm:(47:UInt8)∈s.data.toList:=by
  apply Classical.byContradiction;intro h;rw[TD h]at hi;omega
 obtain⟨j,hj,hlt,hl,hn⟩:=PL hm;obtain rfl:j=i:=by omega
 refine⟨by rw[Lib.size_eq];exact hlt,?_⟩;rw[Lib.extract_data,Lib.extract_to_end];simp only[List.drop_zero,Nat.sub_zero]
 conv=>lhs;rw[hl]
 exact WN hn _
theorem Zb{s:ByteArray}(hi:Lib.indexByte s.data.toList 47<0):C6 s.data.toList=[s.data.toList]:=by
 refine OS fun h=>?_;obtain⟨i,hi',_⟩:=PL h;omega
def D5(xs:List AB):List Bs:=xs.map fun x=>x.data.toList
set_option maxRecDepth 100000 in
set_option maxHeartbeats 1000000 in
theorem Zc(n:Nat)(s:ByteArray)(hs:s.size≤1000000)(b0 b1 b2:Nat)(w:World)(h0:Boxed w b0 9 (.string s))(h1:Boxed w b1 9 (.string ⟨#[47]⟩))(h2:Boxed w b2 3 (.int .i64 0))(h01:b0≠b1)(h02:b0≠b2):
    SeqW Fence.wide n prog 153 #[.pointer (some ⟨b1,0,none⟩), .pointer (some ⟨b0,0,none⟩), .pointer (some ⟨b2,0,none⟩)] (fun x:AB=>#[.string x]) (fun b=>b=b0) (Keep3 b0 b1 b2) (fun xs=>D5 xs<+:C6 s.data.toList)
     (fun xs=>D5 xs=C6 s.data.toList) (fun pre=>D5 pre<+:C6 s.data.toList) w:=fun l J Jx W hW hJ hJx hY hst=>by
 have k0:Boxed W b0 9 (.string s):=BJ h0 hW h0.lt;have k1:Boxed W b1 9 (.string ⟨#[47]⟩):=BJ h1 hW h1.lt;have k2:Boxed W b2 3 (.int .i64 0):=BJ h2 hW h2.lt;refine callsIn_of_wp Tryz.func153 rfl trivial ?_ rfl;simp only[Tryz.ntmps153,List.size_toArray,List.length_cons,List.length_nil,Nat.reduceAdd,Nat.reduceSub,Array.replicate_succ,Array.replicate_zero,List.push_toArray,List.append_toArray,List.nil_append,List.cons_append];have c1:=k1.cell
 gi_wp2
 gi_loopw [7] (fun _ wr=>∃(pre:List AB) (r:ByteArray),Boxed wr b0 9 (.string r)∧Boxed wr b1 9 (.string ⟨#[47]⟩)∧Boxed wr b2 3 (.int .i64 0)∧J pre wr∧Hid (D5 pre++C6 r.data.toList=C6 s.data.toList)∧r.size≤s.size) (fun _ wr=>Mr wr b0)
 case atStart=>exact⟨[],s,k0,k1,k2,hst,rfl,Av _⟩
 case round=>
  obtain⟨pre,r,m0,m1,m2,hj,hpre,hle⟩:=hrel;clear k0 k1 k2 c1 hst;have c0:=m0.cell;have c1:=m1.cell;have c2:=m2.cell;have f0:=m0.frozen
  gi_wp2_with fail
  refine Db ((callsIn_wide.2 (Z1 _ _)).mono ?_);rintro e w' ⟨rfl,rfl⟩;have hge:=Lib.indexByte_ge r.data.toList 47;by_cases hneg:Lib.indexByte r.data.toList 47<0
  ·have HS:=Lib.hid (Zb hneg);obtain⟨fn,tmps,assign,body,hy,hR⟩:=hY pre r wr hj (by rw[←hpre.out,HS.out];simp[D5])
   gi_wp2
   refine⟨(fun h=>by cases h),hR.mono ?_⟩;rintro e W3 (⟨rfl,hJ3,hk3⟩|⟨rfl,hJx3⟩)
   ·gi_wp2
    go_end0
    exact⟨⟨_,rfl⟩, .inl ⟨pre++[r],by rw[←hpre.out,HS.out];simp[D5],hJ3⟩⟩
   gi_wp2
   go_end0
   exact⟨⟨_,rfl⟩, .inr ⟨pre++[r],by rw[←hpre.out,HS.out];simp[D5],hJx3⟩⟩
  obtain⟨i,hi⟩:=Int.eq_ofNat_of_zero_le (show 0≤Lib.indexByte r.data.toList 47 by omega);obtain⟨hlt,hseg⟩:=Za hi;have HS:=Lib.hid hseg;clear hseg hge hneg;rw[hi];clear hi;obtain⟨fn,tmps,assign,body,hy,hR⟩:=hY pre (r.extract 0 i) wr hj (by rw[←hpre.out,HS.out];simp[D5])
  gi_wp2
  refine⟨(fun h=>by cases h),hR.mono ?_⟩;rintro e W3 (⟨rfl,hJ3,hk3⟩|⟨rfl,hJx3⟩)
  ·have q0:Boxed W3 b0 9 (.string r):=hk3.1.trans m0;have q1:Boxed W3 b1 9 (.string ⟨#[47]⟩):=hk3.2.1.trans m1;have q2:Boxed W3 b2 3 (.int .i64 0):=hk3.2.2.trans m2;clear c0 c1 c2 f0 hy hR;have c0:=q0.cell;have c1:=q1.cell;have c2:=q2.cell;have f0:=q0.frozen
   gi_wp2
   go_roundw
   case rel=>exact⟨pre++[r.extract 0 i],r.extract (i+1) r.size,q0.set _,q1.other (Ne.symm h01) _,q2.other (Ne.symm h02) _,hJ _ _ _ hJ3 (Moves.set_ (own:=fun b=>b=b0) _ rfl _),Lib.hid (by rw[←hpre.out,HS.out];simp[D5]),Nat.le_trans (Nat.le_of_lt (PN r i hlt)) hle⟩
   case measure=>rw[Jv (q0.set _),Jv m0];exact PN r i hlt
  gi_wp2
  refine bodyPost_ret (results_none rfl _ _ _) rfl ?_;exact⟨⟨_,rfl⟩, .inr ⟨pre++[r.extract 0 i],by rw[←hpre.out,HS.out];simp[D5],hJx3⟩⟩
end Go.Proofs.YtobclmbkdhbnpaaGreatDoor
namespace Go.Proofs.YtobclmbkdhbnpaaGreatDoor
open Go.RowKit Go.Shelf
attribute [local go_sem] Oper.semAt_some
theorem LT(l:Bs):Lib.hasPrefix l [47]=decide (l.head?=some 47):=by
 unfold Lib.hasPrefix
 cases l with
 |nil=>simp
 |cons c t=>
   rw[Bool.eq_iff_iff,List.isPrefixOf_iff_prefix];simp[List.cons_prefix_cons,eq_comm]
theorem Zd{l:Bs}(h:l.head?=some 47):Lib.trimPrefix l [47]=l.tail:=by
 unfold Lib.trimPrefix;rw[LT,if_pos (by simp[h])];simp
set_option maxRecDepth 100000 in
set_option maxHeartbeats 1000000 in
theorem TQ(s:ByteArray)(w:World)(h:s.data.toList=[47]∨s.data.toList.head?≠some 47):
    Calls prog 52 #[.string s] w fun e w'=>e= .returned (.bool (F8 s.data.toList))∧Below w.heap.size w w':=by
 by_cases h1:s.data.toList=[47]
 ·obtain rfl:s=⟨#[47]⟩:=TB h1
  go_enter Tryz.func52,Tryz.ntmps52
  go_wp2
  exact bodyPost_ret (v:= .bool true) (by simp[results,Tryz.results52,go_sem]) rfl ⟨rfl,(Below.refl _ _).alloc (Av _) _⟩
 have h2:s.data.toList.head?≠some 47:=h.resolve_left h1;have e1:(s.toList==[47])=false:=by rw[FV,beq_eq_false_iff_ne];exact h1
 have HP:=Lib.hid (LT s.data.toList);have HF:Hid (F8 s.data.toList=false):=Lib.hid (by unfold F8;simp[h1,h2]);have HD:Hid (decide (s.data.toList.head?=some 47)=false):=Lib.hid (decide_eq_false h2);clear h h1 h2
 go_enter Tryz.func52,Tryz.ntmps52
 go_wp2_with fail
 refine(Tryz.strings_CutPrefix _ _ _).mono ?_;rintro e w' ⟨rfl,rfl⟩;rw[HP.out,HD.out]
 go_wp2
 exact bodyPost_ret (v:= .bool false) (by simp[results,Tryz.results52,go_sem]) rfl ⟨by rw[HF.out],(Below.refl _ _).alloc (Av _) _⟩
set_option maxRecDepth 100000 in
set_option maxHeartbeats 1000000 in
theorem Ze(n:Nat)(hn:Hid (1≤n))(s:ByteArray)(w:World)(hs:s.size≤1000000)(h1:s.data.toList≠[47])(h2:s.data.toList.head?=some 47):
    CallsIn Fence.wide n prog 52 #[.string s] w fun e w'=>e= .returned (.bool (F8 s.data.toList))∧Below w.heap.size w w':=by
 have e1:(s.toList==[47])=false:=by rw[FV,beq_eq_false_iff_ne];exact h1
 have HP:=Lib.hid (LT s.data.toList);have HT:=Lib.hid (Zd h2);have HF:Hid (F8 s.data.toList=(C6 s.data.toList.tail).all F7):=Lib.hid (by unfold F8;simp[h1,h2]);have HD:Hid (decide (s.data.toList.head?=some 47)=true):=Lib.hid (decide_eq_true h2);clear h1 h2;refine callsIn_of_wp_marks Tryz.func52 rfl trivial ?_ rfl;simp only[Tryz.ntmps52,List.size_toArray,List.length_cons,List.length_nil,Nat.reduceAdd,Nat.reduceSub,Array.replicate_succ,Array.replicate_zero,List.push_toArray,List.append_toArray,List.nil_append,List.cons_append]
 gi_wp2_with fail
 refine Db ((callsIn_wide.2 (Tryz.strings_CutPrefix _ _ _)).mono ?_);rintro e w' ⟨rfl,rfl⟩;obtain⟨r,hr⟩:∃r:ByteArray,r=⟨(Lib.trimPrefix s.data.toList [47]).toArray⟩:=⟨_,rfl⟩;have hrl:r.data.toList=s.data.toList.tail:=by rw[hr,←HT.out]
 have HR:=Lib.hid hrl;have hrs:r.size≤1000000:=by rw[Lib.size_eq,hrl,List.length_tail,←Lib.size_eq];omega
 rw[HP.out,HD.out];rw[show(⟨(Lib.trimPrefix s.data.toList (ByteArray.mk #[47]).data.toList).toArray⟩:ByteArray)=r from hr.symm];clear hrl hr
 gi_wp2_with fail
 refine Db ((callsIn_wide.2 (ZX _ _)).mono ?_);rintro e w' ⟨rfl,rfl⟩
 gi_wp2_with fail
 have hR:Boxed (w.alloc (.cells #[.bool false] 4)) w.heap.size 4 (.bool false):=Boxed.new _ _ _;obtain⟨W0,hW0⟩:∃W0,w.alloc (.cells #[.bool false] 4)=W0:=⟨_,rfl⟩;have hz0:W0.heap.size=w.heap.size+1:=by rw[←hW0];simp
 have hB0:Below w.heap.size w W0:=by rw[←hW0];exact Ep _ _
 rw[hW0]at hR ⊢;obtain⟨WL,hWL⟩:∃WL,((W0.alloc (.cells #[.string r] 9)).alloc (.cells #[.string ⟨#[47]⟩] 9)).alloc (.cells #[.int .i64 0] 3)=WL:=⟨_,rfl⟩;have hzL:WL.heap.size=w.heap.size+1+1+1+1:=by rw[←hWL];simp[hz0]
 have hBL:Below W0.heap.size W0 WL:=by rw[←hWL];exact Kq _ _ _ _
 have k0:Boxed WL (w.heap.size+1) 9 (.string r):=by rw[←hWL,←hz0];exact Kr _ _ _ _
 have k1:Boxed WL (w.heap.size+1+1) 9 (.string ⟨#[47]⟩):=by rw[←hWL,←hz0];exact Ks _ _ _ _
 have k2:Boxed WL (w.heap.size+1+1+1) 3 (.int .i64 0):=by rw[←hWL,←hz0];exact Kt _ _ _ _
 have kR:Boxed WL w.heap.size 4 (.bool false):=BJ hR hBL hR.lt;have hBw:Below w.heap.size w WL:=hB0.trans (hBL.mono (by omega));rw[hWL];have HB0:=Lib.hid hz0;have HBL:=Lib.hid hzL;clear hW0 hWL hz0 hR hB0 hBL hzL
 refine RO rfl hn.out (gf:=153) rfl trivial (enters_of Tryz.func153 (by kernel_rfl) rfl)
  (Zc (n - 1) r hrs (w.heap.size+1) (w.heap.size+1+1) (w.heap.size+1+1+1) WL k0 k1 k2 (by omega) (by omega))
  (fun b hb=>by have:=HBL.out;omega) Keep3.trans (fun W l o o' hl _ _=>by have:=HBL.out;exact ZY (N:=WL.heap.size) (by omega) (by omega) (by omega) W l o' hl) (Below.refl _ _) (fun _=>rfl)
  (fun pre W=>Boxed W w.heap.size 4 (.bool false)∧(∀p∈D5 pre,F7 p=true)∧Below w.heap.size w W)
  (fun c pre W=>c= .ret∧Boxed W w.heap.size 4 (.bool false)∧(∃p∈D5 pre,F7 p=false)∧Below w.heap.size w W)
  (fun s X Y h hm=>⟨hm.boxed h.1 (by omega),h.2.1,hm.under h.2.2 (Av _) (fun b hb=>by omega) (by have:=HBL.out;omega)⟩)
  (fun c s X Y h hm=>⟨h.1,hm.boxed h.2.1 (by omega),h.2.2.1,hm.under h.2.2.2 (Av _) (fun b hb=>by omega) (by have:=HBL.out;omega)⟩)
  ⟨kR,by simp[D5],hBw⟩
  (fun x=>{tmps:=#[.string s,undef, .pointer (some ⟨w.heap.size,0,none⟩), .string r, .bool true, .string x, .string s, .bool false, .tuple #[.string r, .bool true], .string s, .tuple #[.string r, .bool true], .string r, .bool true, .bool true, .bool false, .string r,
    .func (.func 153) #[] #[.pointer (some ⟨w.heap.size+1+1,0,none⟩), .pointer (some ⟨w.heap.size+1,0,none⟩), .pointer (some ⟨w.heap.size+1+1+1,0,none⟩)], .string x,undef,undef,undef],defers:=[]}) ?assign ?body ?done ?stop
 case assign=>
  intro l x W K hK
  gi_wp2
  exact hK
 case body=>
  rintro l pre x W ⟨hc,hnm,hbw⟩ _ hsz;have hcell:=hc.cell;have hfz:=hc.frozen;have HN:=Lib.hid hnm;have HZ:=Lib.hid hsz;clear hnm hsz
  gi_wp2_with fail
  refine Db ((CallsIn.inRound l (callsIn_wide.2 (TJ x W))).mono ?_);rintro e W' ⟨rfl,hb'⟩;have hc':Boxed W' w.heap.size 4 (.bool false):=BJ hc hb' hc.lt;have hbw':Below w.heap.size w W':=hbw.trans (hb'.mono hbw.size);clear hcell hfz;have hcell:=hc'.cell;have hfz:=hc'.frozen;have HX:Hid (D5 (pre++[x])=D5 pre++[x.data.toList]):=Lib.hid (by simp[D5])
  cases hnx:F7 x.data.toList with
  |true=>
    gi_wp2
    have h1:=HBL.out;have h2:=HZ.out;exact⟨J6 hb',ZZ hb' (by omega) (by omega) (by omega),hc',by rw[HX.out];intro p hp;rcases List.mem_append.1 hp with hp|hp;exact HN.out p hp;simp at hp;rw[hp];exact hnx,hbw'⟩
  |false=>
    gi_wp2
    have h1:=HBL.out;exact⟨L0 (J6 hb') (by omega) _,rfl,hc'.set _,⟨x.data.toList,by rw[HX.out];simp,hnx⟩,hbw'.setCell (Av _) _⟩
 case done=>
  rintro D xs W hD hS ⟨hc,hnm,hbw⟩ hK;have HS:=Lib.hid hS;have HN:=Lib.hid hnm;clear hS hnm;have hcell:=hc.cell;have hfz:=hc.frozen
  gi_wp2
  refine⟨by simp, .inl ⟨_,_,rfl,run_takeDeferred ((KeepsOthers.setCell _ _ _).same D _ hK rfl),?_⟩⟩;have h1:=HBL.out;have hcb:=(Gg (hc.set (.bool true)) (show w.heap.size≠D by omega) (.deferred none)).cell;refine⟨.bool true,by simp[results,Tryz.f52,go_sem,hcb],by rw[HF.out,←HR.out,←HS.out,List.all_eq_true.2 HN.out],J7 (hbw.setCell (p:=⟨w.heap.size,0,none⟩) (Av _) _) (by omega) _⟩
 case stop=>
  rintro D c pre W hD hSp ⟨rfl,hc,hnm,hbw⟩ hK;have HS:=Lib.hid hSp;have HN:=Lib.hid hnm;clear hSp hnm;have hcell:=hc.cell
  gi_wp2
  refine⟨by simp, .inl ⟨_,_,rfl,run_takeDeferred hK,?_⟩⟩;have h1:=HBL.out;have hcb:=(Gg hc (show w.heap.size≠D by omega) (.deferred none)).cell;refine⟨.bool false,by simp[results,Tryz.f52,go_sem,hcb],?_,J7 hbw (by omega) _⟩;obtain⟨p,hp,hpf⟩:=HN.out;rw[HF.out,←HR.out,List.all_eq_false.2 ⟨p,HS.out.subset hp,by simp[hpf]⟩]
theorem Zf(s:ByteArray)(w:World)(hs:s.size≤1000000):
    Calls prog 52 #[.string s] w fun e w'=>e= .returned (.bool (F8 s.data.toList))∧Below w.heap.size w w':=by
 by_cases h1:s.data.toList=[47]
 ·exact TQ s w (.inl h1)
 by_cases h2:s.data.toList.head?=some 47
 ·exact callsIn_wide.1 (Ze 6 (Lib.hid (by omega)) s w hs h1 h2)
 exact TQ s w (.inr h2)
end Go.Proofs.YtobclmbkdhbnpaaGreatDoor
namespace Go.Proofs.YtobclmbkdhbnpaaGreatDoor
open Go.RowKit
def flat{α:Type}(sz:Nat)(cell:α→Nat→Value)(xs:List α):List Value:=xs.flatMap fun x=>(List.range sz).map (cell x)
section
variable {α:Type}{sz:Nat}{cell:α→Nat→Value}
theorem flat_get(xs:List α):∀(i j:Nat) (x:α),xs[i]?=some x→j<sz→(flat sz cell xs)[i * sz+j]?=some (cell x j):=by
 induction xs with
 |nil=>intro i j x h;simp at h
 |cons y ys ih=>
   intro i j x h hj;have e:flat sz cell (y::ys)=(List.range sz).map (cell y)++flat sz cell ys:=by simp[flat]
   rw[e]
   cases i with
   |zero=>
     simp at h;subst h;rw[CO (by simpa using hj)];simp[hj]
   |succ i=>
     rw[DM (by simp[Nat.add_mul];omega)];simp only[List.getElem?_cons_succ]at h;have:=ih i j x h hj;rw[←this]
     congr 1
     simp[Nat.add_mul];omega
def OwnL(sz:Nat)(cell:α→Nat→Value)(E:TypeId)(w:World)(base:Nat)(v:Value)(xs:List α):Prop:=
 w.ownsRow base E sz v xs.length (flat sz cell xs)
theorem OwnL.list{E:TypeId}{w:World}{base:Nat}{v:Value}{xs:List α}(h:OwnL sz cell E w base v xs)(hf:xs.length≤few){D:Nat→Prop}(hD:∀b,base≤b→b<w.heap.size→D b):ListR sz cell w D v xs:=by
 rcases h.2 with⟨rfl,hn⟩|⟨g,cap,cur,rfl,hb,hg,hnc,_,hcs,htake⟩
 ·obtain rfl:xs=[]:=DC hn;exact ListR.nil_
 refine⟨_,_,rfl,hnc,hf,fun _=>⟨g,0,rfl,hD g hb (Array.getElem?_eq_some_iff.1 hg).1,fun i x j hi hj=>?_⟩⟩
 have hlt:i * sz+j<xs.length * sz:=by
  have h1:=(Ag.1 hi).1;have h2:(i+1) * sz≤xs.length * sz:=Nat.mul_le_mul_right sz h1;rw[Nat.add_mul]at h2;omega
 rw[Nat.zero_add,cell_of_row w g _ cur E (0,0) hg,←flat_get xs i j x hi hj,←htake,List.getElem?_take,if_pos hlt];simp
end
theorem Zg(l:Bs):Lib.hasSuffix l [47]=decide (l.getLast?=some 47):=by
 unfold Lib.hasSuffix;rw[Bool.eq_iff_iff,List.isSuffixOf_iff_suffix,decide_eq_true_iff];rcases List.eq_nil_or_concat l with rfl|⟨a,x,rfl⟩
 ·simp
 simp only[List.concat_eq_append,List.getLast?_concat,Option.some.injEq];constructor
 ·rintro⟨t,ht⟩;have:=congrArg List.getLast? ht
  simpa[eq_comm]using this
 rintro rfl;exact⟨a,rfl⟩
theorem TR(l:Bs):(CF l).length≤l.length+1:=by
 have h1:(CF l).length≤(C6 l).length:=List.length_filter_le _ _
 have h2:(C6 l).length≤l.length+1:=by
  clear h1
  induction l with
  |nil=>simp[C6]
  |cons c t ih=>
    rw[OR];split
    ·simp;omega
    split
    ·simp
    rename_i h;rw[h]at ih;simp at ih ⊢;omega
 omega
theorem Zh(xs:List AB):flat 1 Km xs=xs.map Value.string:=by
 induction xs with
 |nil=>rfl
 |cons x xs ih=>
   unfold flat at ih ⊢;rw[List.flatMap_cons,ih];rfl
theorem Tryz.infoStr:(prog.info? 9).map (fun i=>(i.zero,i.size,i.bytes))=some (some (.string ⟨#[]⟩),1,16):=by kernel_rfl
set_option maxHeartbeats 400000 in
theorem Zi(s:ByteArray)(w:World)(i:Nat)(hi:Lib.indexByte s.data.toList 47=i)(hlt:i<s.size)(hmax:s.size≤1000000):
    Calls prog 158 #[.string s, .string ⟨#[47]⟩] w fun e w'=>e= .returned (.tuple #[.string (s.extract 0 i), .string (s.extract (i+1) s.size), .bool true])∧∃n,w'=w.drewN n:=by
 have HI:=Lib.hid hi;clear hi
 have h1:Calls prog 175 #[.string s, .string ⟨#[47]⟩] w fun e w'=>e= .returned (.tuple #[.string (s.extract 0 i), .string (s.extract (i+1) s.size), .bool true])∧∃n,w'=w.drewN n:=by
  go_enter Tryz.func175,Tryz.ntmps175
  go_wp2_with fail
  refine(PK _ _).mono ?_;rintro e w' ⟨rfl,rfl⟩;rw[HI.out]
  go_wp2_with fail
  go_quiet (fail)
  go_wp2
  go_ret3
  exact⟨rfl,_,rfl⟩
 go_enter Tryz.func158,Tryz.ntmps158
 go_wp2_with fail
 refine h1.mono ?_;rintro e w' ⟨rfl,n,rfl⟩
 go_wp2
 go_ret3
 exact⟨rfl,_,rfl⟩
set_option maxHeartbeats 400000 in
theorem Zj(s:ByteArray)(w:World)(hi:Lib.indexByte s.data.toList 47= -1):
    Calls prog 158 #[.string s, .string ⟨#[47]⟩] w fun e w'=>e= .returned (.tuple #[.string s, .string ⟨#[]⟩, .bool false])∧w=w':=by
 have HI:=Lib.hid hi;clear hi
 have h1:Calls prog 175 #[.string s, .string ⟨#[47]⟩] w fun e w'=>e= .returned (.tuple #[.string s, .string ⟨#[]⟩, .bool false])∧w=w':=by
  go_enter Tryz.func175,Tryz.ntmps175
  go_wp2_with fail
  refine(PK _ _).mono ?_;rintro e w' ⟨rfl,rfl⟩;rw[HI.out]
  go_wp2
  go_ret3
  exact⟨rfl,rfl⟩
 go_enter Tryz.func158,Tryz.ntmps158
 go_wp2_with fail
 refine h1.mono ?_;rintro e w' ⟨rfl,rfl⟩
 go_wp2
 go_ret3
 exact⟨rfl,rfl⟩
end Go.Proofs.YtobclmbkdhbnpaaGreatDoor
namespace Go.Proofs.YtobclmbkdhbnpaaGreatDoor
open Go.RowKit Go.Shelf
attribute [local go_sem] Oper.semAt_some
def Zk(s:AB)(w:World)(e:Ending)(w':World):Prop:=∃(p q:AB) (b:Bool) (n:Nat),e= .returned (.tuple #[.string p, .string q, .bool b])∧w'=w.drewN n∧CF s.data.toList=one_ p.data.toList++CF q.data.toList∧(0<s.size→q.size<s.size)
theorem Zl(s:ByteArray)(w:World)(hmax:s.size≤1000000):Calls prog 158 #[.string s, .string ⟨#[47]⟩] w (Zk s w):=by
 by_cases h:(47:UInt8)∈s.data.toList
 ·obtain⟨i,hi,hlt,hl,hn⟩:=PL h;have hlt':i<s.size:=by rw[Lib.size_eq];exact hlt
  refine(Zi s w i hi hlt' hmax).mono ?_;rintro e w' ⟨rfl,n,rfl⟩;refine⟨_,_,_,n,rfl,rfl,?_,fun _=>PN s i hlt'⟩;rw[Lib.extract_data,Lib.extract_to_end];simp only[List.drop_zero,Nat.sub_zero]
  conv=>lhs;rw[hl]
  exact WO hn _
 refine(Zj s w (TD h)).mono ?_;rintro e w' ⟨rfl,rfl⟩;refine⟨_,_,_,0,rfl,rfl,?_,fun h=>h⟩;rw[MN h];simp[Ji]
theorem Zm(s:ByteArray)(w:World):
    Calls prog 119 #[.string s] w fun e w'=>
     e= .returned (.func (.func 157) #[] #[.pointer (some ⟨w.heap.size,0,none⟩)])∧w'=w.alloc (.cells #[.string s] 9):=by
 go_enter Tryz.func119,Tryz.ntmps119
 go_wp2
 go_ret
 exact⟨rfl,rfl⟩
theorem Ms(s:ByteArray):s.toList.isEmpty=decide (s.size=0):=by
 rw[FV,Lib.size_eq,Bool.eq_iff_iff,List.isEmpty_iff,decide_eq_true_iff,List.length_eq_zero_iff]
def Zn(a:Nat)(X Y:World):Prop:=Y.heap[a]?=X.heap[a]?
set_option maxRecDepth 100000 in
set_option maxHeartbeats 1000000 in
theorem Zo(n:Nat)(s:ByteArray)(hs:s.size≤1000000)(b0:Nat)(w:World)(h0:Boxed w b0 9 (.string s)):
    SeqW Fence.wide n prog 157 #[.pointer (some ⟨b0,0,none⟩)] (fun x:AB=>#[.string x]) (fun b=>b=b0) (Zn b0) (fun xs=>D5 xs<+:CF s.data.toList)
     (fun xs=>D5 xs=CF s.data.toList) (fun pre=>D5 pre<+:CF s.data.toList) w:=fun l J Jx W hW hJ hJx hY hst=>by
 have k0:Boxed W b0 9 (.string s):=BJ h0 hW h0.lt;refine callsIn_of_wp Tryz.func157 rfl trivial ?_ rfl;simp only[Tryz.ntmps157,List.size_toArray,List.length_cons,List.length_nil,Nat.reduceAdd,Nat.reduceSub,Array.replicate_succ,Array.replicate_zero,List.push_toArray,List.append_toArray,List.nil_append,List.cons_append]
 gi_wp2
 gi_loopw [3] (fun _ wr=>∃(pre:List AB) (r:ByteArray),Boxed wr b0 9 (.string r)∧J pre wr∧Hid (D5 pre++CF r.data.toList=CF s.data.toList)∧r.size≤s.size) (fun _ wr=>Mr wr b0)
 case atStart=>exact⟨[],s,k0,hst,rfl,Av _⟩
 case round=>
  obtain⟨pre,r,m0,hj,hpre,hle⟩:=hrel;clear k0 hst;have c0:=m0.cell;have f0:=m0.frozen;by_cases hr:r.size=0
  ·have he:r.toList.isEmpty=true:=by rw[Ms];simp[hr]
   have he':r.toList=[]:=List.isEmpty_iff.1 he;have HP:Hid (CF r.data.toList=[]):=by rw[←FV,he'];exact Lib.hid Ji
   gi_wp2
   go_end0
   exact⟨⟨_,rfl⟩, .inl ⟨pre,by rw[←hpre.out,HP.out];simp,hj⟩⟩
  have he:r.toList.isEmpty=false:=by rw[Ms];simp[hr]
  gi_wp2_with fail
  refine Db ((callsIn_wide.2 (Zl _ _ (by omega))).mono ?_);rintro e w' ⟨p,q,b,nd,rfl,rfl,hpq,hq⟩;have hql:=hq (by omega);have HP:=Lib.hid hpq;clear hpq hq;have hj':J pre ((wr.drewN nd).setCell ⟨b0,0,none⟩ (.string q)):=hJ _ _ _ (hJ _ _ _ hj (Moves.below (MF (Below.refl _ _) nd))) (Moves.set_ (own:=fun b=>b=b0) _ rfl _);have m0':Boxed ((wr.drewN nd).setCell ⟨b0,0,none⟩ (.string q)) b0 9 (.string q):=Boxed.set _ (show Boxed (wr.drewN nd) b0 9 (.string r) from m0);by_cases hp:p.size=0
  ·have hpe:p.toList.isEmpty=true:=by rw[Ms];simp[hp]
   have hpe':p.toList=[]:=List.isEmpty_iff.1 hpe;have HO:Hid (one_ p.data.toList=[]):=by rw[←FV,hpe'];exact Lib.hid rfl
   gi_wp2
   refine⟨fun _ h=>(by cases h),?_⟩
   gi_wp2
   go_roundw
   case rel=>exact⟨pre,q,m0',hj',Lib.hid (by rw[←hpre.out,HP.out,HO.out];simp),by omega⟩
   case measure=>rw[Jv m0',Jv m0];exact hql
  have HO:Hid (one_ p.data.toList=[p.data.toList]):=Lib.hid (if_neg (fun e=>hp (by rw[Lib.size_eq,e];rfl)));have hpe:p.toList.isEmpty=false:=by rw[Ms];simp[hp]
  obtain⟨fn,tmps,assign,body,hy,hR⟩:=hY pre p _ hj' (by rw[←hpre.out,HP.out,HO.out];simp[D5])
  gi_wp2
  refine⟨(fun h=>by cases h),hR.mono ?_⟩;rintro e W3 (⟨rfl,hJ3,hk3⟩|⟨rfl,hJx3⟩)
  ·have q0:Boxed W3 b0 9 (.string q):=hk3.trans m0';clear c0 f0 hy hR
   gi_wp2
   go_roundw
   case rel=>exact⟨pre++[p],q,q0,hJ3,Lib.hid (by rw[←hpre.out,HP.out,HO.out];simp[D5]),by omega⟩
   case measure=>rw[Jv q0,Jv m0];exact hql
  gi_wp2
  refine bodyPost_ret (results_none rfl _ _ _) rfl ?_;exact⟨⟨_,rfl⟩, .inr ⟨pre++[p],by rw[←hpre.out,HP.out,HO.out];simp[D5],hJx3⟩⟩
end Go.Proofs.YtobclmbkdhbnpaaGreatDoor
namespace Go.Proofs.YtobclmbkdhbnpaaGreatDoor
open Go.RowKit Go.Shelf
attribute [local go_sem] Oper.semAt_some
theorem Moves.row{own:Nat→Prop}{B:Nat}{X Y:World}(h:Moves own B X Y){base e size k:Nat}{v:Value}{xs:List Value}(hr:X.ownsRow base e size v k xs)(ho:∀b,own b→b<base):Y.ownsRow base e size v k xs:=by
 refine⟨hr.1,?_⟩;rcases hr.2 with h'|⟨g,cap,cur,hv,hg,hb,r⟩
 ·exact .inl h'
 refine .inr ⟨g,cap,cur,hv,hg,?_,r⟩;exact(h.block g (Array.getElem?_eq_some_iff.1 hb).1 (fun e=>by have:=ho g e;omega) (.inr ⟨_,hb,rfl⟩)).trans hb
theorem Zp{W w1:World}{base B:Nat}{t e:TypeId}{size:Nat}{v v':Value}{k m:Nat}{xs ys:List Value}{tmp:Obj}
    (hv:Boxed W B t v) (hrow:W.ownsRow base e size v k xs) (hbase:base≤W.heap.size) (hB:B<base)
    (hown':w1.ownsRow base e size v' m ys) (hgrow:(W.alloc tmp).grownBy w1 v.ownBlock):
    Boxed w1 B t v∧Boxed (w1.setCell ⟨B,0,none⟩ v') B t v'∧(w1.setCell ⟨B,0,none⟩ v').ownsRow base e size v' m ys∧KeepsOthers W (w1.setCell ⟨B,0,none⟩ v')∧
     Below B W (w1.setCell ⟨B,0,none⟩ v')∧∀j,j<base→j≠B→(w1.setCell ⟨B,0,none⟩ v').heap[j]?=W.heap[j]?:=by
 have hne:∀j,j<base→some j≠v.ownBlock:=by
  intro j hj e;have:=World.ownsRow.lt hrow j e.symm;omega
 have hblk:∀j,j<base→w1.heap[j]?=W.heap[j]?:=fun j hj=>(hgrow.block j (by simp;omega) (hne j hj)).trans (Below.heap_alloc W tmp j (by omega));have hv1:Boxed w1 B t v:=(hblk B hB).trans hv;refine⟨hv1,hv1.set v',ownsRow_setCell_below hown' hB v',?_,?_,fun j hj hj'=>(Below.heap_setCell w1 ⟨B,0,none⟩ v' j hj').trans (hblk j hj)⟩
 ·refine((KeepsOthers.alloc W tmp).trans (KeepsOthers.of_grownBy hgrow fun j o ej hj=>?_)).trans (KeepsOthers.setCell _ _ _);rcases(hrow.alloc tmp).2 with⟨rfl,_⟩|⟨g,cap,cur,rfl,_,hgb,_⟩
  ·simp[Value.ownBlock]at ej
  obtain rfl:g=j:=by simpa[Value.ownBlock]using ej
  rw[hgb]at hj;cases hj;rfl
 have hs:=hgrow.size;simp at hs;exact⟨hgrow.os,hgrow.tape,hgrow.output,by simp[World.setCell];omega,fun j hj=>(Below.heap_setCell w1 ⟨B,0,none⟩ v' j (by show j≠B;omega)).trans (hblk j (by omega))⟩
def TS(l:Bs)(w:World)(e:Ending)(w':World):Prop:=∃(v:Value) (ss:List AB),e= .returned (.tuple #[v, .bool (decide (l.head?=some 47)), .bool (decide (l.getLast?=some 47))])∧Qw w' (O6 w w') v ss∧D5 ss=CF l∧Below w.heap.size w w'∧∃A c,v= .slice A ss.length c∧c≤maxLen
set_option maxRecDepth 100000 in
set_option maxHeartbeats 2000000 in
theorem Zq(n:Nat)(hn:Hid (1≤n))(s:ByteArray)(w:World)(hs:s.size≤60000):
    CallsIn Fence.wide n prog 78 #[.string s] w (TS s.data.toList w):=by
 obtain⟨i0,hi,hz0,hz1,hz2⟩:=info_parts Tryz.infoStr;refine callsIn_of_wp_marks Tryz.func78 rfl trivial ?_ rfl;simp only[Tryz.ntmps78,List.size_toArray,List.length_cons,List.length_nil,Nat.reduceAdd,Nat.reduceSub,Array.replicate_succ,Array.replicate_zero,List.push_toArray,List.append_toArray,List.nil_append,List.cons_append]
 gi_wp2_with fail
 refine Db ((callsIn_wide.2 (Zm _ _)).mono ?_);rintro e w' ⟨rfl,rfl⟩
 gi_wp2_with fail
 obtain⟨WL,hWL⟩:∃WL,(w.alloc (.cells #[.slice none 0 0] 68)).alloc (.cells #[.string s] 9)=WL:=⟨_,rfl⟩;have hzL:WL.heap.size=w.heap.size+1+1:=by rw[←hWL];simp
 have hBw:Below w.heap.size w WL:=by rw[←hWL];exact G7 _ _ _
 have kR:Boxed WL w.heap.size 68 (.slice none 0 0):=by rw[←hWL];exact Ga _ _ _
 have k0:Boxed WL (w.heap.size+1) 9 (.string s):=by rw[←hWL];exact Gb _ _ _
 rw[hWL];have HZ:=Lib.hid hzL;clear hWL hzL
 refine RO rfl hn.out (gf:=157) rfl trivial (enters_of Tryz.func157 (by kernel_rfl) rfl)
  (Zo (n - 1) s (by omega) (w.heap.size+1) WL k0)
  (fun b hb=>by have:=HZ.out;omega) (fun h k=>Eq.trans k h) (fun W l o o' hl _ _=>by have:=HZ.out;exact World.putObj_heap_other (by omega)) (Below.refl _ _) (fun _=>rfl)
  (fun pre W=>∃v,Boxed W w.heap.size 68 v∧W.ownsRow WL.heap.size 9 1 v pre.length (pre.map Value.string)∧Below w.heap.size w W)
  (fun _ _ _=>False)
  (fun s X Y h hm=>by
    obtain⟨v,h1,h2,h3⟩:=h;have:=HZ.out
    exact⟨v,hm.boxed h1 (by omega),hm.row h2 (fun b hb=>by omega),hm.under h3 (Av _) (fun b hb=>by omega) (by omega)⟩)
  (fun _ _ _ _ h _=>h)
  ⟨_,kR,World.ownsRow_nil _ _ _ _,hBw⟩
  (fun x=>{tmps:=#[.string s,undef, .pointer (some ⟨w.heap.size,0,none⟩), .bool false, .bool false, .string x, .string s, .func (.func 157) #[] #[.pointer (some ⟨w.heap.size+1,0,none⟩)], .string x,undef,undef,undef,undef,undef,undef,undef,undef,undef],defers:=[]}) ?assign ?body ?done ?stop
 case assign=>
  intro l x W K hK
  gi_wp2
  exact hK
 case body=>
  rintro l pre x W ⟨v,hc,hrow,hbw⟩ hpf hsz;have hcell:=hc.cell;have HZW:=Lib.hid hsz
  have hpl:pre.length≤1000000:=by
   have h1:=hpf.length_le;have h2:=TR s.data.toList;rw[←Lib.size_eq]at h2;simp[D5]at h1;omega
  have hmx:pre.length+1≤maxLen:=by unfold maxLen;omega
  clear hsz hpf
  gi_wp2_with (gi_at_builtin;refine wpListIn_append_own _ rfl _ _ 68 rfl WL.heap.size 9 i0 (.string ⟨#[]⟩) 1 16 Tryz.underlying68 hi hz0 hz1 hz2 rfl (by decide) _ _ _ rfl (hrow.alloc _) ⟨W.heap.size,0,none⟩ 1 1 [.string x] rfl rfl (cell_one_new _ _ _) (by simp[Value.oneCell']) (by omega) (by omega) (by have:=HZW.out;simp;omega) ?_;intro v' w1 hown' hgrow _;obtain⟨g',cap',rfl⟩:=ownsRow_succ hown';obtain⟨hv1,hv2,hr2,hk2,hb2,hj2⟩:=Zp hc hrow (by have:=HZW.out;omega) (by have:=HZ.out;omega) hown' hgrow;have hc1:=hv1.cell;have hf1:=hv1.frozen)
  have h1:=HZ.out;exact⟨hk2.from _,hj2 _ (by omega) (by omega),⟨_,hv2,by simpa using hr2,hbw.trans hb2⟩⟩
 case done=>
  rintro D xs W hD hS ⟨v,hc,hrow,hbw⟩ hK;have HS:=Lib.hid hS;clear hS
  obtain⟨A,cc,rfl⟩:∃A c,v= .slice A xs.length c:=by
   rcases hrow.2 with⟨rfl,hn⟩|⟨g,cap,cur,rfl,_⟩
   ·exact⟨none,0,by rw[hn]⟩
   exact⟨_,_,rfl⟩
  have hccm:cc≤maxLen:=by
   rcases hrow.2 with⟨h1,_⟩|⟨g,cap,cur,h1,h2,h3,h4,h5,_⟩
   ·injection h1 with _ _ h1;rw[h1];exact BC _
   injection h1 with _ _ h1;rw[h1];exact h5
  have hcell:=hc.cell;have hfz:=hc.frozen
  gi_wp2_with fail
  refine wpIn_wide.2 ?_;refine wp_region_still_tail 5 (by kernel_rfl) (by kernel_rfl) ?_;simp only[List.take_succ_cons,List.take_zero,List.drop_succ_cons,List.drop_zero]
  still_step
  still_step
  still_call (Tryz.strings_HasPrefix _ _ _)
  still_step
  still_call (Tryz.strings_HasSuffix _ _ _ (by omega))
  refine wpStill_nil ?_;change wpList _ _ _ _ _ W.drew;have hc2:Boxed W.drew w.heap.size 68 (.slice A xs.length cc):=hc;have hr2:W.drew.ownsRow WL.heap.size 9 1 (.slice A xs.length cc) xs.length (xs.map Value.string):=hrow;have hb2:Below w.heap.size w W.drew:=hbw.drew;have hK2:W.drew.heap[D]?=some (.deferred (some [])):=hK;clear hc hrow hbw hK hcell hfz;generalize W.drew=W2 at *;have hcell:=hc2.cell;have hfz:=hc2.frozen
  go_wp2
  gi_wp2
  refine⟨by simp, .inl ⟨_,_,rfl,run_takeDeferred ((KeepsOthers.setCell _ _ _).same D _ hK2 rfl),?_⟩⟩;have h1:=HZ.out;have hcb:=(Gg (hc2.set (.slice A xs.length cc)) (show w.heap.size≠D by omega) (.deferred none)).cell;refine⟨.tuple #[.slice A xs.length cc, .bool (Lib.hasPrefix s.data.toList [47]), .bool (Lib.hasSuffix s.data.toList [47])],by simp[results,Tryz.f78,go_sem,hcb], .slice A xs.length cc,xs,by rw[LT,Zg],?_,HS.out,J7 (hb2.setCell (p:=⟨w.heap.size,0,none⟩) (Av _) _) (by omega) _,A,cc,rfl,hccm⟩;have hrow':=ownsRow_putObj (ownsRow_setCell_below hr2 (a:=⟨w.heap.size,0,none⟩) (by show w.heap.size<_;omega) (.slice A xs.length cc)) (.deferred none) ((KeepsOthers.setCell _ _ _).same D _ hK2 rfl) rfl
  have hlen:xs.length≤few:=by
   have h2:=TR s.data.toList;rw[←HS.out,←Lib.size_eq]at h2;simp[D5]at h2;unfold few;omega
  refine OwnL.list (sz:=1) (cell:=Km) (E:=9) (base:=WL.heap.size) ?_ hlen (fun b hb hlt=>⟨by omega,hlt⟩);unfold OwnL;rw[Zh];exact hrow'
 case stop=>
  rintro D c pre W hD hSp h hK;exact h.elim
theorem Zr(s:ByteArray)(w:World)(hs:s.size≤60000):Calls prog 78 #[.string s] w (TS s.data.toList w):=
 callsIn_wide.1 (Zq 6 (Lib.hid (by omega)) s w hs)
end Go.Proofs.YtobclmbkdhbnpaaGreatDoor
