/-
  Part 12 of the proof of WatchTreesP: what the statement's proof uses of the texts in wip/tpl.
-/
import Derived.Test.YtbglbmnhgbgelaaGreatDoorShelf
import Derived.Laws.RangeAny
import Derived.Deep.LoopGhost
import Derived.Lib.OthersKept
import Derived.Lib.IndexLaws
import Derived.Shelf.Abstract
import Derived.Shelf.RegionOpen
import Derived.OwnWalkIn
import Derived.TacticsInMore
import Derived.LoopNIn
import Derived.LoopIn
import Derived.Maps.AppendAt
import Derived.OwnWalk
import Derived.StillTailTactics
import Derived.Test.YtbglbmnhgbgelaaGreatDoorQg11
set_option maxRecDepth 10000
set_option maxHeartbeats 4000000
set_option linter.unusedVariables false
set_option linter.unusedSimpArgs false
namespace Go.Proofs.YtbglbmnhgbgelaaGreatDoor
open Go.RowKit
def KV(r:AE×Int×Int×Int×Int):List AV:=[.v (.string r.1), .v (.int .i64 r.2.1), .v (.int .i64 r.2.2.1), .v (.int .i64 r.2.2.2.1), .v (.int .i64 r.2.2.2.2)]
theorem cF{a b:Nat}(h:a<b):Nat.blt a b=true:=by rw[Nat.blt_eq];exact h
theorem cG{c:Cal}{j:Nat}(h:j<4):∃x,(LM c)[j]?=some x∧(D0 c)[1+j]?=some (.v (.int .i64 x)):=by
 match j,h with
 |0,_=>exact⟨_,rfl,rfl⟩
 |1,_=>exact⟨_,rfl,rfl⟩
 |2,_=>exact⟨_,rfl,rfl⟩
 |3,_=>exact⟨_,rfl,rfl⟩
theorem cH{l:List Int}{n j:Nat}{x:Int}(hn:n≤j)(hy:l[j]?=some x)(hx:x≠0):((l.drop n).any fun x=>decide (x≠0))=true:=by
 rw[List.any_eq_true]
 refine⟨x,?_,by simpa using hx⟩
 refine Au (i:=j - n) ?_
 rw[List.getElem?_drop,show n+(j - n)=j by omega]
 exact hy
theorem cJ{l:List Int}{n:Nat}(h:∀i x,n≤i→l[i]?=some x→x=0):((l.drop n).any fun x=>decide (x≠0))=false:=by
 rw[List.any_eq_false]
 intro x hx
 obtain⟨i,hi⟩:=List.mem_iff_getElem?.1 hx
 rw[List.getElem?_drop]at hi
 simp[h _ x (Nat.le_add_right n i) hi]
theorem V4(n:Int):0≤(Bi n).2.1∧(Bi n).2.1≤2:=by
 unfold Bi
 split
 ·decide
 rename_i h
 obtain⟨m,rfl⟩:=Int.eq_ofNat_of_zero_le (show 0≤n by omega)
 have hm:m<22:=by omega
 have key:∀m,m<22→0≤((E7[m]?).getD (⟨#[]⟩,0,0,0,0)).2.1∧((E7[m]?).getD (⟨#[]⟩,0,0,0,0)).2.1≤2:=by decide
 exact key m hm
section
theorem V5(n:Nod)(euid egid want:Int):AFn Tryz.prog 187 [.agg (Ah n), .v (.int .i64 euid), .v (.int .i64 egid), .v (.int .i64 want)] (fun r=>r= .v (.bool (Ee n euid egid want))):=by
 refine enter Tryz.func187 rfl rfl rfl rfl rfl 0 rfl ?_
 refine w_ (b_ (h:=a_ (h:=e_ (q_ (w_ (m_ (h:=BJ (h:=m_ (h:=?_)))))))))
 refine Ax false rfl rfl (fun hb1=>?_) (fun hb1=>?_)
 ·have hc1:=bp hb1
  refine A3 (h:=A3 (h:=Af (h:=e_ (Bf (h:=w_ (a_ (h:=e_ (A6 (A7 (?_))))))))))
  refine AB ?_
  first|(exfalso;first|contradiction|omega)|(exact vb (by first|(simp[Ee,Es, *];done)|(simp[Ee,Es, *];intro h;exact absurd ((by assumption:euid=n.uid).trans h) (by assumption))))
 have hc1:=bp hb1
 refine m_ (h:=CZ (h:=Am (h:=e_ (?_))))
 refine A8 rfl (fun hb2=>?_) (fun hb2=>?_)
 ·have hc2:=bp hb2
  refine w_ (a_ (h:=e_ (A6 (A7 (?_)))))
  refine AB ?_
  first|(exfalso;first|contradiction|omega)|(exact vb (by first|(simp[Ee,Es, *];done)|(simp[Ee,Es, *];intro h;exact absurd ((by assumption:euid=n.uid).trans h) (by assumption))))
 have hc2:=bp hb2
 refine AG (q_ (w_ (m_ (h:=AQ (h:=e_ (?_))))))
 refine A8 rfl (fun hb3=>?_) (fun hb3=>?_)
 ·have hc3:=bp hb3
  refine w_ (m_ (h:=EP (h:=AQ (h:=m_ (h:=?_)))))
  refine Ax false rfl rfl (fun hb4=>?_) (fun hb4=>?_)
  ·have hc4:=bp hb4
   refine A3 (h:=A3 (h:=A3 (h:=Af (h:=m_ (h:=A3 (h:=A3 (h:=A3 (h:=A3 (h:=Af (h:=a_ (h:=e_ (A6 (A7 (?_))))))))))))))
   refine AB ?_
   first|(exfalso;first|contradiction|omega)|(exact vb (by first|(simp[Ee,Es, *];done)|(simp[Ee,Es, *];intro h;exact absurd ((by assumption:euid=n.uid).trans h) (by assumption))))
  have hc4:=bp hb4
  refine f_ (h:=l_ (h:=AQ (h:=Am (h:=m_ (h:=?_)))))
  refine Ax false rfl rfl (fun hb5=>?_) (fun hb5=>?_)
  ·have hc5:=bp hb5
   refine A3 (h:=A3 (h:=A3 (h:=A3 (h:=Af (h:=a_ (h:=e_ (A6 (A7 (?_)))))))))
   refine AB ?_
   first|(exfalso;first|contradiction|omega)|(exact vb (by first|(simp[Ee,Es, *];done)|(simp[Ee,Es, *];intro h;exact absurd ((by assumption:euid=n.uid).trans h) (by assumption))))
  have hc5:=bp hb5
  refine f_ (h:=l_ (h:=EP (h:=BF (h:=Am (h:=a_ (h:=e_ (A6 (A7 (?_)))))))))
  refine AB ?_
  first|(exfalso;first|contradiction|omega)|(exact vb (by first|(simp[Ee,Es, *];done)|(simp[Ee,Es, *];intro h;exact absurd ((by assumption:euid=n.uid).trans h) (by assumption))))
 have hc3:=bp hb3
 refine AG (w_ (f_ (h:=l_ (h:=EP (h:=a_ (h:=e_ (q_ (w_ (m_ (h:=f_ (h:=l_ (h:=AQ (h:=e_ (?_))))))))))))))
 refine A8 rfl (fun hb6=>?_) (fun hb6=>?_)
 ·have hc6:=bp hb6
  refine AP (f_ (h:=l_ (h:=Sk (h:=EP (h:=a_ (h:=e_ (w_ (m_ (h:=m_ (h:=EP (h:=m_ (h:=AQ (h:=a_ (h:=e_ (A6 (?_))))))))))))))))
  refine AB ?_
  first|(exfalso;first|contradiction|omega)|(exact vb (by first|(simp[Ee,Es, *];done)|(simp[Ee,Es, *];intro h;exact absurd ((by assumption:euid=n.uid).trans h) (by assumption))))
 have hc6:=bp hb6
 refine w_ (m_ (h:=f_ (h:=l_ (h:=AQ (h:=e_ (?_))))))
 refine A8 rfl (fun hb7=>?_) (fun hb7=>?_)
 ·have hc7:=bp hb7
  refine AP (f_ (h:=l_ (h:=Sk (h:=EP (h:=a_ (h:=e_ (w_ (m_ (h:=m_ (h:=EP (h:=m_ (h:=AQ (h:=a_ (h:=e_ (A6 (?_))))))))))))))))
  refine AB ?_
  first|(exfalso;first|contradiction|omega)|(exact vb (by first|(simp[Ee,Es, *];done)|(simp[Ee,Es, *];intro h;exact absurd ((by assumption:euid=n.uid).trans h) (by assumption))))
 have hc7:=bp hb7
 refine AG (w_ (m_ (h:=m_ (h:=EP (h:=m_ (h:=AQ (h:=a_ (h:=e_ (A6 (?_))))))))))
 refine AB ?_
 first|(exfalso;first|contradiction|omega)|(exact vb (by first|(simp[Ee,Es, *];done)|(simp[Ee,Es, *];intro h;exact absurd ((by assumption:euid=n.uid).trans h) (by assumption))))
theorem R9(n:Int):AFn Tryz.prog 113 [.v (.int .i64 n)] (fun r=>r= .v (.bool (Mt n))):=by
 refine enter Tryz.func113 rfl rfl rfl rfl rfl 0 rfl ?_
 refine w_ (a_ (h:=e_ (w_ (m_ (h:=Fu (h:=m_ (h:=?_)))))))
 refine Ax true rfl rfl (fun hb1=>?_) (fun hb1=>?_)
 ·have hc1:=bp hb1
  refine m_ (h:=M7 (h:=Af (h:=a_ (h:=e_ (A6 (?_))))))
  refine AB ?_
  first|(exfalso;first|contradiction|omega)|(exact vb (by simp[Mt, *]))
 have hc1:=bp hb1
 refine A3 (h:=A3 (h:=Am (h:=a_ (h:=e_ (A6 (?_))))))
 refine AB ?_
 first|(exfalso;first|contradiction|omega)|(exact vb (by simp[Mt, *]))
theorem V6:AFn Tryz.prog 148 [] (fun r=>r= .sl 5 (E7.map KV) none):=by
 refine enter Tryz.func148 rfl rfl rfl rfl rfl 0 rfl ?_
 refine w_ (a_ (h:=e_ (w_ (AT (h:=AT (h:=AT (h:=AT (h:=AT (h:=AT (h:=AT (h:=AT (h:=AT (h:=AT (h:=AT (h:=AT (h:=AT (h:=AT (h:=AT (h:=AT (h:=AT (h:=AT (h:=AT (h:=AT (h:=?_))))))))))))))))))))))))
 refine AT (h:=AT (h:=Bm (h:=a_ (h:=e_ (A6 (?_))))))
 refine AB ?_
 rfl
theorem cK:AFn Tryz.prog 147 [] (fun r=>r= .v (.int .i64 22)):=by
 refine enter Tryz.func147 rfl rfl rfl rfl rfl 0 rfl ?_
 refine w_ (a_ (h:=e_ (w_ (?_))))
 refine A4 rfl (AK (V6) ?_)
 rintro r rfl
 refine n_ (h:=a_ (h:=e_ (A6 (?_))))
 refine AB ?_
 rfl
theorem V7(n:Int):AFn Tryz.prog 109 [.v (.int .i64 n)] (fun r=>r= .agg (KV (Bi n))):=by
 refine enter Tryz.func109 rfl rfl rfl rfl rfl 0 rfl ?_
 refine w_ (AW (h:=e_ (q_ (w_ (m_ (h:=BJ (h:=m_ (h:=?_))))))))
 refine Ax false rfl rfl (fun hb1=>?_) (fun hb1=>?_)
 ·have hc1:=bp hb1
  refine A3 (h:=A3 (h:=A3 (h:=Af (h:=e_ (Bf (h:=w_ (AT (h:=s_ (h:=e_ (A6 (A7 (?_))))))))))))
  refine AB ?_
  rw[Bi,if_pos (by omega)];rfl
 have hc1:=bp hb1
 refine m_ (h:=?_)
 refine B6 (AK (cK) ?_)
 rintro r rfl
 refine Fu (h:=Am (h:=e_ (?_)))
 refine A8 rfl (fun hb2=>?_) (fun hb2=>?_)
 ·have hc2:=bp hb2
  refine w_ (AT (h:=s_ (h:=e_ (A6 (A7 (?_))))))
  refine AB ?_
  rw[Bi,if_pos (by omega)];rfl
 have hc2:=bp hb2
 refine AG (w_ (?_))
 refine A4 rfl (AK (V6) ?_)
 rintro r rfl
 obtain⟨m,rfl⟩:=Int.eq_ofNat_of_zero_le (show 0≤n by omega)
 obtain⟨row,hrow⟩:∃row,E7[m]?=some row:=⟨E7[m]'(by show m<22;omega),B3 (by show m<22;omega)⟩
 have hrow2:(E7.map KV)[m]?=some (KV row):=by rw[List.getElem?_map,hrow];rfl
 refine m_ (h:=?_)
 refine A4 rfl (CS (n:=m) rfl rfl rfl hrow2 ?_)
 refine l_ (h:=s_ (h:=e_ (A6 (?_))))
 refine AB ?_
 rw[Bi,if_neg (by omega),Int.toNat_natCast,hrow];rfl
theorem RA(c:Cal)(hp:c.paths.length≤1000)(ha:c.args.length≤1000):AFn Tryz.prog 65 [.agg (D0 c)] (fun r=>r= .v (.int .i64 (BY c))):=by
 obtain⟨n0,hn0⟩:=Int.eq_ofNat_of_zero_le (V4 c.num).1
 have hpl:(c.paths.map D5).length=c.paths.length:=List.length_map _
 have hal:(c.args.map D5).length=c.args.length:=List.length_map _
 have hn2:n0≤2:=by have:=(V4 c.num).2;omega
 refine enter Tryz.func65 rfl rfl rfl rfl rfl 0 rfl ?_
 refine w_ (b_ (h:=a_ (h:=e_ (w_ (f_ (h:=l_ (h:=?_)))))))
 refine A4 rfl (AK (V7 c.num) ?_)
 rintro r rfl
 refine AW (h:=s_ (h:=e_ (q_ (w_ (f_ (h:=l_ (h:=AQ (h:=e_ (?_)))))))))
 refine A8 rfl (fun hb1=>?_) (fun hb1=>?_)
 ·have hc1:=bp hb1
  refine w_ (a_ (h:=e_ (A6 (A7 (?_)))))
  refine AB ?_
  first|(exfalso;first|contradiction|omega)|(exact vi (by first|(rw[BY,if_pos hc1];done)|(rw[BY,if_neg hc1,if_pos hany];done)|(rw[BY,if_neg hc1,if_neg (by rw[hany];simp),if_pos (by omega)];done)|(rw[BY,if_neg hc1,if_neg (by rw[hany];simp),if_neg (by omega),if_pos hany2];done)|(rw[BY,if_neg hc1,if_neg (by rw[hany];simp),if_neg (by omega),if_neg (by rw[hany2];simp),if_pos hany3];done)|(rw[BY,if_neg hc1,if_neg (by rw[hany];simp),if_neg (by omega),if_neg (by rw[hany2];simp),if_neg (by rw[hany3];simp)];done)))
 have hc1:=bp hb1
 refine AG (q_ (w_ (f_ (h:=l_ (h:=a_ (h:=e_ (Ao (?_))))))))
 refine Ba (fun m s=>∃j:Nat,n0≤j∧j≤4∧m=4 - j∧(∀i x,n0≤i→i<j→(LM c)[i]?=some x→x=0)∧s=⟨look [(1, .bp 0 0),(3, .bp 1 0),(4, .v (.int .i64 (j:Int)))],⟨[D0 c,KV (Bi c.num)],[]⟩⟩) (4 - n0) (by rw[←hn0];exact(wk 2 0)) (⟨n0,Nat.le_refl _,by omega,rfl,fun i x h1 h2=>by omega,rfl⟩) ?_
 rintro m s ⟨j,hlo,hj,rfl,hz,rfl⟩
 refine q_ (w_ (m_ (h:=BJ (h:=e_ (?_)))))
 refine A8 rfl (fun hb2=>?_) (fun hb2=>?_)
 ·have hc2:=bp hb2
  obtain⟨x,hy,hrx⟩:=cG (c:=c) (j:=j) (by omega)
  refine AG (q_ (Ao (w_ (m_ (h:=f_ (h:=?_))))))
  refine A4 rfl (CE (len:=4) (sz:=1) (n:=j) (by kernel_rfl) rfl rfl rfl (cF (by omega)) ?_)
  refine A4 rfl (D4 rfl rfl (by rw[show 1+j * 1=1+j by omega];exact hrx) ?_)
  refine BF (h:=e_ (?_))
  refine A8 rfl (fun hb3=>?_) (fun hb3=>?_)
  ·have hc3:=bp hb3
   have hany:(((LM c).drop (Bi c.num).2.1.toNat).any fun x=>decide (x≠0))=true:=by rw[hn0,Int.toNat_natCast];exact cH hlo hy hc3
   refine w_ (a_ (h:=e_ (A6 (AR (A7 (A7 (AR (A7 (?_)))))))))
   refine AB ?_
   first|(exfalso;first|contradiction|omega)|(exact vi (by first|(rw[BY,if_pos hc1];done)|(rw[BY,if_neg hc1,if_pos hany];done)|(rw[BY,if_neg hc1,if_neg (by rw[hany];simp),if_pos (by omega)];done)|(rw[BY,if_neg hc1,if_neg (by rw[hany];simp),if_neg (by omega),if_pos hany2];done)|(rw[BY,if_neg hc1,if_neg (by rw[hany];simp),if_neg (by omega),if_neg (by rw[hany2];simp),if_pos hany3];done)|(rw[BY,if_neg hc1,if_neg (by rw[hany];simp),if_neg (by omega),if_neg (by rw[hany2];simp),if_neg (by rw[hany3];simp)];done)))
  have hc3:=bp hb3
  have hx0:x=0:=by simpa using hc3
  refine BB (Ay (t_ (AP (m_ (h:=B8 (h:=a_ (h:=AO (?_))))))))
  refine AD ?_
  refine⟨_,_,?_,⟨j+1,by omega,by omega,rfl,(fun i x h1 h2 h3=>by
   by_cases e:i=j
   ·subst e;rw[hy]at h3;injection h3 with h3;rw[←h3];exact hx0
   exact hz i x h1 (by omega) h3),rfl⟩,(wk 2 0)⟩
  omega
 have hc2:=bp hb2
 have hany:(((LM c).drop (Bi c.num).2.1.toNat).any fun x=>decide (x≠0))=false:=by
  rw[hn0,Int.toNat_natCast]
  refine cJ fun i x h1 h2=>hz i x h1 ?_ h2
  have:=(Ar.1 h2).1
  have h4:(LM c).length=4:=rfl
  omega
 refine BO (Aq (Aq (BQ (t_ (q_ (w_ (f_ (h:=l_ (h:=n_ (h:=f_ (h:=l_ (h:=BF (h:=m_ (h:=?_))))))))))))))
 refine Ax false rfl rfl (fun hb4=>?_) (fun hb4=>?_)
 ·have hc4:=bp hb4
  refine A3 (h:=A3 (h:=A3 (h:=A3 (h:=A3 (h:=A3 (h:=Af (h:=m_ (h:=A3 (h:=A3 (h:=A3 (h:=A3 (h:=A3 (h:=A3 (h:=Af (h:=e_ (Bf (h:=w_ (a_ (h:=e_ (A6 (A7 (?_))))))))))))))))))))))
  refine AB ?_
  first|(exfalso;first|contradiction|omega)|(exact vi (by first|(rw[BY,if_pos hc1];done)|(rw[BY,if_neg hc1,if_pos hany];done)|(rw[BY,if_neg hc1,if_neg (by rw[hany];simp),if_pos (by omega)];done)|(rw[BY,if_neg hc1,if_neg (by rw[hany];simp),if_neg (by omega),if_pos hany2];done)|(rw[BY,if_neg hc1,if_neg (by rw[hany];simp),if_neg (by omega),if_neg (by rw[hany2];simp),if_pos hany3];done)|(rw[BY,if_neg hc1,if_neg (by rw[hany];simp),if_neg (by omega),if_neg (by rw[hany2];simp),if_neg (by rw[hany3];simp)];done)))
 have hc4:=bp hb4
 refine f_ (h:=l_ (h:=n_ (h:=f_ (h:=l_ (h:=BJ (h:=Am (h:=m_ (h:=?_))))))))
 refine Ax false rfl rfl (fun hb5=>?_) (fun hb5=>?_)
 ·have hc5:=bp hb5
  refine A3 (h:=A3 (h:=A3 (h:=A3 (h:=A3 (h:=A3 (h:=Af (h:=e_ (Bf (h:=w_ (a_ (h:=e_ (A6 (A7 (?_))))))))))))))
  refine AB ?_
  first|(exfalso;first|contradiction|omega)|(exact vi (by first|(rw[BY,if_pos hc1];done)|(rw[BY,if_neg hc1,if_pos hany];done)|(rw[BY,if_neg hc1,if_neg (by rw[hany];simp),if_pos (by omega)];done)|(rw[BY,if_neg hc1,if_neg (by rw[hany];simp),if_neg (by omega),if_pos hany2];done)|(rw[BY,if_neg hc1,if_neg (by rw[hany];simp),if_neg (by omega),if_neg (by rw[hany2];simp),if_pos hany3];done)|(rw[BY,if_neg hc1,if_neg (by rw[hany];simp),if_neg (by omega),if_neg (by rw[hany2];simp),if_neg (by rw[hany3];simp)];done)))
 have hc5:=bp hb5
 refine f_ (h:=l_ (h:=n_ (h:=f_ (h:=l_ (h:=CZ (h:=Am (h:=e_ (?_))))))))
 refine A8 rfl (fun hb6=>?_) (fun hb6=>?_)
 ·have hc6:=bp hb6
  refine w_ (a_ (h:=e_ (A6 (A7 (?_)))))
  refine AB ?_
  first|(exfalso;first|contradiction|omega)|(exact vi (by first|(rw[BY,if_pos hc1];done)|(rw[BY,if_neg hc1,if_pos hany];done)|(rw[BY,if_neg hc1,if_neg (by rw[hany];simp),if_pos (by omega)];done)|(rw[BY,if_neg hc1,if_neg (by rw[hany];simp),if_neg (by omega),if_pos hany2];done)|(rw[BY,if_neg hc1,if_neg (by rw[hany];simp),if_neg (by omega),if_neg (by rw[hany2];simp),if_pos hany3];done)|(rw[BY,if_neg hc1,if_neg (by rw[hany];simp),if_neg (by omega),if_neg (by rw[hany2];simp),if_neg (by rw[hany3];simp)];done)))
 have hc6:=bp hb6
 refine AG (q_ (w_ (a_ (h:=e_ (Ao (?_))))))
 refine Ba (fun m s=>∃j:Nat,j≤c.paths.length∧m=c.paths.length - j∧(∀i y,i<j→c.paths[i]?=some y→decide (128<y.size)=false)∧s=⟨look [(1, .bp 0 0),(3, .bp 1 0),(5, .v (.int .i64 (j:Int)))],⟨[D0 c,KV (Bi c.num)],[]⟩⟩) (c.paths.length) ((wk 2 0)) (⟨0,Nat.zero_le _,rfl,fun i y hi=>by omega,rfl⟩) ?_
 rintro m s ⟨j,hj,rfl,ha1,rfl⟩
 refine q_ (w_ (m_ (h:=f_ (h:=l_ (h:=n_ (h:=BJ (h:=e_ (?_))))))))
 refine A8 rfl (fun hb7=>?_) (fun hb7=>?_)
 ·have hc7:=bp hb7
  obtain⟨hlt,y,hy,hrow, -⟩:=CW D5 hc7
  refine AG (q_ (Ao (w_ (f_ (h:=l_ (h:=m_ (h:=i_ (h:=l_ (h:=n_ (h:=CZ (h:=e_ (?_))))))))))))
  refine A8 rfl (fun hb8=>?_) (fun hb8=>?_)
  ·have hc8:=bp hb8
   have hany2:(c.paths.any fun p=>decide (128<p.size))=true:=KE hy (by simp;omega)
   refine w_ (a_ (h:=e_ (A6 (AR (A7 (A7 (AR (A7 (?_)))))))))
   refine AB ?_
   first|(exfalso;first|contradiction|omega)|(exact vi (by first|(rw[BY,if_pos hc1];done)|(rw[BY,if_neg hc1,if_pos hany];done)|(rw[BY,if_neg hc1,if_neg (by rw[hany];simp),if_pos (by omega)];done)|(rw[BY,if_neg hc1,if_neg (by rw[hany];simp),if_neg (by omega),if_pos hany2];done)|(rw[BY,if_neg hc1,if_neg (by rw[hany];simp),if_neg (by omega),if_neg (by rw[hany2];simp),if_pos hany3];done)|(rw[BY,if_neg hc1,if_neg (by rw[hany];simp),if_neg (by omega),if_neg (by rw[hany2];simp),if_neg (by rw[hany3];simp)];done)))
  have hc8:=bp hb8
  refine BB (Ay (t_ (AP (m_ (h:=B8 (h:=a_ (h:=AO (?_))))))))
  refine AD ?_
  refine⟨_,_,?_,⟨j+1,by omega,rfl,Dw hy ha1 (by simp;omega),rfl⟩,(wk 2 0)⟩
  omega
 have hc7:=bp hb7
 have e:=Ck D5 hj hc7
 have hany2:(c.paths.any fun p=>decide (128<p.size))=false:=Ky (by rw[←e];exact ha1)
 refine BO (Aq (Aq (BQ (t_ (q_ (w_ (a_ (h:=e_ (Ao (?_))))))))))
 refine Ba (fun m s=>∃j:Nat,j≤c.args.length∧m=c.args.length - j∧(∀i y,i<j→c.args[i]?=some y→decide (64<y.size)=false)∧s=⟨look [(1, .bp 0 0),(3, .bp 1 0),(6, .v (.int .i64 (j:Int)))],⟨[D0 c,KV (Bi c.num)],[]⟩⟩) (c.args.length) ((wk 2 0)) (⟨0,Nat.zero_le _,rfl,fun i y hi=>by omega,rfl⟩) ?_
 rintro m s ⟨j3,hj3,rfl,ha3,rfl⟩
 refine q_ (w_ (m_ (h:=f_ (h:=l_ (h:=n_ (h:=BJ (h:=e_ (?_))))))))
 refine A8 rfl (fun hb9=>?_) (fun hb9=>?_)
 ·have hc9:=bp hb9
  obtain⟨hlt,y,hy,hrow, -⟩:=CW D5 hc9
  refine AG (q_ (Ao (w_ (f_ (h:=l_ (h:=m_ (h:=i_ (h:=l_ (h:=n_ (h:=CZ (h:=e_ (?_))))))))))))
  refine A8 rfl (fun hb10=>?_) (fun hb10=>?_)
  ·have hc10:=bp hb10
   have hany3:(c.args.any fun p=>decide (64<p.size))=true:=KE hy (by simp;omega)
   refine w_ (a_ (h:=e_ (A6 (AR (A7 (A7 (AR (A7 (?_)))))))))
   refine AB ?_
   first|(exfalso;first|contradiction|omega)|(exact vi (by first|(rw[BY,if_pos hc1];done)|(rw[BY,if_neg hc1,if_pos hany];done)|(rw[BY,if_neg hc1,if_neg (by rw[hany];simp),if_pos (by omega)];done)|(rw[BY,if_neg hc1,if_neg (by rw[hany];simp),if_neg (by omega),if_pos hany2];done)|(rw[BY,if_neg hc1,if_neg (by rw[hany];simp),if_neg (by omega),if_neg (by rw[hany2];simp),if_pos hany3];done)|(rw[BY,if_neg hc1,if_neg (by rw[hany];simp),if_neg (by omega),if_neg (by rw[hany2];simp),if_neg (by rw[hany3];simp)];done)))
  have hc10:=bp hb10
  refine BB (Ay (t_ (AP (m_ (h:=B8 (h:=a_ (h:=AO (?_))))))))
  refine AD ?_
  refine⟨_,_,?_,⟨j3+1,by omega,rfl,Dw hy ha3 (by simp;omega),rfl⟩,(wk 2 0)⟩
  omega
 have hc9:=bp hb9
 have e3:=Ck D5 hj3 hc9
 have hany3:(c.args.any fun p=>decide (64<p.size))=false:=Ky (by rw[←e3];exact ha3)
 refine BO (Aq (Aq (BQ (t_ (w_ (a_ (h:=e_ (A6 (?_)))))))))
 refine AB ?_
 first|(exfalso;first|contradiction|omega)|(exact vi (by first|(rw[BY,if_pos hc1];done)|(rw[BY,if_neg hc1,if_pos hany];done)|(rw[BY,if_neg hc1,if_neg (by rw[hany];simp),if_pos (by omega)];done)|(rw[BY,if_neg hc1,if_neg (by rw[hany];simp),if_neg (by omega),if_pos hany2];done)|(rw[BY,if_neg hc1,if_neg (by rw[hany];simp),if_neg (by omega),if_neg (by rw[hany2];simp),if_pos hany3];done)|(rw[BY,if_neg hc1,if_neg (by rw[hany];simp),if_neg (by omega),if_neg (by rw[hany2];simp),if_neg (by rw[hany3];simp)];done)))
theorem V8(c:Cal):AFn Tryz.prog 110 [.agg (D0 c)] (fun r=>r= .sl 1 ((CB c).map C5) none):=by
 refine enter Tryz.func110 rfl rfl rfl rfl rfl 0 rfl ?_
 refine w_ (b_ (h:=a_ (h:=e_ (q_ (w_ (f_ (h:=l_ (h:=e_ (Ao (w_ (AQ (h:=a_ (h:=e_ (?_))))))))))))))
 refine A8 rfl (fun hb1=>?_) (fun hb1=>?_)
 ·have hc1:=bp hb1
  refine w_ (Bm (h:=a_ (h:=e_ (A6 (AR (A7 (?_)))))))
  refine AB ?_
  first|(exfalso;first|contradiction|omega)|(simp only[CB,C0];first|(simp[*,C5];done)|(simp[*,C5];rfl))
 have hc1:=bp hb1
 refine w_ (AQ (h:=a_ (h:=e_ (?_))))
 refine A8 rfl (fun hb2=>?_) (fun hb2=>?_)
 ·have hc2:=bp hb2
  refine w_ (a_ (h:=e_ (q_ (w_ (f_ (h:=?_))))))
  refine A4 rfl (CE (len:=4) (sz:=1) (n:=0) (by kernel_rfl) rfl rfl rfl rfl ?_)
  refine l_ (h:=EP (h:=BF (h:=e_ (?_))))
  refine A8 rfl (fun hb3=>?_) (fun hb3=>?_)
  ·have hc3:=bp hb3
   refine AP (m_ (h:=B8 (h:=a_ (h:=e_ (q_ (w_ (f_ (h:=?_))))))))
   refine A4 rfl (CE (len:=4) (sz:=1) (n:=0) (by kernel_rfl) rfl rfl rfl rfl ?_)
   refine l_ (h:=EP (h:=BF (h:=e_ (?_))))
   refine A8 rfl (fun hb4=>?_) (fun hb4=>?_)
   ·have hc4:=bp hb4
    refine AP (m_ (h:=B8 (h:=a_ (h:=e_ (w_ (m_ (h:=Bm (h:=a_ (h:=e_ (A6 (AR (A7 (?_)))))))))))))
    refine AB ?_
    first|(exfalso;first|contradiction|omega)|(simp only[CB,C0];first|(simp[*,C5];done)|(simp[*,C5];rfl))
   have hc4:=bp hb4
   refine AG (w_ (m_ (h:=Bm (h:=a_ (h:=e_ (A6 (AR (A7 (?_)))))))))
   refine AB ?_
   first|(exfalso;first|contradiction|omega)|(simp only[CB,C0];first|(simp[*,C5];done)|(simp[*,C5];rfl))
  have hc3:=bp hb3
  refine AG (q_ (w_ (f_ (h:=?_))))
  refine A4 rfl (CE (len:=4) (sz:=1) (n:=0) (by kernel_rfl) rfl rfl rfl rfl ?_)
  refine l_ (h:=EP (h:=BF (h:=e_ (?_))))
  refine A8 rfl (fun hb5=>?_) (fun hb5=>?_)
  ·have hc5:=bp hb5
   refine AP (m_ (h:=B8 (h:=a_ (h:=e_ (w_ (m_ (h:=Bm (h:=a_ (h:=e_ (A6 (AR (A7 (?_)))))))))))))
   refine AB ?_
   first|(exfalso;first|contradiction|omega)|(simp only[CB,C0];first|(simp[*,C5];done)|(simp[*,C5];rfl))
  have hc5:=bp hb5
  refine AG (w_ (m_ (h:=Bm (h:=a_ (h:=e_ (A6 (AR (A7 (?_)))))))))
  refine AB ?_
  first|(exfalso;first|contradiction|omega)|(simp only[CB,C0];first|(simp[*,C5];done)|(simp[*,C5];rfl))
 have hc2:=bp hb2
 refine w_ (AQ (h:=a_ (h:=e_ (?_))))
 refine A8 rfl (fun hb6=>?_) (fun hb6=>?_)
 ·have hc6:=bp hb6
  refine w_ (Bm (h:=a_ (h:=e_ (A6 (AR (A7 (?_)))))))
  refine AB ?_
  first|(exfalso;first|contradiction|omega)|(simp only[CB,C0];first|(simp[*,C5];done)|(simp[*,C5];rfl))
 have hc6:=bp hb6
 refine w_ (AQ (h:=a_ (h:=e_ (?_))))
 refine A8 rfl (fun hb7=>?_) (fun hb7=>?_)
 ·have hc7:=bp hb7
  refine w_ (Bm (h:=a_ (h:=e_ (A6 (AR (A7 (?_)))))))
  refine AB ?_
  first|(exfalso;first|contradiction|omega)|(simp only[CB,C0];first|(simp[*,C5];done)|(simp[*,C5];rfl))
 have hc7:=bp hb7
 refine q_ (w_ (AQ (h:=a_ (h:=e_ (?_)))))
 refine A8 rfl (fun hb8=>?_) (fun hb8=>?_)
 ·have hc8:=bp hb8
  refine AG (Bf (h:=w_ (Bm (h:=a_ (h:=e_ (A6 (AR (A7 (?_)))))))))
  refine AB ?_
  first|(exfalso;first|contradiction|omega)|(simp only[CB,C0];first|(simp[*,C5];done)|(simp[*,C5];rfl))
 have hc8:=bp hb8
 refine w_ (AQ (h:=a_ (h:=e_ (?_))))
 refine A8 rfl (fun hb9=>?_) (fun hb9=>?_)
 ·have hc9:=bp hb9
  refine AG (Bf (h:=w_ (Bm (h:=a_ (h:=e_ (A6 (AR (A7 (?_)))))))))
  refine AB ?_
  first|(exfalso;first|contradiction|omega)|(simp only[CB,C0];first|(simp[*,C5];done)|(simp[*,C5];rfl))
 have hc9:=bp hb9
 refine AP (AQ (h:=a_ (h:=e_ (?_))))
 refine A8 rfl (fun hb10=>?_) (fun hb10=>?_)
 ·have hc10:=bp hb10
  refine w_ (Bm (h:=a_ (h:=e_ (A6 (AR (A7 (?_)))))))
  refine AB ?_
  first|(exfalso;first|contradiction|omega)|(simp only[CB,C0];first|(simp[*,C5];done)|(simp[*,C5];rfl))
 have hc10:=bp hb10
 refine w_ (AQ (h:=a_ (h:=e_ (?_))))
 refine A8 rfl (fun hb11=>?_) (fun hb11=>?_)
 ·have hc11:=bp hb11
  refine w_ (Bm (h:=a_ (h:=e_ (A6 (AR (A7 (?_)))))))
  refine AB ?_
  first|(exfalso;first|contradiction|omega)|(simp only[CB,C0];first|(simp[*,C5];done)|(simp[*,C5];rfl))
 have hc11:=bp hb11
 refine BB (Ay (t_ (w_ (Bm (h:=a_ (h:=e_ (A6 (?_))))))))
 refine AB ?_
 first|(exfalso;first|contradiction|omega)|(simp only[CB,C0];first|(simp[*,C5];done)|(simp[*,C5];rfl))
theorem cL(c:Cal):AFn Tryz.prog 111 [.agg (D0 c)] (fun r=>r= .v (.bool (Cr c))):=by
 refine enter Tryz.func111 rfl rfl rfl rfl rfl 0 rfl ?_
 refine w_ (b_ (h:=a_ (h:=e_ (q_ (w_ (f_ (h:=l_ (h:=e_ (Ao (w_ (AQ (h:=a_ (h:=e_ (?_))))))))))))))
 refine A8 rfl (fun hb1=>?_) (fun hb1=>?_)
 ·have hc1:=bp hb1
  refine w_ (f_ (h:=?_))
  refine A4 rfl (CE (len:=4) (sz:=1) (n:=0) (by kernel_rfl) rfl rfl rfl rfl ?_)
  refine l_ (h:=EP (h:=AQ (h:=a_ (h:=e_ (A6 (AR (A7 (?_))))))))
  refine AB ?_
  first|(exfalso;first|contradiction|omega)|(exact vb (by simp[Cr, *]))
 have hc1:=bp hb1
 refine q_ (w_ (AQ (h:=a_ (h:=e_ (?_)))))
 refine A8 rfl (fun hb2=>?_) (fun hb2=>?_)
 ·have hc2:=bp hb2
  refine AG (Bf (h:=w_ (a_ (h:=e_ (A6 (AR (A7 (?_))))))))
  refine AB ?_
  first|(exfalso;first|contradiction|omega)|(exact vb (by simp[Cr, *]))
 have hc2:=bp hb2
 refine w_ (AQ (h:=a_ (h:=e_ (?_))))
 refine A8 rfl (fun hb3=>?_) (fun hb3=>?_)
 ·have hc3:=bp hb3
  refine AG (Bf (h:=w_ (a_ (h:=e_ (A6 (AR (A7 (?_))))))))
  refine AB ?_
  first|(exfalso;first|contradiction|omega)|(exact vb (by simp[Cr, *]))
 have hc3:=bp hb3
 refine w_ (AQ (h:=a_ (h:=e_ (?_))))
 refine A8 rfl (fun hb4=>?_) (fun hb4=>?_)
 ·have hc4:=bp hb4
  refine AG (Bf (h:=w_ (a_ (h:=e_ (A6 (AR (A7 (?_))))))))
  refine AB ?_
  first|(exfalso;first|contradiction|omega)|(exact vb (by simp[Cr, *]))
 have hc4:=bp hb4
 refine w_ (AQ (h:=a_ (h:=e_ (?_))))
 refine A8 rfl (fun hb5=>?_) (fun hb5=>?_)
 ·have hc5:=bp hb5
  refine AG (Bf (h:=w_ (a_ (h:=e_ (A6 (AR (A7 (?_))))))))
  refine AB ?_
  first|(exfalso;first|contradiction|omega)|(exact vb (by simp[Cr, *]))
 have hc5:=bp hb5
 refine w_ (AQ (h:=a_ (h:=e_ (?_))))
 refine A8 rfl (fun hb6=>?_) (fun hb6=>?_)
 ·have hc6:=bp hb6
  refine AG (Bf (h:=w_ (a_ (h:=e_ (A6 (AR (A7 (?_))))))))
  refine AB ?_
  first|(exfalso;first|contradiction|omega)|(exact vb (by simp[Cr, *]))
 have hc6:=bp hb6
 refine AP (AQ (h:=a_ (h:=e_ (?_))))
 refine A8 rfl (fun hb7=>?_) (fun hb7=>?_)
 ·have hc7:=bp hb7
  refine w_ (a_ (h:=e_ (A6 (AR (A7 (?_))))))
  refine AB ?_
  first|(exfalso;first|contradiction|omega)|(exact vb (by simp[Cr, *]))
 have hc7:=bp hb7
 refine BB (Ay (t_ (w_ (a_ (h:=e_ (A6 (?_)))))))
 refine AB ?_
 first|(exfalso;first|contradiction|omega)|(exact vb (by simp[Cr, *]))
end
theorem Gf(s:ByteArray):s.toList=s.data.toList:=Lib.toList_data s
theorem V9{a b:ByteArray}(h:a.data.toList=b.data.toList):a=b:=by
 cases a;cases b;simp at h;simp[h]
theorem cM{a b:ByteArray}:a.data.toList=b.data.toList↔a=b:=⟨V9,fun h=>by rw[h]⟩
theorem cO(a b:ByteArray):(a.toList==b.toList)=decide (a=b):=by
 rw[Gf,Gf,Bool.eq_iff_iff,beq_iff_eq,decide_eq_true_iff]
 exact cM
theorem VA(s:ByteArray):s.toList.isEmpty=decide (s.size=0):=by
 rw[Gf,Lib.size_eq,Bool.eq_iff_iff,List.isEmpty_iff,decide_eq_true_iff,List.length_eq_zero_iff]
set_option maxRecDepth 100000 in
set_option maxHeartbeats 400000 in
theorem RB(s:ByteArray)(w:World):
    Calls Tryz.prog 194 #[.string s, .string ⟨#[47]⟩] w fun e w'=>e= .returned (.int .i64 (Lib.indexByte s.data.toList 47))∧w=w':=by
 by_cases h:s=⟨#[47]⟩
 ·subst h
  go_enter Tryz.func194,Tryz.ntmps194
  go_wp2
  go_ret
  exact⟨rfl,rfl⟩
 have h1:([47]==s.toList)=false:=by
  have:=cO ⟨#[47]⟩ s
  rw[decide_eq_false (fun e=>h e.symm),Gf ⟨#[47]⟩]at this
  exact this
 go_enter Tryz.func194,Tryz.ntmps194
 go_wp2_with (go_at_call 201;refine(Tryz.stringslite_IndexByte _ _ _).mono ?_;rintro e w' ⟨rfl,rfl⟩)
 go_ret
 exact⟨rfl,rfl⟩
theorem cQ(s:ByteArray)(w:World):
    Calls Tryz.prog 173 #[.string s, .string ⟨#[47]⟩] w fun e w'=>e= .returned (.int .i64 (Lib.indexByte s.data.toList 47))∧w=w':=by
 go_enter Tryz.func173,Tryz.ntmps173
 go_wp2_with (go_at_call 194;refine(RB _ _).mono ?_;rintro e w' ⟨rfl,rfl⟩)
 go_ret
 exact⟨rfl,rfl⟩
theorem RC{l:Bs}(h:(47:UInt8)∈l):∃i:Nat,Lib.indexByte l 47=i∧i<l.length∧l=l.take i++47::l.drop (i+1)∧(47:UInt8)∉l.take i:=by
 have hge:=Lib.indexByte_ge l 47
 by_cases hm:Lib.indexByte l 47= -1
 ·have:=Lib.indexByte_none hm
  obtain⟨k,hk⟩:=List.mem_iff_getElem?.1 h
  exact absurd hk (this k)
 obtain⟨i,hi⟩:=Int.eq_ofNat_of_zero_le (show 0≤Lib.indexByte l 47 by omega)
 obtain⟨h1,h2⟩:=Lib.indexByte_some hi
 have hlt:i<l.length:=(Ar.1 h1).1
 refine⟨i,hi,hlt,?_,?_⟩
 ·have h3:l[i]=47:=(Ar.1 h1).2
  rw[←h3,List.getElem_cons_drop,List.take_append_drop]
 intro hmem
 obtain⟨k,hk⟩:=List.mem_iff_getElem?.1 hmem
 rw[List.getElem?_take]at hk
 split at hk
 ·exact h2 k (by assumption) hk
 cases hk
theorem VB{l:Bs}(h:(47:UInt8)∉l):Lib.indexByte l 47= -1:=by
 have hge:=Lib.indexByte_ge l 47
 by_cases hm:Lib.indexByte l 47= -1
 ·exact hm
 obtain⟨i,hi⟩:=Int.eq_ofNat_of_zero_le (show 0≤Lib.indexByte l 47 by omega)
 obtain⟨h1,_⟩:=Lib.indexByte_some hi
 exact absurd (Au h1) h
theorem cR(r:Int)(h0:128≤r)(h1:Lib.validRune r=true):
    (∃a b:UInt8,Utf8.encode r=⟨#[a,b]⟩∧128≤b.toNat)∨(∃a b c:UInt8,Utf8.encode r=⟨#[a,b,c]⟩)∨(∃a b c d:UInt8,Utf8.encode r=⟨#[a,b,c,d]⟩):=by
 have hv:Utf8.valid r=true:=by
  have:=of_decide_eq_true h1
  unfold Utf8.valid
  simp only[Bool.or_eq_true,Bool.and_eq_true,decide_eq_true_iff]
  omega
 unfold Utf8.encode
 simp only[hv,if_true]
 have hn:¬r.toNat<128:=by omega
 rw[if_neg hn]
 by_cases h2:r.toNat<2048
 ·rw[if_pos h2]
  refine .inl ⟨_,_,rfl,?_⟩
  simp only[UInt8.toNat_ofNat']
  omega
 rw[if_neg h2]
 by_cases h3:r.toNat<65536
 ·rw[if_pos h3]
  exact .inr (.inl ⟨_,_,_,rfl⟩)
 rw[if_neg h3]
 exact .inr (.inr ⟨_,_,_,_,rfl⟩)
set_option maxRecDepth 1000000 in
set_option maxHeartbeats 2000000 in
theorem cT(r:Int)(w:World)(h0:128≤r)(h1:r≤2147483647)(h2:r≠65533)(hv:Lib.validRune r=false):
    Calls Tryz.prog 183 #[.string ⟨#[0,47]⟩, .int .i32 r] w fun e w'=>e= .returned (.int .i64 (-1))∧w=w':=by
 have h2':(r==65533)=false:=by simpa using h2
 go_enter Tryz.func183,Tryz.ntmps183
 go_wp2_with (go_at_call 198;refine(Tryz.utf8_ValidRune _ _).mono ?_;rintro e w' ⟨rfl,rfl⟩;rw[hv])
 go_ret
 exact⟨rfl,rfl⟩
set_option maxRecDepth 1000000 in
set_option maxHeartbeats 2000000 in
theorem cU(r:Int)(w:World)(h0:128≤r)(h1:r≤2147483647)(h2:r≠65533)(hv:Lib.validRune r=true):
    Calls Tryz.prog 183 #[.string ⟨#[0,47]⟩, .int .i32 r] w fun e w'=>e= .returned (.int .i64 (-1))∧Below w.heap.size w w':=by
 have h2':(r==65533)=false:=by simpa using h2
 have hlt:decide (r<128)=false:=by simpa using h0
 rcases cR r h0 hv with⟨a,b,he,hb⟩|⟨a,b,c,he⟩|⟨a,b,c,d,he⟩
 ·have hne:((((⟨#[0,47]⟩:ByteArray)[1]'(by decide)).toNat:Int) != (((⟨#[a,b]⟩:ByteArray)[1]'(by show 1<2;decide)).toNat:Int))=true:=by
     show((47:Int) != (b.toNat:Int))=true
     rw[bne_iff_ne]
     omega
  go_enter Tryz.func183,Tryz.ntmps183
  go_wp2_with (go_at_call 198;refine(Tryz.utf8_ValidRune _ _).mono ?_;rintro e w' ⟨rfl,rfl⟩;rw[hv])
  go_step3
  go_wp2
  refine wp_loop_rounds 1 ?_
  rw[rounds_succ]
  go_wp2
  go_step3
  go_wp2
  go_quiet (fail)
  have hb:=Nz (Below.refl w'.heap.size w') nq
  generalize w'.drewN nq=wq at *
  go_wp2
  go_quiet ((go_at_call 197;exact Calls.quiet_of_same (Tryz.strings_IndexByte _ _ _)))
  go_wp2
  rw[Exit.noGoto_ret]
  go_wp2
  rw[Exit.noGoto_ret]
  go_wp2
  go_ret
  exact⟨rfl,Nz hb _⟩
 ·go_enter Tryz.func183,Tryz.ntmps183
  go_wp2_with (go_at_call 198;refine(Tryz.utf8_ValidRune _ _).mono ?_;rintro e w' ⟨rfl,rfl⟩;rw[hv])
  go_step3
  go_wp2
  refine wp_loop_rounds 1 ?_
  rw[rounds_succ]
  go_wp2
  rw[Exit.noGoto_ret]
  go_wp2
  go_ret
  exact⟨rfl,Below.refl _ _⟩
 go_enter Tryz.func183,Tryz.ntmps183
 go_wp2_with (go_at_call 198;refine(Tryz.utf8_ValidRune _ _).mono ?_;rintro e w' ⟨rfl,rfl⟩;rw[hv])
 go_step3
 go_wp2
 refine wp_loop_rounds 1 ?_
 rw[rounds_succ]
 go_wp2
 rw[Exit.noGoto_ret]
 go_wp2
 go_ret
 exact⟨rfl,Below.refl _ _⟩
theorem cV(i:Nat)(hi:i<2):((⟨#[0,47]⟩:ByteArray)[i]'hi).toNat<128:=by
 match i,hi with
 |0,_=>show(0:UInt8).toNat<128;decide
 |1,_=>show(47:UInt8).toNat<128;decide
set_option maxRecDepth 1000000 in
set_option maxHeartbeats 2000000 in
theorem cW(w:World):
    Calls Tryz.prog 183 #[.string ⟨#[0,47]⟩, .int .i32 65533] w fun e w'=>e= .returned (.int .i64 (-1))∧Below w.heap.size w w':=by
 go_enter Tryz.func183,Tryz.ntmps183
 go_wp2
 go_loopg [5,6] 2 (fun g _ _ wx=>∃i:Nat,i+g=2∧wx=w.iter ⟨#[0,47]⟩ i)
 case atStart=>exact⟨0,by omega,rfl⟩
 case round=>
  obtain⟨i,hig,rfl⟩:=hrel
  cases gk with
  |zero=>
    obtain rfl:i=2:=by omega
    have hnx:=run_next_end (P:=Tryz.prog) w ⟨#[0,47]⟩ 2
    go_wp2
    go_ret
    exact⟨rfl,(Below.refl _ _).alloc (Nat.le_refl _) _⟩
  |succ g=>
    have hi:i<2:=by omega
    have hx:=cV i hi
    have hnx:=fun ty=>run_next_ascii (P:=Tryz.prog) w ⟨#[0,47]⟩ i ty hi hx
    generalize ((⟨#[0,47]⟩:ByteArray)[i]'hi)=x at *
    have hne:((x.toNat:Int)==65533)=false:=beq_eq_false_iff_ne.2 (by omega)
    go_wp2
    go_roundg g
    case measure=>omega
    case rel=>exact⟨i+1,by omega,rfl⟩
theorem VC(s:ByteArray)(i:Nat)(h:i<s.size)(ha:128≤(s[i]'h).toNat):
    1≤(Utf8.decode s i).2∧i+(Utf8.decode s i).2≤s.size∧∀k,k<(Utf8.decode s i).2→128≤(s.get! (i+k)).toNat:=by
 have hn:¬(s[i]'h).toNat<128:=by omega
 have h0:s.get! (i+0)=s[i]'h:=get_at s i h
 have g0:128≤(s.get! (i+0)).toNat:=by rw[h0];exact ha
 have c1:∀k,(decide (i+k<s.size)&&(s.get! (i+k)).toNat / 64==2)=true→i+k<s.size∧128≤(s.get! (i+k)).toNat:=by
  intro k hk
  simp only[Bool.and_eq_true,decide_eq_true_iff,beq_iff_eq]at hk
  exact⟨hk.1,by omega⟩
 have one:1≤1∧i+1≤s.size∧∀k,k<1→128≤(s.get! (i+k)).toNat:=by
  refine⟨Nat.le_refl _,h,fun k hk=>?_⟩
  obtain rfl:k=0:=by omega
  exact g0
 unfold Utf8.decode
 simp only[h0,hn,if_false]
 split
 ·rename_i hc
  rw[Bool.and_eq_true]at hc
  obtain⟨a1,b1⟩:=c1 1 hc.2
  split
  ·refine⟨by simp,a1,fun k hk=>?_⟩
   have:k=0∨k=1:=by simp at hk;omega
   rcases this with rfl|rfl
   ·exact g0
   exact b1
  exact one
 split
 ·rename_i hc
  rw[Bool.and_eq_true,Bool.and_eq_true]at hc
  obtain⟨a1,b1⟩:=c1 1 hc.1.2
  obtain⟨a2,b2⟩:=c1 2 hc.2
  split
  ·refine⟨by simp,a2,fun k hk=>?_⟩
   have:k=0∨k=1∨k=2:=by simp at hk;omega
   rcases this with rfl|rfl|rfl
   ·exact g0
   ·exact b1
   exact b2
  exact one
 split
 ·rename_i hc
  rw[Bool.and_eq_true,Bool.and_eq_true,Bool.and_eq_true]at hc
  obtain⟨a1,b1⟩:=c1 1 hc.1.1.2
  obtain⟨a2,b2⟩:=c1 2 hc.1.2
  obtain⟨a3,b3⟩:=c1 3 hc.2
  split
  ·refine⟨by simp,a3,fun k hk=>?_⟩
   have:k=0∨k=1∨k=2∨k=3:=by simp at hk;omega
   rcases this with rfl|rfl|rfl|rfl
   ·exact g0
   ·exact b1
   ·exact b2
   exact b3
  exact one
 exact one
theorem cY(s:ByteArray)(j:Nat)(hj:j<s.size):s.data.toList[j]?=some (s.get! j):=by
 have:=get_at s j hj
 rw[Nat.add_zero]at this
 rw[this]
 exact Lib.data_getElem? s j hj
theorem cZ{s:ByteArray}{i:Nat}(h:i<s.size)(ha:128≤(s[i]'h).toNat)(hno:Lib.NoAny s.data.toList [0,47] i):Lib.NoAny s.data.toList [0,47] (i+(Utf8.decode s i).2):=by
 obtain⟨_,h2,h3⟩:=VC s i h ha
 intro j b hj hb
 by_cases hlt:j<i
 ·exact hno j b hlt hb
 have:=h3 (j - i) (by omega)
 rw[show i+(j - i)=j by omega]at this
 rw[cY s j (by omega)]at hb
 injection hb with hb
 rw[hb]at this
 have h0:b≠0:=by rintro rfl;simp at this
 have h47:b≠47:=by
  rintro rfl
  have:(47:UInt8).toNat=47:=rfl
  omega
 simp[h0,h47]
theorem d6(r:Int)(w:World)(h0:128≤r)(h1:r≤2147483647):
    Calls Tryz.prog 183 #[.string ⟨#[0,47]⟩, .int .i32 r] w fun e w'=>e= .returned (.int .i64 (-1))∧Below w.heap.size w w':=by
 by_cases h2:r=65533
 ·subst h2;exact cW w
 cases hv:Lib.validRune r with
 |true=>exact cU r w h0 h1 h2 hv
 |false=>exact(cT r w h0 h1 h2 hv).mono fun e w' h=>⟨h.1,by rw[←h.2];exact Below.refl _ _⟩
def VE(s:ByteArray)(w:World)(e:Ending)(w':World):Prop:=∃v:Int,e= .returned (.int .i64 v)∧Below w.heap.size w w'∧((0≤v)↔((0:UInt8)∈s.data.toList∨(47:UInt8)∈s.data.toList))
theorem d7{s:ByteArray}(h:Lib.NoAny s.data.toList [0,47] s.size):¬((0:UInt8)∈s.data.toList∨(47:UInt8)∈s.data.toList):=by
 rintro(h'|h')
 ·obtain⟨j,hj⟩:=List.mem_iff_getElem?.1 h'
  have:=h j 0 (by rw[Lib.size_eq];exact(Ar.1 hj).1) hj
  simp at this
 obtain⟨j,hj⟩:=List.mem_iff_getElem?.1 h'
 have:=h j 47 (by rw[Lib.size_eq];exact(Ar.1 hj).1) hj
 simp at this
theorem d8{s:ByteArray}{i:Nat}{x:UInt8}(hx:s.data.toList[i]?=some x)(h:[0,47].contains x=true):((0:UInt8)∈s.data.toList∨(47:UInt8)∈s.data.toList):=by
 have hm:=Au hx
 simp at h
 rcases h with rfl|rfl
 ·exact .inl hm
 exact .inr hm
set_option maxRecDepth 1000000 in
set_option maxHeartbeats 4000000 in
theorem d9(s:ByteArray)(w:World)(h8:s.size≤8):Calls Tryz.prog 144 #[.string s, .string ⟨#[0,47]⟩] w (VE s w):=by
 have h8z:decide ((8:Int)<(s.size:Int))=false:=decide_eq_false (by omega)
 go_enter Tryz.func144,Tryz.ntmps144
 go_wp2_with (go_at_call 184;refine(Tryz.strings_shouldUseASCIISet _ _).mono ?_;rintro e w' ⟨rfl,hw⟩;rw[hw,h8z])
 clear hw
 go_loopg [9,10] s.size (fun g _ _ wx=>∃i:Nat,s.size≤i+g∧i≤s.size∧wx.heap[w.heap.size]?=some (.stringIter s i)∧Below w.heap.size w wx∧Hid (Lib.NoAny s.data.toList [0,47] i))
 case atStart=>exact⟨0,by omega,by omega,World.iter_heap w s 0,(Below.refl _ _).alloc (Nat.le_refl _) _,Lib.hid (Lib.NoAny.zero _ _)⟩
 case round=>
  obtain⟨i,hg,hi,hit,hbel,hno⟩:=hrel
  have hks:=hbel.size
  by_cases hlt:i<s.size
  ·obtain⟨g,rfl⟩:∃g,gk=g+1:=⟨gk - 1,by omega⟩
   by_cases hx:(s[i]'hlt).toNat<128
   ·have hnx:=fun ty=>Lib.run_next_ascii_at (P:=Tryz.prog) wr w.heap.size s i ty hit hlt hx
    have hxl:s.data.toList[i]?=some (s[i]'hlt):=Lib.data_getElem? s i hlt
    generalize (s[i]'hlt)=x at *
    have Hx:=Lib.hid hxl
    have hit':=Lib.iterAt_heap wr w.heap.size s i (i+1) hit
    have hbel':=Lib.below_iterAt hbel (Nat.le_refl _) s (i+1)
    generalize wr.iterAt w.heap.size s (i+1)=w1 at *
    have hcon:=Lib.contains_iff_indexByte [0,47] x
    have hback:((x.toNat:Int)).toNat.toUInt8=x:=by simp
    have HI:=Lib.hid hit'
    clear hxl hit hit'
    cases hin:[0,47].contains x
    ·rw[hin]at hcon
     have hneg:¬((0:Int)≤Lib.indexByte [0,47] x):=of_decide_eq_false hcon.symm
     clear hcon
     go_wp2_with (go_at_call 183;refine(Tryz.strings_IndexRune_ascii _ _ _ (by omega) (by omega)).mono ?_;rintro e w' ⟨rfl,hw⟩;rw[hw,hback])
     go_roundg g
     case measure=>omega
     case rel=>exact⟨i+1,by omega,by omega,HI.out,hbel',Lib.hid (hno.out.succ Hx.out hin)⟩
    rw[hin]at hcon
    have hpos:(0:Int)≤Lib.indexByte [0,47] x:=of_decide_eq_true hcon.symm
    clear hcon
    go_wp2_with (go_at_call 183;refine(Tryz.strings_IndexRune_ascii _ _ _ (by omega) (by omega)).mono ?_;rintro e w' ⟨rfl,hw⟩;rw[hw,hback])
    go_ret
    exact⟨_,rfl,hbel',⟨fun _=>d8 Hx.out hin,fun _=>by omega⟩⟩
   have hx':128≤(s[i]'hlt).toNat:=by omega
   obtain⟨p1,p2,_⟩:=VC s i hlt hx'
   have HN:=Lib.hid (cZ hlt hx' hno.out)
   have q1:=(decode_high s i hlt hx').1
   have q2:=decode_le s i
   have hnx:=fun ty=>Lib.run_next_any_at (P:=Tryz.prog) wr w.heap.size s i ty hit hlt
   generalize Utf8.decode s i=d at *
   obtain⟨d1,d2⟩:=d
   simp only at *
   have hit':=Lib.iterAt_heap wr w.heap.size s i (i+d2) hit
   have hbel':=Lib.below_iterAt hbel (Nat.le_refl _) s (i+d2)
   have hsz:=Lib.iterAt_size wr w.heap.size s (i+d2)
   generalize wr.iterAt w.heap.size s (i+d2)=w1 at *
   have hk1:w.heap.size<w1.heap.size:=(Array.getElem?_eq_some_iff.1 hit').1
   have HI:=Lib.hid hit'
   clear hit hit' hsz
   go_wp2_with fail
   refine(d6 _ _ (by omega) (by omega)).mono ?_
   rintro e w2 ⟨rfl,hb2⟩
   go_wp2
   go_roundg g
   case measure=>omega
   case rel=>exact⟨i+d2,by omega,by omega,(hb2.block _ hk1).trans HI.out,hbel'.trans (hb2.mono (by omega)),HN⟩
  obtain rfl:i=s.size:=by omega
  have hnx:=fun ty=>Lib.run_next_end_at (P:=Tryz.prog) wr w.heap.size s s.size ty hit hlt
  go_wp2
  go_ret
  exact⟨_,rfl,hbel,⟨fun h=>absurd h (by decide),fun h=>absurd h (d7 hno.out)⟩⟩
theorem dA(s:ByteArray):(0≤Lib.indexAny s.data.toList [0,47])↔((0:UInt8)∈s.data.toList∨(47:UInt8)∈s.data.toList):=by
 generalize s.data.toList=l
 induction l with
 |nil=>simp[Lib.indexAny]
 |cons b l ih=>
   have hge:=Lib.indexAny_ge [0,47] l
   unfold Lib.indexAny
   by_cases hb:[0,47].contains b=true
   ·rw[if_pos hb]
    simp only[List.contains_cons,List.contains_nil,Bool.or_false,Bool.or_eq_true,beq_iff_eq]at hb
    rcases hb with rfl|rfl<;>simp
   rw[if_neg hb]
   have h0:(0:UInt8)≠b:=by rintro rfl;simp at hb
   have h47:(47:UInt8)≠b:=by rintro rfl;simp at hb
   simp only[List.mem_cons,h0,h47,false_or]
   rw[←ih]
   split
   ·rename_i h
    have:Lib.indexAny l [0,47]= -1:=by simpa using h
    rw[this]
   rename_i h
   have:Lib.indexAny l [0,47]≠ -1:=by simpa using h
   constructor<;>intro h'<;>omega
theorem dB(s:ByteArray)(w:World)(hs:s.size≤1000000):Calls Tryz.prog 144 #[.string s, .string ⟨#[0,47]⟩] w (VE s w):=by
 by_cases h8:s.size≤8
 ·exact d9 s w h8
 refine(Tryz.strings_IndexAny_long (fun w=>by kernel_rfl) s ⟨#[0,47]⟩ w (by decide) (by omega) (by omega) (by decide) ?_).mono ?_
 ·intro j b hj
  have:b∈[0,47]:=Au hj
  simp at this
  rcases this with rfl|rfl<;>decide
 rintro e w' ⟨rfl,rfl⟩
 exact⟨_,rfl,Hd _ _ _,dA s⟩
def RD(s:ByteArray):Bool:=decide ((0:UInt8)∈s.data.toList∨(47:UInt8)∈s.data.toList)
theorem dC(s:ByteArray)(w:World)(hs:s.size≤1000000):
    Calls Tryz.prog 104 #[.string s, .string ⟨#[0,47]⟩] w fun e w'=>e= .returned (.bool (RD s))∧Below w.heap.size w w':=by
 go_enter Tryz.func104,Tryz.ntmps104
 go_wp2_with fail
 refine(dB s w hs).mono ?_
 rintro e w' ⟨v,rfl,hb,hv⟩
 have HV:=Lib.hid hv
 clear hv
 go_wp2
 go_ret
 exact⟨KF (decide_eq_decide.2 HV.out),hb⟩
theorem VF(s:ByteArray):(s.toList==[46])=decide (s.data.toList=[46]):=by rw[Gf,Bool.eq_iff_iff];simp
theorem VG(s:ByteArray):(s.toList==[46,46])=decide (s.data.toList=[46,46]):=by rw[Gf,Bool.eq_iff_iff];simp
set_option maxHeartbeats 1000000 in
theorem VH(s:ByteArray)(w:World):
    Calls Tryz.prog 57 #[.string s] w fun e w'=>e= .returned (.bool (E5 s.data.toList))∧Below w.heap.size w w':=by
 have hsz:=Lib.size_eq s
 by_cases h0:s.size=0
 ·have he:s.toList.isEmpty=true:=by rw[VA];simp[h0]
  have he':s.toList=[]:=List.isEmpty_iff.1 he
  have HF:Hid (E5 s.data.toList=false):=Lib.hid (by
   rw[←Gf,he'];rfl)
  clear hsz
  go_enter Tryz.func57,Tryz.ntmps57
  go_wp2
  go_ret
  exact⟨KF HF.out.symm,Below.refl _ _⟩
 have he:s.toList.isEmpty=false:=by rw[VA];simp[h0]
 have hne:s.data.toList≠[]:=by intro e;rw[e]at hsz;exact h0 hsz
 by_cases h12:s.size≤12
 ·have hle:decide ((s.size:Int)≤12)=true:=decide_eq_true (by omega)
  by_cases h1:s.data.toList=[46]
  ·have e1:(s.toList==[46])=true:=by rw[VF];simp[h1]
   have e1':(s.toList != [46])=false:=by simp[bne,e1]
   have HF:Hid (E5 s.data.toList=false):=Lib.hid (by rw[h1];rfl)
   clear hsz hne h1
   go_enter Tryz.func57,Tryz.ntmps57
   go_wp2
   go_ret
   exact⟨KF HF.out.symm,Below.refl _ _⟩
  have e1:(s.toList==[46])=false:=by rw[VF];simp[h1]
  have e1':(s.toList != [46])=true:=by simp[bne,e1]
  by_cases h2:s.data.toList=[46,46]
  ·have e2:(s.toList==[46,46])=true:=by rw[VG];simp[h2]
   have e2':(s.toList != [46,46])=false:=by simp[bne,e2]
   have HF:Hid (E5 s.data.toList=false):=Lib.hid (by rw[h2];rfl)
   clear hsz hne h1 h2
   go_enter Tryz.func57,Tryz.ntmps57
   go_wp2
   go_ret
   exact⟨KF HF.out.symm,Below.refl _ _⟩
  have e2:(s.toList==[46,46])=false:=by rw[VG];simp[h2]
  have e2':(s.toList != [46,46])=true:=by simp[bne,e2]
  have HF:Hid (E5 s.data.toList= !RD s):=Lib.hid (by
   unfold RD
   rw[Bool.eq_iff_iff,MP]
   simp only[Bool.not_eq_true',decide_eq_false_iff_not,not_or]
   exact⟨fun h=>h.2.2.2.2,fun h=>⟨hne,by omega,h1,h2,h⟩⟩)
  clear hsz hne h1 h2
  go_enter Tryz.func57,Tryz.ntmps57
  go_wp2_with fail
  refine(dC s _ (by omega)).mono ?_
  rintro e w' ⟨rfl,hb⟩
  go_wp2
  go_ret
  exact⟨KF HF.out.symm,hb⟩
 have hle:decide ((s.size:Int)≤12)=false:=decide_eq_false (by omega)
 have HF:Hid (E5 s.data.toList=false):=Lib.hid (decide_eq_false (fun h=>by have:=h.2.1;omega))
 clear hsz hne
 go_enter Tryz.func57,Tryz.ntmps57
 go_wp2
 go_ret
 exact⟨KF HF.out.symm,Below.refl _ _⟩
theorem dD(s:AE):AFn Tryz.prog 57 [.v (.string s)] (fun r=>r= .v (.bool (DU s))):=by
 rw[OA]
 exact Nh (us:=[.string s]) fun w=>VH s w
theorem RE{α:Type}(p:α→Bool):∀(l:List α) (i:Nat) (m:α),(l.filter p)[i]?=some m→∃j:Nat,l[j]?=some m∧(l.filter p).take i=(l.take j).filter p
 |[],i,m,h=>by simp at h
 |x::l,i,m,h=>by
   rw[List.filter_cons]at h ⊢
   cases hx:p x with
   |false=>
     rw[hx]at h
     obtain⟨j,h1,h2⟩:=RE p l i m (by simpa using h)
     exact⟨j+1,by simpa using h1,by simp[hx,h2]⟩
   |true=>
     rw[hx]at h
     cases i with
     |zero=>exact⟨0,by simpa using h,by simp⟩
     |succ i=>
       obtain⟨j,h1,h2⟩:=RE p l i m (by simpa using h)
       exact⟨j+1,by simpa using h1,by simp[hx,h2]⟩
theorem dF{s:Spc}(hv:SpcV s)(dev:Int)(h0:(FC s dev).2=0):SpcV (FC s dev).1∧(FC s dev).1=⟨s.files,s.mounts.filter fun m:D6=>decide (m.1≠dev)⟩:=by
 unfold FC at h0 ⊢
 split at h0
 ·exact absurd h0 (by decide)
 rename_i c1
 split at h0
 ·exact absurd h0 (by decide)
 rename_i c2
 rw[if_neg c1,if_neg c2]
 refine⟨⟨hv.files,hv.pos,fun i m hi=>?_⟩,rfl⟩
 obtain⟨j,h1,h2⟩:=RE _ s.mounts i m hi
 have hm:=hv.mnt j m h1
 show MntOK s.files ((s.mounts.filter _).take i) m
 rw[h2]
 refine⟨hm.dev1,hm.dev2,?_,hm.dir,?_,?_⟩
 ·have hf:=hm.fresh
  rw[←Bool.not_eq_true]at hf ⊢
  exact fun h=>hf (US h fun x hx=>(List.mem_filter.1 hx).1)
 ·by_cases hz:m.2.1=0
  ·unfold Bl;simp[hz]
  obtain⟨m',hm',e⟩:=Qn hm.there hz
  rw[←e]
  refine Mo (s:=⟨s.files,(s.mounts.take j).filter fun m:D6=>decide (m.1≠dev)⟩) (List.mem_filter.2 ⟨hm',decide_eq_true ?_⟩)
  intro e2
  have hany:(s.mounts.any fun m:D6=>decide (m.2.1=dev))=true:=List.any_eq_true.2 ⟨m,Au h1,decide_eq_true (by rw[←e,e2])⟩
  exact c2 hany
 have hf:=hm.free
 cases hc:Bo ⟨s.files,(s.mounts.take j).filter fun m:D6=>decide (m.1≠dev)⟩ m.2 with
 |none=>rfl
 |some d=>
   exfalso
   obtain⟨k,hk⟩:=Mq hc
   have hmem:=(List.mem_filter.1 (Au hk)).1
   cases hc2:Bo ⟨s.files,s.mounts.take j⟩ m.2 with
   |some d'=>rw[hc2]at hf;cases hf
   |none=>
     unfold Bo at hc2
     cases hq:(s.mounts.take j).find? fun x:D6=>decide (x.2=m.2)with
     |some y=>rw[hq]at hc2;cases hc2
     |none=>have:=List.find?_eq_none.1 hq _ hmem;simp at this
section
theorem dG(s:Spc)(hs:SpcB s):AFn Tryz.prog 88 [.agg (Ai s)] (fun r=>r= .agg (Ai s)):=by
 have hfew:=hs.few
 refine enter Tryz.func88 rfl rfl rfl rfl rfl 0 rfl ?_
 refine w_ (b_ (h:=AW (h:=e_ (q_ (BH ([(0,Ai s)]) 8 (h:=AF 0 (h:=?_)))))))
 first|refine AJ 1 (h:=?_)|refine Bj 1 rfl (fun _ hS=>L3 (row:=Ai s) rfl (kb hS rfl) (BT rfl) rfl ⟨rfl,rfl⟩) ?_
 refine AF 3 (h:=?_)
 first|refine AJ 4 (h:=?_)|refine Bj 4 rfl (fun _ hS=>L3 (row:=Ai s) rfl (kb hS rfl) (BT rfl) rfl ⟨rfl,rfl⟩) ?_
 refine c_ 2 rfl (AK (QY s.files hs.files) ?_)
 rintro r rfl
 refine o_ (h:=?_)
 first|refine c_ 5 rfl (E3 rfl rfl rfl (by simp;omega) (by repeat constructor) ?_)|refine c_ 5 rfl (Hv rfl rfl (by simp;omega) (by repeat constructor) ?_)
 refine o_ (h:=Gm 6 (h:=?_))
 refine B0 7 rfl (Aw rfl rfl rfl rfl rfl rfl (by repeat constructor) (by repeat constructor) ?_)
 refine o_ (h:=z_ (h:=t_ (A6 (?_))))
 refine Aj (r:= .agg (Ai s)) none (h5:=?_) (h6:=⟨rfl,rfl,rfl⟩)
 exact LeA.agg (LeL.cons (LeA.refl _) (LeL.cons (LeA.tok _ _ _) LeL.nil))
end
end Go.Proofs.YtbglbmnhgbgelaaGreatDoor
namespace Go.Proofs.YtbglbmnhgbgelaaGreatDoor
section
variable {s:Spc}(hv:SpcV s)
include hv
def Hn(s:Spc)(a:A9):Prop:=(Be s a).2=true∧∀i,0<i→G5 s (BE s (BL s.files) a) i=true
theorem OV{a:A9}(h:AX s.files a=true)(hm:Bl s a.1=true):(Be s a).2=true:=by rw[ON hv h hm]
omit hv in
theorem VJ(a:A9)(L:List A9)(i:Nat):G5 s (a::L) (i+2)=G5 s L (i+1):=by
 unfold G5
 have h1:(a::L)[i+2]?=L[i+1]?:=List.getElem?_cons_succ
 have h2:(a::L)[i+2 - 1]?=L[i+1 - 1]?:=List.getElem?_cons_succ
 rw[h1,h2]
 simp
omit hv in
theorem VK(a b:A9)(L:List A9):G5 s (a::b::L) 1=true↔∀dev,Bo s b=some dev→a=(dev,1):=by
 unfold G5
 simp only[List.getElem?_cons_succ,List.getElem?_cons_zero,Nat.sub_self]
 cases Bo s b with
 |none=>simp
 |some dev=>simp
omit hv in
theorem VL{L:List A9}{i:Nat}(h:L.length≤i):G5 s L i=true:=by
 unfold G5
 rw[List.getElem?_eq_none h]
theorem VM(a:A9):OL s a=true↔Hn s a∧Bo s a=none:=by
 rw[b8 hv,Bool.and_eq_true,List.all_eq_true]
 constructor
 ·rintro⟨h1,h2⟩
  obtain⟨t,ht⟩:=OK hv (Qx h1).1
  refine⟨⟨h1,fun i hi=>?_⟩,?_⟩
  ·by_cases hl:i<(BE s (BL s.files) a).length
   ·exact h2 i (List.mem_range.2 hl)
   exact VL (by omega)
  have h3:=h2 0 (List.mem_range.2 (by rw[ht];simp))
  rw[ht]at h3
  unfold G5 at h3
  simp only[List.getElem?_cons_zero]at h3
  cases hc:Bo s a with
  |none=>rfl
  |some dev=>rw[hc]at h3;simp at h3
 rintro⟨⟨h1,h2⟩,hc⟩
 refine⟨h1,fun i _=>?_⟩
 obtain⟨t,ht⟩:=OK hv (Qx h1).1
 by_cases h0:i=0
 ·subst h0
  rw[ht]
  unfold G5
  simp only[List.getElem?_cons_zero,hc]
 exact h2 i (by omega)
theorem dH{a b:A9}(h:AX s.files a=true)(hm:Bl s a.1=true)(hs:Cc s a=some b):Hn s a↔Hn s b∧∀dev,Bo s b=some dev→a=(dev,1):=by
 have hb:=Mp hv h hs
 have hbm:=Qp hv hm hs
 obtain⟨t,ht⟩:=OK hv hb
 have hc:BE s (BL s.files) a=a::BE s (BL s.files) b:=by rw[Jm hv h,hs]
 unfold Hn
 rw[hc]
 constructor
 ·rintro⟨_,h2⟩
  refine⟨⟨OV hv hb hbm,fun i hi=>?_⟩,?_⟩
  ·obtain⟨j,rfl⟩:∃j,i=j+1:=⟨i - 1,by omega⟩
   rw[←VJ a]
   exact h2 _ (by omega)
  have h3:=h2 1 (by omega)
  rw[ht]at h3
  exact(VK a b t).1 h3
 rintro⟨⟨_,h2⟩,h3⟩
 refine⟨OV hv h hm,fun i hi=>?_⟩
 by_cases h1:i=1
 ·subst h1
  rw[ht]
  exact(VK a b t).2 h3
 obtain⟨j,rfl⟩:∃j,i=j+2:=⟨i - 2,by omega⟩
 rw[VJ]
 exact h2 _ (by omega)
theorem dJ(h:AX s.files (0,1)=true):Hn s (0,1):=by
 have hs:Cc s (0,1)=none:=by unfold Cc;rw[if_neg (by simp)];exact Qq hv
 refine⟨OV hv h (by unfold Bl;simp),fun i hi=>?_⟩
 rw[Jm hv h,hs]
 exact VL (by simp;omega)
theorem dL{a:A9}{dev:Int}(hc:Bo s a=some dev):Cc s (dev,1)=some a∧AX s.files (dev,1)=true∧Bl s dev=true∧dev≠0∧AX s.files a=true:=by
 obtain⟨i,hi⟩:=Mq hc
 have hm:=hv.mnt i _ hi
 have h1:=hm.dev1
 have h2:=hm.dev2
 simp only at h1 h2
 have hs:Cc s (dev,1)=some a:=by
  unfold Cc
  rw[if_neg (by simp)]
  exact UY hv hi
 exact⟨hs,Uo hv (by omega) h2,Mo (s:=s) (m:=(dev,a)) (Au hi),by omega,hm.dir⟩
theorem dM{a:A9}(h:Hn s a):Hn s (Gq s a):=by
 unfold Gq
 cases hc:Bo s a with
 |none=>exact h
 |some dev=>
   obtain⟨h1,h2,h3,_⟩:=dL hv hc
   refine(dH hv (a:=(dev,1)) h2 h3 h1).2 ⟨h,fun d hd=>?_⟩
   rw[hc]at hd
   injection hd with hd
   rw[hd]
theorem VN:∀(n:Nat) (a:A9),Hn s a→Hn s (Cp s n a)
 |0,_,h=>h
 |n+1,a,h=>by rw[Cp];exact VN n _ (dM hv h)
theorem dO{a:A9}(h:Hn s a):OL s (Cp s s.mounts.length a)=true:=(VM hv _).2 ⟨VN hv _ a h,UW hv _ a fun i m _ _=>by omega⟩
omit hv in
theorem dQ{d:Dvc}(hd:VD d){a b m:Nod}(ha:a∈d.nodes)(hb:b∈d.nodes)(hm:m∈d.nodes)(h1:m.ino≠1)(hk:m.kind=2)(hea:∃e∈a.entries,e.2=m.ino)(heb:∃e∈b.entries,e.2=m.ino):a=b:=by
 have hc:=hd.one m hm h1 hk
 obtain⟨A,B,hAB,_,_⟩:=To hd.asc ha
 rw[hAB,QH,L5]at hc
 have h2:=Tn.2 hea
 rw[hAB]at hb
 rcases List.mem_append.1 hb with hb|hb
 ·have:=MY.2 ⟨b,hb,heb⟩;omega
 rcases List.mem_cons.1 hb with hb|hb
 ·exact hb.symm
 have:=MY.2 ⟨b,hb,heb⟩;omega
theorem VO{a b:A9}{p:AE}(hl:AM s.files a p=(b,0)):AX s.files a=true∧DU p=true∧b.1=a.1∧b.2≠1∧Cy s.files b=true∧(AX s.files b=true→Cc s b=some a):=by
 unfold AM at hl
 cases hn:Bk s.files a with
 |none=>rw[hn]at hl;simp at hl
 |some n=>
   rw[hn]at hl
   simp only at hl
   by_cases hk:n.kind=2
   ·rw[if_pos hk]at hl
    have hdir:AX s.files a=true:=(KQ hn).2 hk
    cases hf:n.entries.find? fun e:BK=>decide (e.1=p)with
    |none=>rw[hf]at hl;simp at hl
    |some e=>
      rw[hf]at hl
      simp only[Prod.mk.injEq,and_true]at hl
      subst hl
      have he:=List.mem_of_find?_eq_some hf
      have hep:=List.find?_some hf
      simp only[decide_eq_true_eq]at hep
      obtain⟨q,d,n',e1,e2,e3,e4,e5,e6⟩:=JD (f:=s.files) (a:=a) (by rw[hdir];simp)
      have hn':n'=n:=by
       have:Aa s.files a=n:=by unfold Aa;rw[hn];rfl
       rw[←this];exact e5.symm
      subst hn'
      have hd:=hv.files.vd d (Au e2)
      obtain⟨h1,h2,m,hm,hme⟩:=hd.ent n' e3 e he
      have hnb:Bk s.files (a.1,e.2)=some m:=by rw[e1];exact Qo hv e2 hm hme
      refine⟨hdir,by rw[←hep];exact h1,rfl,h2,by unfold Cy;rw[hnb];rfl,fun hdb=>?_⟩
      have hmk:m.kind=2:=(KQ hnb).1 hdb
      have hm1:m.ino≠1:=by rw[hme];exact h2
      obtain⟨p',hp',hpi,hpe⟩:=hd.par m hm hm1 hmk
      have:=dQ hd e3 hp' hm hm1 hmk ⟨e,he,hme.symm⟩ hpe
      subst this
      unfold Cc
      rw[if_pos h2]
      unfold Aa
      rw[hnb]
      simp only[Option.getD_some]
      rw[←hpi,e4]
   rw[if_neg hk]at hl;simp at hl
theorem dR:AX s.files (0,0)=false:=by
 cases hz:AX s.files (0,0)with
 |false=>rfl
 |true=>
   obtain⟨q,d,m,e1,e2,e3,e4,e5,e6⟩:=JD (f:=s.files) (a:=(0,0)) (by rw[hz];simp)
   have:=(hv.files.vd d (Au e2)).pos e3
   simp only at e4
   omega
end
end Go.Proofs.YtbglbmnhgbgelaaGreatDoor
namespace Go.Proofs.YtbglbmnhgbgelaaGreatDoor
theorem dS{p:AE}(h:DU p=true):p≠OR∧p≠Ms∧p.size≤12∧p≠⟨#[]⟩∧(47:UInt8)∉p.data.toList:=by
 rw[OA]at h
 obtain⟨h1,h2,h3,h4,h5,h6⟩:=MP.1 h
 refine⟨?_,?_,by rw[Lib.size_eq];exact h2,?_,h6⟩<;>(intro e;subst e;first|exact h3 rfl|exact h4 rfl|exact h1 rfl)
theorem dT{p:AE}(h:p.data.toList=[]):p=⟨#[]⟩:=Mr h
theorem dU{l:Bs}(h1:l≠[])(h2:l.head?≠some 47):Bq l≠[]:=by
 intro h
 have h3:DC (C6 l)=47::l:=QA l
 cases hs:C6 l with
 |nil=>exact O5 l hs
 |cons p ps=>
   rw[hs,GQ]at h3
   injection h3 with _ h3
   have h4:p=[]:=by
    unfold Bq at h
    rw[hs,List.filter_cons]at h
    split at h
    ·cases h
    rename_i hne
    simpa[ne_]using hne
   rw[h4,List.nil_append]at h3
   cases ps with
   |nil=>exact h1 h3.symm
   |cons q ps=>
     rw[GQ]at h3
     rw[←h3]at h2
     simp at h2
theorem dV{p:AE}(h1:p≠⟨#[]⟩)(h2:D8 p=false):Cm p≠[]:=by
 intro h
 unfold Cm at h
 rw[List.map_eq_nil_iff]at h
 refine dU (fun e=>h1 (dT e)) ?_ h
 unfold D8 at h2
 simpa using h2
end Go.Proofs.YtbglbmnhgbgelaaGreatDoor
namespace Go.Proofs.YtbglbmnhgbgelaaGreatDoor
abbrev zz:AE:=⟨#[122,122]⟩
end Go.Proofs.YtbglbmnhgbgelaaGreatDoor
namespace Go.Proofs.YtbglbmnhgbgelaaGreatDoor
structure Wk where
 ps:List AE
 at_:A9
 dir:A9
 name:AE
 missing:Bool
 links:Nat
def EA(s:Spc)(fl:Bool)(p:AE)(ps:List AE)(w:Wk):Int ⊕ Wk:=
 if AX s.files w.at_=false then .inl 20
 else if 12<p.size then .inl 36
 else if p=Ms then .inr ⟨ps,Cp s s.mounts.length (Dd s (s.mounts.length+1) w.at_),(0,0),⟨#[]⟩,w.missing,w.links⟩
 else if p=OR then .inr ⟨ps,w.at_,(0,0),⟨#[]⟩,w.missing,w.links⟩
 else if DU p=false then .inl 2
 else if(AM s.files w.at_ p).2≠0 then(if ps≠[]then .inl 2 else .inr ⟨ps,w.at_,w.at_,p,true,w.links⟩)
 else if(Aa s.files (AM s.files w.at_ p).1).kind=3∧(ps≠[]∨fl=true)then
  (if w.links=8 then .inl 40 else
    .inr ⟨Cm (Aa s.files (AM s.files w.at_ p).1).target++ps,if D8 (Aa s.files (AM s.files w.at_ p).1).target=true then Dq s else w.at_,if D8 (Aa s.files (AM s.files w.at_ p).1).target=true then(0,0)else w.dir,if D8 (Aa s.files (AM s.files w.at_ p).1).target=true then⟨#[]⟩else w.name,w.missing,w.links+1⟩)
 else .inr ⟨ps,Cp s s.mounts.length (AM s.files w.at_ p).1,w.at_,p,w.missing,w.links⟩
def G9(s:Spc)(sl:Bool)(w:Wk):Fnd:=
 if w.name=⟨#[]⟩then⟨w.at_,⟨#[]⟩,w.at_, !w.missing,sl,(Be s w.at_).1⟩
 else⟨w.dir,w.name,if w.missing=true then(0,0)else w.at_, !w.missing,sl,if(Be s w.dir).2=true then DD (Be s w.dir).1 w.name else⟨#[]⟩⟩
structure Sim(w:Wk)(σ:Lk):Prop where
 ps:w.ps=σ.ps
 links:w.links=σ.links
 ex:σ.ex= !w.missing
 here:w.missing=false→w.at_=σ.file
 gone:w.missing=true→σ.file=(0,0)∧w.ps=[]∧w.dir=σ.dir∧w.name=σ.name∧w.name≠⟨#[]⟩
 last:w.ps=[]→w.missing=false→(w.name=⟨#[]⟩→σ.name=⟨#[]⟩∧σ.dir=σ.file)∧(w.name≠⟨#[]⟩→w.dir=σ.dir∧w.name=σ.name)
section
variable {s:Spc}(hv:SpcV s)
include hv
theorem dW{a:A9}{p:AE}(h:DU p=false):(AM s.files a p).2≠0:=by
 intro e
 have:=(VO hv (a:=a) (p:=p) (b:=(AM s.files a p).1) (Prod.ext rfl e)).2.1
 rw[this]at h;cases h
theorem dY{a b:A9}{p:AE}(hl:AM s.files a p=(b,0))(hk:(Aa s.files b).kind=3):(Aa s.files b).target≠⟨#[]⟩:=by
 have hb:=(VO hv hl).2.2.2.2.1
 obtain⟨q,i,d,m,h1,h2,h3,h4,h5,h6⟩:=Ml hb
 rw[h6]at hk ⊢
 have hp:=(hv.files.vd d (Au h2)).plain m (Au h3)
 unfold En at hp
 split at hp
 ·cases hp
 try rw[if_pos hk]at hp
 unfold KA at hp
 intro e
 rw[e]at hp
 revert hp
 decide+kernel
theorem dZ(fl:Bool){p:AE}{ps:List AE}{w:Wk}{σ:Lk}(h:Sim w σ)(hm:w.missing=false):(∃e,EA s fl p ps w= .inl e∧Cd s fl p ps σ.file σ.links= .inl e)∨∃w' τ,EA s fl p ps w= .inr w'∧Cd s fl p ps σ.file σ.links= .inr τ∧Sim w' τ:=by
 have ha:=h.here hm
 have hex:(true:Bool)= !w.missing:=by rw[hm];rfl
 rw[←ha,←h.links]
 unfold EA Cd
 by_cases c1:AX s.files w.at_=false
 ·simp only[if_pos c1];exact .inl ⟨_,rfl,rfl⟩
 simp only[if_neg c1]
 by_cases c2:12<p.size
 ·simp only[if_pos c2];exact .inl ⟨_,rfl,rfl⟩
 simp only[if_neg c2]
 by_cases c3:p=OR
 ·have c4:¬p=Ms:=by rw[c3];decide
  simp only[if_pos c3,if_neg c4]
  exact .inr ⟨_,_,rfl,rfl,rfl,rfl,hex,fun _=>rfl,fun c=>(by rw[hm]at c;cases c),fun _ _=>⟨fun _=>⟨rfl,rfl⟩,fun c=>absurd rfl c⟩⟩
 simp only[if_neg c3]
 by_cases c4:p=Ms
 ·simp only[if_pos c4]
  exact .inr ⟨_,_,rfl,rfl,rfl,rfl,hex,fun _=>rfl,fun c=>(by rw[hm]at c;cases c),fun _ _=>⟨fun _=>⟨rfl,rfl⟩,fun c=>absurd rfl c⟩⟩
 simp only[if_neg c4]
 by_cases c5:DU p=false
 ·have c6:=dW hv (a:=w.at_) c5
  simp only[if_pos c5,if_pos c6,if_pos (show ps≠[]∨DU p=false from .inr c5)]
  exact .inl ⟨_,rfl,rfl⟩
 simp only[if_neg c5]
 have hp0:p≠⟨#[]⟩:=(dS (by simpa using c5)).2.2.2.1
 by_cases c6:(AM s.files w.at_ p).2≠0
 ·simp only[if_pos c6]
  by_cases c7:ps≠[]
  ·simp only[if_pos c7,if_pos (show ps≠[]∨DU p=false from .inl c7)]
   exact .inl ⟨_,rfl,rfl⟩
  simp only[if_neg c7,if_neg (show¬(ps≠[]∨DU p=false) from fun c=>c.elim c7 c5)]
  have c8:ps=[]:=Decidable.not_not.1 c7
  exact .inr ⟨_,_,rfl,rfl,c8,rfl,rfl,fun c=>(by cases c),fun _=>⟨rfl,c8,rfl,rfl,hp0⟩,fun _ c=>by cases c⟩
 simp only[if_neg c6]
 by_cases c7:(Aa s.files (AM s.files w.at_ p).1).kind=3∧(ps≠[]∨fl=true)
 ·simp only[if_pos c7]
  by_cases c8:w.links=8
  ·simp only[if_pos c8];exact .inl ⟨_,rfl,rfl⟩
  simp only[if_neg c8]
  have ht:=dY hv (a:=w.at_) (p:=p) (b:=(AM s.files w.at_ p).1) (Prod.ext rfl (Decidable.not_not.1 c6)) c7.1
  refine .inr ⟨_,_,rfl,rfl,rfl,rfl,hex,fun _=>rfl,fun c=>(by rw[hm]at c;cases c),fun hps _=>?_⟩
  by_cases c9:D8 (Aa s.files (AM s.files w.at_ p).1).target=true
  ·simp only[if_pos c9]
   exact⟨fun _=>⟨trivial,trivial⟩,fun c=>absurd rfl c⟩
  have:=dV ht (by simpa using c9)
  exact absurd (List.append_eq_nil_iff.1 hps).1 this
 simp only[if_neg c7]
 exact .inr ⟨_,_,rfl,rfl,rfl,rfl,hex,fun _=>rfl,fun c=>(by rw[hm]at c;cases c),fun _ _=>⟨fun c=>absurd c hp0,fun _=>⟨rfl,rfl⟩⟩⟩
theorem eB{sl:Bool}{w:Wk}{σ:Lk}(h:Sim w σ)(hps:w.ps=[]):G9 s sl w=Gx s sl σ:=by
 unfold G9 Gx
 cases hm:w.missing with
 |true=>
   obtain⟨g1,_,g2,g3,g4⟩:=h.gone hm
   rw[if_neg g4,h.ex,hm,g1,←g2,←g3]
   simp only[if_true,g4,if_false]
 |false=>
   have ha:=h.here hm
   obtain⟨k1,k2⟩:=h.last hps hm
   by_cases c:w.name=⟨#[]⟩
   ·obtain⟨e1,e2⟩:=k1 c
    rw[if_pos c,h.ex,hm,e1,e2,←ha]
    simp only[if_true]
    by_cases cw:(Be s w.at_).2=true
    ·rw[if_pos cw]
    rw[if_neg cw]
    have:Be s w.at_=(⟨#[]⟩,false):=LF hv fun c=>cw (OV hv c.1 c.2)
    rw[this]
   obtain⟨e1,e2⟩:=k2 c
   rw[if_neg c,h.ex,hm,←e1,←e2,←ha]
   simp only[c,if_false,Bool.false_eq_true]
end
end Go.Proofs.YtbglbmnhgbgelaaGreatDoor
namespace Go.Proofs.YtbglbmnhgbgelaaGreatDoor
open Go.RowKit Go.Shelf
attribute [local go_sem] Oper.semAt_some
theorem eC(s:ByteArray)(w:World):
    Calls Tryz.prog 90 #[.string s, .string ⟨#[47]⟩] w fun e w'=>
     e= .returned (.func (.func 171) #[] #[.pointer (some ⟨w.heap.size+1,0,none⟩), .pointer (some ⟨w.heap.size,0,none⟩), .pointer (some ⟨w.heap.size+1+1,0,none⟩)])∧
     w'=((w.alloc (.cells #[.string s] 9)).alloc (.cells #[.string ⟨#[47]⟩] 9)).alloc (.cells #[.int .i64 0] 3):=by
 go_enter Tryz.func90,Tryz.ntmps90
 go_wp2
 go_ret
 exact⟨rfl,rfl⟩
def OW(w:World)(b:Nat):Nat:=match w.cell? ⟨b,0,none⟩with
 |some (.string r)=>r.size
 |_=>0
theorem LQ{w:World}{b:Nat}{t:TypeId}{r:ByteArray}(h:Boxed w b t (.string r)):OW w b=r.size:=by simp[OW,h.cell]
def Keep3(a b c:Nat)(X Y:World):Prop:=Y.heap[a]?=X.heap[a]?∧Y.heap[b]?=X.heap[b]?∧Y.heap[c]?=X.heap[c]?
theorem Keep3.trans{a b c:Nat}{X Y Z:World}(h:Keep3 a b c X Y)(k:Keep3 a b c Y Z):Keep3 a b c X Z:=⟨k.1.trans h.1,k.2.1.trans h.2.1,k.2.2.trans h.2.2⟩
theorem eD{a b c N:Nat}(ha:a<N)(hb:b<N)(hc:c<N)(W:World)(l:Nat)(o':Obj)(hl:N≤l):Keep3 a b c W (W.putObj l o'):=
 ⟨World.putObj_heap_other (by omega),World.putObj_heap_other (by omega),World.putObj_heap_other (by omega)⟩
theorem eG{a b c:Nat}{X Y:World}(h:Below X.heap.size X Y)(ha:a<X.heap.size)(hb:b<X.heap.size)(hc:c<X.heap.size):Keep3 a b c X Y:=⟨h.block _ ha,h.block _ hb,h.block _ hc⟩
theorem RF(s:ByteArray)(i:Nat)(h:i<s.size):(s.extract (i+1) s.size).size<s.size:=by
 rw[ByteArray.size_extract];omega
theorem eH{s:ByteArray}{i:Nat}(hi:Lib.indexByte s.data.toList 47=i):i<s.size∧C6 s.data.toList=(s.extract 0 i).data.toList::C6 (s.extract (i+1) s.size).data.toList:=by
 have hm:(47:UInt8)∈s.data.toList:=by
  apply Classical.byContradiction
  intro h
  rw[VB h]at hi
  omega
 obtain⟨j,hj,hlt,hl,hn⟩:=RC hm
 obtain rfl:j=i:=by omega
 refine⟨by rw[Lib.size_eq];exact hlt,?_⟩
 rw[Lib.extract_data,Lib.extract_to_end]
 simp only[List.drop_zero,Nat.sub_zero]
 conv=>lhs;rw[hl]
 exact TR hn _
theorem eJ{s:ByteArray}(hi:Lib.indexByte s.data.toList 47<0):C6 s.data.toList=[s.data.toList]:=by
 refine O6 fun h=>?_
 obtain⟨i,hi',_⟩:=RC h
 omega
def DQ(xs:List AE):List Bs:=xs.map fun x=>x.data.toList
set_option maxRecDepth 100000 in
set_option maxHeartbeats 1000000 in
theorem eK(n:Nat)(s:ByteArray)(hs:s.size≤1000000)(b0 b1 b2:Nat)(w:World)(h0:Boxed w b0 9 (.string s))(h1:Boxed w b1 9 (.string ⟨#[47]⟩))(h2:Boxed w b2 3 (.int .i64 0))(h01:b0≠b1)(h02:b0≠b2):
    SeqW Fence.wide n Tryz.prog 171 #[.pointer (some ⟨b1,0,none⟩), .pointer (some ⟨b0,0,none⟩), .pointer (some ⟨b2,0,none⟩)] (fun x:AE=>#[.string x]) (fun b=>b=b0) (Keep3 b0 b1 b2) (fun xs=>DQ xs<+:C6 s.data.toList)
     (fun xs=>DQ xs=C6 s.data.toList) (fun pre=>DQ pre<+:C6 s.data.toList) w:=fun l J Jx W hW hJ hJx hY hst=>by
 have k0:Boxed W b0 9 (.string s):=BR h0 hW h0.lt
 have k1:Boxed W b1 9 (.string ⟨#[47]⟩):=BR h1 hW h1.lt
 have k2:Boxed W b2 3 (.int .i64 0):=BR h2 hW h2.lt
 refine callsIn_of_wp Tryz.func171 rfl trivial ?_ rfl
 simp only[Tryz.ntmps171,List.size_toArray,List.length_cons,List.length_nil,Nat.reduceAdd,Nat.reduceSub,Array.replicate_succ,Array.replicate_zero,List.push_toArray,List.append_toArray,List.nil_append,List.cons_append]
 have c1:=k1.cell
 gi_wp2
 gi_loopw [7] (fun _ wr=>∃(pre:List AE) (r:ByteArray),Boxed wr b0 9 (.string r)∧Boxed wr b1 9 (.string ⟨#[47]⟩)∧Boxed wr b2 3 (.int .i64 0)∧J pre wr∧Hid (DQ pre++C6 r.data.toList=C6 s.data.toList)∧r.size≤s.size) (fun _ wr=>OW wr b0)
 case atStart=>exact⟨[],s,k0,k1,k2,hst,rfl,Nat.le_refl _⟩
 case round=>
  obtain⟨pre,r,m0,m1,m2,hj,hpre,hle⟩:=hrel
  clear k0 k1 k2 c1 hst
  have c0:=m0.cell
  have c1:=m1.cell
  have c2:=m2.cell
  have f0:=m0.frozen
  gi_wp2_with fail
  refine Dx ((callsIn_wide.2 (cQ _ _)).mono ?_)
  rintro e w' ⟨rfl,rfl⟩
  have hge:=Lib.indexByte_ge r.data.toList 47
  by_cases hneg:Lib.indexByte r.data.toList 47<0
  ·have HS:=Lib.hid (eJ hneg)
   obtain⟨fn,tmps,assign,body,hy,hR⟩:=hY pre r wr hj (by rw[←hpre.out,HS.out];simp[DQ])
   gi_wp2
   refine⟨(fun h=>by cases h),hR.mono ?_⟩
   rintro e W3 (⟨rfl,hJ3,hk3⟩|⟨rfl,hJx3⟩)
   ·gi_wp2
    go_end0
    exact⟨⟨_,rfl⟩, .inl ⟨pre++[r],by rw[←hpre.out,HS.out];simp[DQ],hJ3⟩⟩
   gi_wp2
   go_end0
   exact⟨⟨_,rfl⟩, .inr ⟨pre++[r],by rw[←hpre.out,HS.out];simp[DQ],hJx3⟩⟩
  obtain⟨i,hi⟩:=Int.eq_ofNat_of_zero_le (show 0≤Lib.indexByte r.data.toList 47 by omega)
  obtain⟨hlt,hseg⟩:=eH hi
  have HS:=Lib.hid hseg
  clear hseg hge hneg
  rw[hi]
  clear hi
  obtain⟨fn,tmps,assign,body,hy,hR⟩:=hY pre (r.extract 0 i) wr hj (by rw[←hpre.out,HS.out];simp[DQ])
  gi_wp2
  refine⟨(fun h=>by cases h),hR.mono ?_⟩
  rintro e W3 (⟨rfl,hJ3,hk3⟩|⟨rfl,hJx3⟩)
  ·have q0:Boxed W3 b0 9 (.string r):=hk3.1.trans m0
   have q1:Boxed W3 b1 9 (.string ⟨#[47]⟩):=hk3.2.1.trans m1
   have q2:Boxed W3 b2 3 (.int .i64 0):=hk3.2.2.trans m2
   clear c0 c1 c2 f0 hy hR
   have c0:=q0.cell
   have c1:=q1.cell
   have c2:=q2.cell
   have f0:=q0.frozen
   gi_wp2
   go_roundw
   case rel=>exact⟨pre++[r.extract 0 i],r.extract (i+1) r.size,q0.set _,q1.other (Ne.symm h01) _,q2.other (Ne.symm h02) _,hJ _ _ _ hJ3 (Moves.set_ (own:=fun b=>b=b0) _ rfl _),Lib.hid (by rw[←hpre.out,HS.out];simp[DQ]),Nat.le_trans (Nat.le_of_lt (RF r i hlt)) hle⟩
   case measure=>rw[LQ (q0.set _),LQ m0];exact RF r i hlt
  gi_wp2
  refine bodyPost_ret (results_none rfl _ _ _) rfl ?_
  exact⟨⟨_,rfl⟩, .inr ⟨pre++[r.extract 0 i],by rw[←hpre.out,HS.out];simp[DQ],hJx3⟩⟩
end Go.Proofs.YtbglbmnhgbgelaaGreatDoor
namespace Go.Proofs.YtbglbmnhgbgelaaGreatDoor
open Go.RowKit Go.Shelf
attribute [local go_sem] Oper.semAt_some
theorem N0(l:Bs):Lib.hasPrefix l [47]=decide (l.head?=some 47):=by
 unfold Lib.hasPrefix
 cases l with
 |nil=>simp
 |cons c t=>
   rw[Bool.eq_iff_iff,List.isPrefixOf_iff_prefix]
   simp[List.cons_prefix_cons,eq_comm]
theorem eL{l:Bs}(h:l.head?=some 47):Lib.trimPrefix l [47]=l.tail:=by
 unfold Lib.trimPrefix
 rw[N0,if_pos (by simp[h])]
 simp
set_option maxRecDepth 100000 in
set_option maxHeartbeats 1000000 in
theorem VP(s:ByteArray)(w:World)(h:s.data.toList=[47]∨s.data.toList.head?≠some 47):
    Calls Tryz.prog 51 #[.string s] w fun e w'=>e= .returned (.bool (Dl s.data.toList))∧Below w.heap.size w w':=by
 by_cases h1:s.data.toList=[47]
 ·obtain rfl:s=⟨#[47]⟩:=V9 h1
  go_enter Tryz.func51,Tryz.ntmps51
  go_wp2
  exact bodyPost_ret (v:= .bool true) (by simp[results,Tryz.results51,go_sem]) rfl ⟨rfl,(Below.refl _ _).alloc (Nat.le_refl _) _⟩
 have h2:s.data.toList.head?≠some 47:=h.resolve_left h1
 have e1:(s.toList==[47])=false:=by rw[Gf,beq_eq_false_iff_ne];exact h1
 have HP:=Lib.hid (N0 s.data.toList)
 have HF:Hid (Dl s.data.toList=false):=Lib.hid (by unfold Dl;simp[h1,h2])
 have HD:Hid (decide (s.data.toList.head?=some 47)=false):=Lib.hid (decide_eq_false h2)
 clear h h1 h2
 go_enter Tryz.func51,Tryz.ntmps51
 go_wp2_with fail
 refine(Tryz.strings_CutPrefix _ _ _).mono ?_
 rintro e w' ⟨rfl,rfl⟩
 rw[HP.out,HD.out]
 go_wp2
 exact bodyPost_ret (v:= .bool false) (by simp[results,Tryz.results51,go_sem]) rfl ⟨by rw[HF.out],(Below.refl _ _).alloc (Nat.le_refl _) _⟩
set_option maxRecDepth 100000 in
set_option maxHeartbeats 1000000 in
theorem eM(n:Nat)(hn:Hid (1≤n))(s:ByteArray)(w:World)(hs:s.size≤1000000)(h1:s.data.toList≠[47])(h2:s.data.toList.head?=some 47):
    CallsIn Fence.wide n Tryz.prog 51 #[.string s] w fun e w'=>e= .returned (.bool (Dl s.data.toList))∧Below w.heap.size w w':=by
 have e1:(s.toList==[47])=false:=by rw[Gf,beq_eq_false_iff_ne];exact h1
 have HP:=Lib.hid (N0 s.data.toList)
 have HT:=Lib.hid (eL h2)
 have HF:Hid (Dl s.data.toList=(C6 s.data.toList.tail).all E5):=Lib.hid (by unfold Dl;simp[h1,h2])
 have HD:Hid (decide (s.data.toList.head?=some 47)=true):=Lib.hid (decide_eq_true h2)
 clear h1 h2
 refine callsIn_of_wp_marks Tryz.func51 rfl trivial ?_ rfl
 simp only[Tryz.ntmps51,List.size_toArray,List.length_cons,List.length_nil,Nat.reduceAdd,Nat.reduceSub,Array.replicate_succ,Array.replicate_zero,List.push_toArray,List.append_toArray,List.nil_append,List.cons_append]
 gi_wp2_with fail
 refine Dx ((callsIn_wide.2 (Tryz.strings_CutPrefix _ _ _)).mono ?_)
 rintro e w' ⟨rfl,rfl⟩
 obtain⟨r,hr⟩:∃r:ByteArray,r=⟨(Lib.trimPrefix s.data.toList [47]).toArray⟩:=⟨_,rfl⟩
 have hrl:r.data.toList=s.data.toList.tail:=by rw[hr,←HT.out]
 have HR:=Lib.hid hrl
 have hrs:r.size≤1000000:=by rw[Lib.size_eq,hrl,List.length_tail,←Lib.size_eq];omega
 rw[HP.out,HD.out]
 rw[show(⟨(Lib.trimPrefix s.data.toList (ByteArray.mk #[47]).data.toList).toArray⟩:ByteArray)=r from hr.symm]
 clear hrl hr
 gi_wp2_with fail
 refine Dx ((callsIn_wide.2 (eC _ _)).mono ?_)
 rintro e w' ⟨rfl,rfl⟩
 gi_wp2_with fail
 have hR:Boxed (w.alloc (.cells #[.bool false] 4)) w.heap.size 4 (.bool false):=Boxed.new _ _ _
 obtain⟨W0,hW0⟩:∃W0,w.alloc (.cells #[.bool false] 4)=W0:=⟨_,rfl⟩
 have hz0:W0.heap.size=w.heap.size+1:=by rw[←hW0];simp
 have hB0:Below w.heap.size w W0:=by rw[←hW0];exact FW _ _
 rw[hW0]at hR ⊢
 obtain⟨WL,hWL⟩:∃WL,((W0.alloc (.cells #[.string r] 9)).alloc (.cells #[.string ⟨#[47]⟩] 9)).alloc (.cells #[.int .i64 0] 3)=WL:=⟨_,rfl⟩
 have hzL:WL.heap.size=w.heap.size+1+1+1+1:=by rw[←hWL];simp[hz0]
 have hBL:Below W0.heap.size W0 WL:=by rw[←hWL];exact MD _ _ _ _
 have k0:Boxed WL (w.heap.size+1) 9 (.string r):=by rw[←hWL,←hz0];exact ME _ _ _ _
 have k1:Boxed WL (w.heap.size+1+1) 9 (.string ⟨#[47]⟩):=by rw[←hWL,←hz0];exact MF _ _ _ _
 have k2:Boxed WL (w.heap.size+1+1+1) 3 (.int .i64 0):=by rw[←hWL,←hz0];exact MG _ _ _ _
 have kR:Boxed WL w.heap.size 4 (.bool false):=BR hR hBL hR.lt
 have hBw:Below w.heap.size w WL:=hB0.trans (hBL.mono (by omega))
 rw[hWL]
 have HB0:=Lib.hid hz0
 have HBL:=Lib.hid hzL
 clear hW0 hWL hz0 hR hB0 hBL hzL
 refine TW rfl hn.out (gf:=171) rfl trivial (enters_of Tryz.func171 (by kernel_rfl) rfl)
  (eK (n - 1) r hrs (w.heap.size+1) (w.heap.size+1+1) (w.heap.size+1+1+1) WL k0 k1 k2 (by omega) (by omega))
  (fun b hb=>by have:=HBL.out;omega) Keep3.trans (fun W l o o' hl _ _=>by have:=HBL.out;exact eD (N:=WL.heap.size) (by omega) (by omega) (by omega) W l o' hl) (Below.refl _ _) (fun _=>rfl)
  (fun pre W=>Boxed W w.heap.size 4 (.bool false)∧(∀p∈DQ pre,E5 p=true)∧Below w.heap.size w W)
  (fun c pre W=>c= .ret∧Boxed W w.heap.size 4 (.bool false)∧(∃p∈DQ pre,E5 p=false)∧Below w.heap.size w W)
  (fun s X Y h hm=>⟨hm.boxed h.1 (by omega),h.2.1,hm.under h.2.2 (Nat.le_refl _) (fun b hb=>by omega) (by have:=HBL.out;omega)⟩)
  (fun c s X Y h hm=>⟨h.1,hm.boxed h.2.1 (by omega),h.2.2.1,hm.under h.2.2.2 (Nat.le_refl _) (fun b hb=>by omega) (by have:=HBL.out;omega)⟩)
  ⟨kR,by simp[DQ],hBw⟩
  (fun x=>{tmps:=#[.string s,undef, .pointer (some ⟨w.heap.size,0,none⟩), .string r, .bool true, .string x, .string s, .bool false, .tuple #[.string r, .bool true], .string s, .tuple #[.string r, .bool true], .string r, .bool true, .bool true, .bool false, .string r,
    .func (.func 171) #[] #[.pointer (some ⟨w.heap.size+1+1,0,none⟩), .pointer (some ⟨w.heap.size+1,0,none⟩), .pointer (some ⟨w.heap.size+1+1+1,0,none⟩)], .string x,undef,undef,undef],defers:=[]}) ?assign ?body ?done ?stop
 case assign=>
  intro l x W K hK
  gi_wp2
  exact hK
 case body=>
  rintro l pre x W ⟨hc,hnm,hbw⟩ _ hsz
  have hcell:=hc.cell
  have hfz:=hc.frozen
  have HN:=Lib.hid hnm
  have HZ:=Lib.hid hsz
  clear hnm hsz
  gi_wp2_with fail
  refine Dx ((CallsIn.inRound l (callsIn_wide.2 (VH x W))).mono ?_)
  rintro e W' ⟨rfl,hb'⟩
  have hc':Boxed W' w.heap.size 4 (.bool false):=BR hc hb' hc.lt
  have hbw':Below w.heap.size w W':=hbw.trans (hb'.mono hbw.size)
  clear hcell hfz
  have hcell:=hc'.cell
  have hfz:=hc'.frozen
  have HX:Hid (DQ (pre++[x])=DQ pre++[x.data.toList]):=Lib.hid (by simp[DQ])
  cases hnx:E5 x.data.toList with
  |true=>
    gi_wp2
    have h1:=HBL.out
    have h2:=HZ.out
    exact⟨KM hb',eG hb' (by omega) (by omega) (by omega),hc',by rw[HX.out];intro p hp;rcases List.mem_append.1 hp with hp|hp;exact HN.out p hp;simp at hp;rw[hp];exact hnx,hbw'⟩
  |false=>
    gi_wp2
    have h1:=HBL.out
    exact⟨MS (KM hb') (by omega) _,rfl,hc'.set _,⟨x.data.toList,by rw[HX.out];simp,hnx⟩,hbw'.setCell (Nat.le_refl _) _⟩
 case done=>
  rintro D xs W hD hS ⟨hc,hnm,hbw⟩ hK
  have HS:=Lib.hid hS
  have HN:=Lib.hid hnm
  clear hS hnm
  have hcell:=hc.cell
  have hfz:=hc.frozen
  gi_wp2
  refine⟨by simp, .inl ⟨_,_,rfl,run_takeDeferred ((KeepsOthers.setCell _ _ _).same D _ hK rfl),?_⟩⟩
  have h1:=HBL.out
  have hcb:=(J9 (hc.set (.bool true)) (show w.heap.size≠D by omega) (.deferred none)).cell
  refine⟨.bool true,by simp[results,Tryz.f51,go_sem,hcb],by rw[HF.out,←HR.out,←HS.out,List.all_eq_true.2 HN.out],KN (hbw.setCell (p:=⟨w.heap.size,0,none⟩) (Nat.le_refl _) _) (by omega) _⟩
 case stop=>
  rintro D c pre W hD hSp ⟨rfl,hc,hnm,hbw⟩ hK
  have HS:=Lib.hid hSp
  have HN:=Lib.hid hnm
  clear hSp hnm
  have hcell:=hc.cell
  gi_wp2
  refine⟨by simp, .inl ⟨_,_,rfl,run_takeDeferred hK,?_⟩⟩
  have h1:=HBL.out
  have hcb:=(J9 hc (show w.heap.size≠D by omega) (.deferred none)).cell
  refine⟨.bool false,by simp[results,Tryz.f51,go_sem,hcb],?_,KN hbw (by omega) _⟩
  obtain⟨p,hp,hpf⟩:=HN.out
  rw[HF.out,←HR.out,List.all_eq_false.2 ⟨p,HS.out.subset hp,by simp[hpf]⟩]
theorem eN(s:ByteArray)(w:World)(hs:s.size≤1000000):
    Calls Tryz.prog 51 #[.string s] w fun e w'=>e= .returned (.bool (Dl s.data.toList))∧Below w.heap.size w w':=by
 by_cases h1:s.data.toList=[47]
 ·exact VP s w (.inl h1)
 by_cases h2:s.data.toList.head?=some 47
 ·exact callsIn_wide.1 (eM 6 (Lib.hid (by omega)) s w hs h1 h2)
 exact VP s w (.inr h2)
end Go.Proofs.YtbglbmnhgbgelaaGreatDoor
namespace Go.Proofs.YtbglbmnhgbgelaaGreatDoor
open Go.RowKit
def flat{α:Type}(sz:Nat)(cell:α→Nat→Value)(xs:List α):List Value:=xs.flatMap fun x=>(List.range sz).map (cell x)
section
variable {α:Type}{sz:Nat}{cell:α→Nat→Value}
theorem flat_get(xs:List α):∀(i j:Nat) (x:α),xs[i]?=some x→j<sz→(flat sz cell xs)[i * sz+j]?=some (cell x j):=by
 induction xs with
 |nil=>intro i j x h;simp at h
 |cons y ys ih=>
   intro i j x h hj
   have e:flat sz cell (y::ys)=(List.range sz).map (cell y)++flat sz cell ys:=by simp[flat]
   rw[e]
   cases i with
   |zero=>
     simp at h
     subst h
     rw[List.getElem?_append_left (by simpa using hj)]
     simp[hj]
   |succ i=>
     rw[List.getElem?_append_right (by simp[Nat.add_mul];omega)]
     simp only[List.getElem?_cons_succ]at h
     have:=ih i j x h hj
     rw[←this]
     congr 1
     simp[Nat.add_mul]
     omega
def OwnL(sz:Nat)(cell:α→Nat→Value)(E:TypeId)(w:World)(base:Nat)(v:Value)(xs:List α):Prop:=
 w.ownsRow base E sz v xs.length (flat sz cell xs)
theorem OwnL.list{E:TypeId}{w:World}{base:Nat}{v:Value}{xs:List α}(h:OwnL sz cell E w base v xs)(hf:xs.length≤few){D:Nat→Prop}(hD:∀b,base≤b→b<w.heap.size→D b):ListR sz cell w D v xs:=by
 rcases h.2 with⟨rfl,hn⟩|⟨g,cap,cur,rfl,hb,hg,hnc,_,hcs,htake⟩
 ·obtain rfl:xs=[]:=List.eq_nil_of_length_eq_zero hn
  exact ListR.nil_
 refine⟨_,_,rfl,hnc,hf,fun _=>⟨g,0,rfl,hD g hb (Array.getElem?_eq_some_iff.1 hg).1,fun i x j hi hj=>?_⟩⟩
 have hlt:i * sz+j<xs.length * sz:=by
  have h1:=(Ar.1 hi).1
  have h2:(i+1) * sz≤xs.length * sz:=Nat.mul_le_mul_right sz h1
  rw[Nat.add_mul]at h2
  omega
 rw[Nat.zero_add,cell_of_row w g _ cur E (0,0) hg,←flat_get xs i j x hi hj,←htake,List.getElem?_take,if_pos hlt]
 simp
end
theorem eO(l:Bs):Lib.hasSuffix l [47]=decide (l.getLast?=some 47):=by
 unfold Lib.hasSuffix
 rw[Bool.eq_iff_iff,List.isSuffixOf_iff_suffix,decide_eq_true_iff]
 rcases List.eq_nil_or_concat l with rfl|⟨a,x,rfl⟩
 ·simp
 simp only[List.concat_eq_append,List.getLast?_concat,Option.some.injEq]
 constructor
 ·rintro⟨t,ht⟩
  have:=congrArg List.getLast? ht
  simpa[eq_comm]using this
 rintro rfl
 exact⟨a,rfl⟩
theorem VQ(l:Bs):(Bq l).length≤l.length+1:=by
 have h1:(Bq l).length≤(C6 l).length:=List.length_filter_le _ _
 have h2:(C6 l).length≤l.length+1:=by
  clear h1
  induction l with
  |nil=>simp[C6]
  |cons c t ih=>
    rw[Q8]
    split
    ·simp;omega
    split
    ·simp
    rename_i h
    rw[h]at ih
    simp at ih ⊢
    omega
 omega
theorem eQ(xs:List AE):flat 1 MA xs=xs.map Value.string:=by
 induction xs with
 |nil=>rfl
 |cons x xs ih=>
   unfold flat at ih ⊢
   rw[List.flatMap_cons,ih]
   rfl
theorem Tryz.infoStr:(Tryz.prog.info? 9).map (fun i=>(i.zero,i.size,i.bytes))=some (some (.string ⟨#[]⟩),1,16):=by kernel_rfl
set_option maxHeartbeats 400000 in
theorem eR(s:ByteArray)(w:World)(i:Nat)(hi:Lib.indexByte s.data.toList 47=i)(hlt:i<s.size)(hmax:s.size≤1000000):
    Calls Tryz.prog 175 #[.string s, .string ⟨#[47]⟩] w fun e w'=>e= .returned (.tuple #[.string (s.extract 0 i), .string (s.extract (i+1) s.size), .bool true])∧∃n,w'=w.drewN n:=by
 have HI:=Lib.hid hi
 clear hi
 have h1:Calls Tryz.prog 195 #[.string s, .string ⟨#[47]⟩] w fun e w'=>e= .returned (.tuple #[.string (s.extract 0 i), .string (s.extract (i+1) s.size), .bool true])∧∃n,w'=w.drewN n:=by
  go_enter Tryz.func195,Tryz.ntmps195
  go_wp2_with fail
  refine(RB _ _).mono ?_
  rintro e w' ⟨rfl,rfl⟩
  rw[HI.out]
  go_wp2_with fail
  go_quiet (fail)
  go_wp2
  go_ret3
  exact⟨rfl,_,rfl⟩
 go_enter Tryz.func175,Tryz.ntmps175
 go_wp2_with fail
 refine h1.mono ?_
 rintro e w' ⟨rfl,n,rfl⟩
 go_wp2
 go_ret3
 exact⟨rfl,_,rfl⟩
set_option maxHeartbeats 400000 in
theorem eS(s:ByteArray)(w:World)(hi:Lib.indexByte s.data.toList 47= -1):
    Calls Tryz.prog 175 #[.string s, .string ⟨#[47]⟩] w fun e w'=>e= .returned (.tuple #[.string s, .string ⟨#[]⟩, .bool false])∧w=w':=by
 have HI:=Lib.hid hi
 clear hi
 have h1:Calls Tryz.prog 195 #[.string s, .string ⟨#[47]⟩] w fun e w'=>e= .returned (.tuple #[.string s, .string ⟨#[]⟩, .bool false])∧w=w':=by
  go_enter Tryz.func195,Tryz.ntmps195
  go_wp2_with fail
  refine(RB _ _).mono ?_
  rintro e w' ⟨rfl,rfl⟩
  rw[HI.out]
  go_wp2
  go_ret3
  exact⟨rfl,rfl⟩
 go_enter Tryz.func175,Tryz.ntmps175
 go_wp2_with fail
 refine h1.mono ?_
 rintro e w' ⟨rfl,rfl⟩
 go_wp2
 go_ret3
 exact⟨rfl,rfl⟩
end Go.Proofs.YtbglbmnhgbgelaaGreatDoor
namespace Go.Proofs.YtbglbmnhgbgelaaGreatDoor
open Go.RowKit Go.Shelf
attribute [local go_sem] Oper.semAt_some
def eT(s:AE)(w:World)(e:Ending)(w':World):Prop:=∃(p q:AE) (b:Bool) (n:Nat),e= .returned (.tuple #[.string p, .string q, .bool b])∧w'=w.drewN n∧Bq s.data.toList=one_ p.data.toList++Bq q.data.toList∧(0<s.size→q.size<s.size)
theorem eU(s:ByteArray)(w:World)(hmax:s.size≤1000000):Calls Tryz.prog 175 #[.string s, .string ⟨#[47]⟩] w (eT s w):=by
 by_cases h:(47:UInt8)∈s.data.toList
 ·obtain⟨i,hi,hlt,hl,hn⟩:=RC h
  have hlt':i<s.size:=by rw[Lib.size_eq];exact hlt
  refine(eR s w i hi hlt' hmax).mono ?_
  rintro e w' ⟨rfl,n,rfl⟩
  refine⟨_,_,_,n,rfl,rfl,?_,fun _=>RF s i hlt'⟩
  rw[Lib.extract_data,Lib.extract_to_end]
  simp only[List.drop_zero,Nat.sub_zero]
  conv=>lhs;rw[hl]
  exact YY hn _
 refine(eS s w (VB h)).mono ?_
 rintro e w' ⟨rfl,rfl⟩
 refine⟨_,_,_,0,rfl,rfl,?_,fun h=>h⟩
 rw[O7 h]
 simp[Jg]
theorem eV(s:ByteArray)(w:World):
    Calls Tryz.prog 131 #[.string s] w fun e w'=>
     e= .returned (.func (.func 174) #[] #[.pointer (some ⟨w.heap.size,0,none⟩)])∧w'=w.alloc (.cells #[.string s] 9):=by
 go_enter Tryz.func131,Tryz.ntmps131
 go_wp2
 go_ret
 exact⟨rfl,rfl⟩
theorem OX(s:ByteArray):s.toList.isEmpty=decide (s.size=0):=by
 rw[Gf,Lib.size_eq,Bool.eq_iff_iff,List.isEmpty_iff,decide_eq_true_iff,List.length_eq_zero_iff]
def eW(a:Nat)(X Y:World):Prop:=Y.heap[a]?=X.heap[a]?
set_option maxRecDepth 100000 in
set_option maxHeartbeats 1000000 in
theorem eX(n:Nat)(s:ByteArray)(hs:s.size≤1000000)(b0:Nat)(w:World)(h0:Boxed w b0 9 (.string s)):
    SeqW Fence.wide n Tryz.prog 174 #[.pointer (some ⟨b0,0,none⟩)] (fun x:AE=>#[.string x]) (fun b=>b=b0) (eW b0) (fun xs=>DQ xs<+:Bq s.data.toList)
     (fun xs=>DQ xs=Bq s.data.toList) (fun pre=>DQ pre<+:Bq s.data.toList) w:=fun l J Jx W hW hJ hJx hY hst=>by
 have k0:Boxed W b0 9 (.string s):=BR h0 hW h0.lt
 refine callsIn_of_wp Tryz.func174 rfl trivial ?_ rfl
 simp only[Tryz.ntmps174,List.size_toArray,List.length_cons,List.length_nil,Nat.reduceAdd,Nat.reduceSub,Array.replicate_succ,Array.replicate_zero,List.push_toArray,List.append_toArray,List.nil_append,List.cons_append]
 gi_wp2
 gi_loopw [3] (fun _ wr=>∃(pre:List AE) (r:ByteArray),Boxed wr b0 9 (.string r)∧J pre wr∧Hid (DQ pre++Bq r.data.toList=Bq s.data.toList)∧r.size≤s.size) (fun _ wr=>OW wr b0)
 case atStart=>exact⟨[],s,k0,hst,rfl,Nat.le_refl _⟩
 case round=>
  obtain⟨pre,r,m0,hj,hpre,hle⟩:=hrel
  clear k0 hst
  have c0:=m0.cell
  have f0:=m0.frozen
  by_cases hr:r.size=0
  ·have he:r.toList.isEmpty=true:=by rw[OX];simp[hr]
   have he':r.toList=[]:=List.isEmpty_iff.1 he
   have HP:Hid (Bq r.data.toList=[]):=by rw[←Gf,he'];exact Lib.hid Jg
   gi_wp2
   go_end0
   exact⟨⟨_,rfl⟩, .inl ⟨pre,by rw[←hpre.out,HP.out];simp,hj⟩⟩
  have he:r.toList.isEmpty=false:=by rw[OX];simp[hr]
  gi_wp2_with fail
  refine Dx ((callsIn_wide.2 (eU _ _ (by omega))).mono ?_)
  rintro e w' ⟨p,q,b,nd,rfl,rfl,hpq,hq⟩
  have hql:=hq (by omega)
  have HP:=Lib.hid hpq
  clear hpq hq
  have hj':J pre ((wr.drewN nd).setCell ⟨b0,0,none⟩ (.string q)):=hJ _ _ _ (hJ _ _ _ hj (Moves.below (Nz (Below.refl _ _) nd))) (Moves.set_ (own:=fun b=>b=b0) _ rfl _)
  have m0':Boxed ((wr.drewN nd).setCell ⟨b0,0,none⟩ (.string q)) b0 9 (.string q):=Boxed.set _ (show Boxed (wr.drewN nd) b0 9 (.string r) from m0)
  by_cases hp:p.size=0
  ·have hpe:p.toList.isEmpty=true:=by rw[OX];simp[hp]
   have hpe':p.toList=[]:=List.isEmpty_iff.1 hpe
   have HO:Hid (one_ p.data.toList=[]):=by rw[←Gf,hpe'];exact Lib.hid rfl
   gi_wp2
   refine⟨fun _ h=>(by cases h),?_⟩
   gi_wp2
   go_roundw
   case rel=>exact⟨pre,q,m0',hj',Lib.hid (by rw[←hpre.out,HP.out,HO.out];simp),by omega⟩
   case measure=>rw[LQ m0',LQ m0];exact hql
  have HO:Hid (one_ p.data.toList=[p.data.toList]):=Lib.hid (if_neg (fun e=>hp (by rw[Lib.size_eq,e];rfl)))
  have hpe:p.toList.isEmpty=false:=by rw[OX];simp[hp]
  obtain⟨fn,tmps,assign,body,hy,hR⟩:=hY pre p _ hj' (by rw[←hpre.out,HP.out,HO.out];simp[DQ])
  gi_wp2
  refine⟨(fun h=>by cases h),hR.mono ?_⟩
  rintro e W3 (⟨rfl,hJ3,hk3⟩|⟨rfl,hJx3⟩)
  ·have q0:Boxed W3 b0 9 (.string q):=hk3.trans m0'
   clear c0 f0 hy hR
   gi_wp2
   go_roundw
   case rel=>exact⟨pre++[p],q,q0,hJ3,Lib.hid (by rw[←hpre.out,HP.out,HO.out];simp[DQ]),by omega⟩
   case measure=>rw[LQ q0,LQ m0];exact hql
  gi_wp2
  refine bodyPost_ret (results_none rfl _ _ _) rfl ?_
  exact⟨⟨_,rfl⟩, .inr ⟨pre++[p],by rw[←hpre.out,HP.out,HO.out];simp[DQ],hJx3⟩⟩
end Go.Proofs.YtbglbmnhgbgelaaGreatDoor
namespace Go.Proofs.YtbglbmnhgbgelaaGreatDoor
open Go.RowKit Go.Shelf
attribute [local go_sem] Oper.semAt_some
theorem Moves.row{own:Nat→Prop}{B:Nat}{X Y:World}(h:Moves own B X Y){base e size k:Nat}{v:Value}{xs:List Value}(hr:X.ownsRow base e size v k xs)(ho:∀b,own b→b<base):Y.ownsRow base e size v k xs:=by
 refine⟨hr.1,?_⟩
 rcases hr.2 with h'|⟨g,cap,cur,hv,hg,hb,r⟩
 ·exact .inl h'
 refine .inr ⟨g,cap,cur,hv,hg,?_,r⟩
 exact(h.block g (Array.getElem?_eq_some_iff.1 hb).1 (fun e=>by have:=ho g e;omega) (.inr ⟨_,hb,rfl⟩)).trans hb
theorem eY{W w1:World}{base B:Nat}{t e:TypeId}{size:Nat}{v v':Value}{k m:Nat}{xs ys:List Value}{tmp:Obj}
    (hv:Boxed W B t v) (hrow:W.ownsRow base e size v k xs) (hbase:base≤W.heap.size) (hB:B<base)
    (hown':w1.ownsRow base e size v' m ys) (hgrow:(W.alloc tmp).grownBy w1 v.ownBlock):
    Boxed w1 B t v∧Boxed (w1.setCell ⟨B,0,none⟩ v') B t v'∧(w1.setCell ⟨B,0,none⟩ v').ownsRow base e size v' m ys∧KeepsOthers W (w1.setCell ⟨B,0,none⟩ v')∧
     Below B W (w1.setCell ⟨B,0,none⟩ v')∧∀j,j<base→j≠B→(w1.setCell ⟨B,0,none⟩ v').heap[j]?=W.heap[j]?:=by
 have hne:∀j,j<base→some j≠v.ownBlock:=by
  intro j hj e
  have:=World.ownsRow.lt hrow j e.symm
  omega
 have hblk:∀j,j<base→w1.heap[j]?=W.heap[j]?:=fun j hj=>(hgrow.block j (by simp;omega) (hne j hj)).trans (Below.heap_alloc W tmp j (by omega))
 have hv1:Boxed w1 B t v:=(hblk B hB).trans hv
 refine⟨hv1,hv1.set v',ownsRow_setCell_below hown' hB v',?_,?_,fun j hj hj'=>(Below.heap_setCell w1 ⟨B,0,none⟩ v' j hj').trans (hblk j hj)⟩
 ·refine((KeepsOthers.alloc W tmp).trans (KeepsOthers.of_grownBy hgrow fun j o ej hj=>?_)).trans (KeepsOthers.setCell _ _ _)
  rcases(hrow.alloc tmp).2 with⟨rfl,_⟩|⟨g,cap,cur,rfl,_,hgb,_⟩
  ·simp[Value.ownBlock]at ej
  obtain rfl:g=j:=by simpa[Value.ownBlock]using ej
  rw[hgb]at hj;cases hj;rfl
 have hs:=hgrow.size
 simp at hs
 exact⟨hgrow.os,hgrow.tape,hgrow.output,by simp[World.setCell];omega,fun j hj=>(Below.heap_setCell w1 ⟨B,0,none⟩ v' j (by show j≠B;omega)).trans (hblk j (by omega))⟩
def VR(l:Bs)(w:World)(e:Ending)(w':World):Prop:=∃(v:Value) (ss:List AE),e= .returned (.tuple #[v, .bool (decide (l.head?=some 47)), .bool (decide (l.getLast?=some 47))])∧T9 w' (Pp w w') v ss∧DQ ss=Bq l∧Below w.heap.size w w'∧∃A c,v= .slice A ss.length c∧c≤maxLen
set_option maxRecDepth 100000 in
set_option maxHeartbeats 2000000 in
theorem eZ(n:Nat)(hn:Hid (1≤n))(s:ByteArray)(w:World)(hs:s.size≤60000):
    CallsIn Fence.wide n Tryz.prog 91 #[.string s] w (VR s.data.toList w):=by
 obtain⟨i0,hi,hz0,hz1,hz2⟩:=info_parts Tryz.infoStr
 refine callsIn_of_wp_marks Tryz.func91 rfl trivial ?_ rfl
 simp only[Tryz.ntmps91,List.size_toArray,List.length_cons,List.length_nil,Nat.reduceAdd,Nat.reduceSub,Array.replicate_succ,Array.replicate_zero,List.push_toArray,List.append_toArray,List.nil_append,List.cons_append]
 gi_wp2_with fail
 refine Dx ((callsIn_wide.2 (eV _ _)).mono ?_)
 rintro e w' ⟨rfl,rfl⟩
 gi_wp2_with fail
 obtain⟨WL,hWL⟩:∃WL,(w.alloc (.cells #[.slice none 0 0] 63)).alloc (.cells #[.string s] 9)=WL:=⟨_,rfl⟩
 have hzL:WL.heap.size=w.heap.size+1+1:=by rw[←hWL];simp
 have hBw:Below w.heap.size w WL:=by rw[←hWL];exact Hd _ _ _
 have kR:Boxed WL w.heap.size 63 (.slice none 0 0):=by rw[←hWL];exact J5 _ _ _
 have k0:Boxed WL (w.heap.size+1) 9 (.string s):=by rw[←hWL];exact J6 _ _ _
 rw[hWL]
 have HZ:=Lib.hid hzL
 clear hWL hzL
 refine TW rfl hn.out (gf:=174) rfl trivial (enters_of Tryz.func174 (by kernel_rfl) rfl)
  (eX (n - 1) s (by omega) (w.heap.size+1) WL k0)
  (fun b hb=>by have:=HZ.out;omega) (fun h k=>Eq.trans k h) (fun W l o o' hl _ _=>by have:=HZ.out;exact World.putObj_heap_other (by omega)) (Below.refl _ _) (fun _=>rfl)
  (fun pre W=>∃v,Boxed W w.heap.size 63 v∧W.ownsRow WL.heap.size 9 1 v pre.length (pre.map Value.string)∧Below w.heap.size w W)
  (fun _ _ _=>False)
  (fun s X Y h hm=>by
    obtain⟨v,h1,h2,h3⟩:=h
    have:=HZ.out
    exact⟨v,hm.boxed h1 (by omega),hm.row h2 (fun b hb=>by omega),hm.under h3 (Nat.le_refl _) (fun b hb=>by omega) (by omega)⟩)
  (fun _ _ _ _ h _=>h)
  ⟨_,kR,World.ownsRow_nil _ _ _ _,hBw⟩
  (fun x=>{tmps:=#[.string s,undef, .pointer (some ⟨w.heap.size,0,none⟩), .bool false, .bool false, .string x, .string s, .func (.func 174) #[] #[.pointer (some ⟨w.heap.size+1,0,none⟩)], .string x,undef,undef,undef,undef,undef,undef,undef,undef,undef],defers:=[]}) ?assign ?body ?done ?stop
 case assign=>
  intro l x W K hK
  gi_wp2
  exact hK
 case body=>
  rintro l pre x W ⟨v,hc,hrow,hbw⟩ hpf hsz
  have hcell:=hc.cell
  have HZW:=Lib.hid hsz
  have hpl:pre.length≤1000000:=by
   have h1:=hpf.length_le
   have h2:=VQ s.data.toList
   rw[←Lib.size_eq]at h2
   simp[DQ]at h1
   omega
  have hmx:pre.length+1≤maxLen:=by unfold maxLen;omega
  clear hsz hpf
  gi_wp2_with (gi_at_builtin;refine wpListIn_append_own _ rfl _ _ 63 rfl WL.heap.size 9 i0 (.string ⟨#[]⟩) 1 16 Tryz.underlying63 hi hz0 hz1 hz2 rfl (by decide) _ _ _ rfl (hrow.alloc _) ⟨W.heap.size,0,none⟩ 1 1 [.string x] rfl rfl (cell_one_new _ _ _) (by simp[Value.oneCell']) (by omega) (by omega) (by have:=HZW.out;simp;omega) ?_;intro v' w1 hown' hgrow _;obtain⟨g',cap',rfl⟩:=ownsRow_succ hown';obtain⟨hv1,hv2,hr2,hk2,hb2,hj2⟩:=eY hc hrow (by have:=HZW.out;omega) (by have:=HZ.out;omega) hown' hgrow;have hc1:=hv1.cell;have hf1:=hv1.frozen)
  have h1:=HZ.out
  exact⟨hk2.from _,hj2 _ (by omega) (by omega),⟨_,hv2,by simpa using hr2,hbw.trans hb2⟩⟩
 case done=>
  rintro D xs W hD hS ⟨v,hc,hrow,hbw⟩ hK
  have HS:=Lib.hid hS
  clear hS
  obtain⟨A,cc,rfl⟩:∃A c,v= .slice A xs.length c:=by
   rcases hrow.2 with⟨rfl,hn⟩|⟨g,cap,cur,rfl,_⟩
   ·exact⟨none,0,by rw[hn]⟩
   exact⟨_,_,rfl⟩
  have hccm:cc≤maxLen:=by
   rcases hrow.2 with⟨h1,_⟩|⟨g,cap,cur,h1,h2,h3,h4,h5,_⟩
   ·injection h1 with _ _ h1
    rw[h1]
    exact Nat.zero_le _
   injection h1 with _ _ h1
   rw[h1]
   exact h5
  have hcell:=hc.cell
  have hfz:=hc.frozen
  gi_wp2_with fail
  refine wpIn_wide.2 ?_
  refine wp_region_still_tail 5 (by kernel_rfl) (by kernel_rfl) ?_
  simp only[List.take_succ_cons,List.take_zero,List.drop_succ_cons,List.drop_zero]
  still_step
  still_step
  still_call (Tryz.strings_HasPrefix _ _ _)
  still_step
  still_call (Tryz.strings_HasSuffix _ _ _ (by omega))
  refine wpStill_nil ?_
  change wpList _ _ _ _ _ W.drew
  have hc2:Boxed W.drew w.heap.size 63 (.slice A xs.length cc):=hc
  have hr2:W.drew.ownsRow WL.heap.size 9 1 (.slice A xs.length cc) xs.length (xs.map Value.string):=hrow
  have hb2:Below w.heap.size w W.drew:=hbw.drew
  have hK2:W.drew.heap[D]?=some (.deferred (some [])):=hK
  clear hc hrow hbw hK hcell hfz
  generalize W.drew=W2 at *
  have hcell:=hc2.cell
  have hfz:=hc2.frozen
  go_wp2
  gi_wp2
  refine⟨by simp, .inl ⟨_,_,rfl,run_takeDeferred ((KeepsOthers.setCell _ _ _).same D _ hK2 rfl),?_⟩⟩
  have h1:=HZ.out
  have hcb:=(J9 (hc2.set (.slice A xs.length cc)) (show w.heap.size≠D by omega) (.deferred none)).cell
  refine⟨.tuple #[.slice A xs.length cc, .bool (Lib.hasPrefix s.data.toList [47]), .bool (Lib.hasSuffix s.data.toList [47])],by simp[results,Tryz.f91,go_sem,hcb], .slice A xs.length cc,xs,by rw[N0,eO],?_,HS.out,KN (hb2.setCell (p:=⟨w.heap.size,0,none⟩) (Nat.le_refl _) _) (by omega) _,A,cc,rfl,hccm⟩
  have hrow':=ownsRow_putObj (ownsRow_setCell_below hr2 (a:=⟨w.heap.size,0,none⟩) (by show w.heap.size<_;omega) (.slice A xs.length cc)) (.deferred none) ((KeepsOthers.setCell _ _ _).same D _ hK2 rfl) rfl
  have hlen:xs.length≤few:=by
   have h2:=VQ s.data.toList
   rw[←HS.out,←Lib.size_eq]at h2
   simp[DQ]at h2
   unfold few
   omega
  refine OwnL.list (sz:=1) (cell:=MA) (E:=9) (base:=WL.heap.size) ?_ hlen (fun b hb hlt=>⟨by omega,hlt⟩)
  unfold OwnL
  rw[eQ]
  exact hrow'
 case stop=>
  rintro D c pre W hD hSp h hK
  exact h.elim
theorem f6(s:ByteArray)(w:World)(hs:s.size≤60000):Calls Tryz.prog 91 #[.string s] w (VR s.data.toList w):=
 callsIn_wide.1 (eZ 6 (Lib.hid (by omega)) s w hs)
end Go.Proofs.YtbglbmnhgbgelaaGreatDoor
