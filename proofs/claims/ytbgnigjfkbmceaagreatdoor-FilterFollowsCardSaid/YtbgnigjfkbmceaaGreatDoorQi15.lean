/-
  Part 15 of the proof of FilterFollowsP: what the statement's proof uses of the texts in wip/tpl.
-/
import Derived.Test.YtbgnigjfkbmceaaGreatDoorQi14
open Go.Proofs.Tryz (prog)
set_option maxRecDepth 10000
set_option maxHeartbeats 4000000
set_option linter.unusedVariables false
set_option linter.unusedSimpArgs false
namespace Go.Proofs.YtbgnigjfkbmceaaGreatDoor
open Go.RowKit
deriving instance DecidableEq for Tst
deriving instance DecidableEq for Rul
theorem Ze(a b:ByteArray):(a.toList==b.toList)=decide (a=b):=by
 by_cases h:a=b
 ·simp[h]
 have:a.toList≠b.toList:=fun e=>h (by
  rw[ByteArray.toList_eq,ByteArray.toList_eq]at e;obtain⟨⟨x⟩⟩:=a;obtain⟨⟨y⟩⟩:=b
  simpa using e)
 simp[h,this]
theorem pL(a b:Tst):(a.fld==b.fld&&(a.op==b.op&&(a.num==b.num&&(a.text.toList==b.text.toList&&a.other==b.other))))=decide (a=b):=by
 rw[Ze];obtain⟨a1,a2,a3,a4,a5⟩:=a;obtain⟨b1,b2,b3,b4,b5⟩:=b;by_cases h1:a1=b1<;>by_cases h2:a2=b2<;>by_cases h3:a3=b3<;>by_cases h4:a4=b4<;>by_cases h5:a5=b5<;>simp[h1,h2,h3,h4,h5]
theorem Ok{α:Type}[DecidableEq α]{a b:List α}{j:Nat}{x y:α}(hx:a[j]?=some x)(hy:b[j]?=some y):decide (a.drop j=b.drop j)=(decide (x=y)&&decide (a.drop (j+1)=b.drop (j+1))):=by
 obtain⟨h1,e1⟩:=Af.1 hx;obtain⟨h2,e2⟩:=Af.1 hy;rw[List.drop_eq_getElem_cons h1,List.drop_eq_getElem_cons h2,e1,e2];by_cases h:x=y<;>simp[h]
theorem Zf{α:Type}[DecidableEq α]{a b:List α}(h:a.length≠b.length):decide (a=b)=false:=by
 simp only[decide_eq_false_iff_not];intro e;exact h (by rw[e])
section
theorem Zg(a b:Tst)(w:World):(binOp .neq 115 (.agg #[.int .i64 a.fld, .int .i64 a.op, .int .i64 a.num, .string a.text, .int .i64 a.other]) (.agg #[.int .i64 b.fld, .int .i64 b.op, .int .i64 b.num, .string b.text, .int .i64 b.other])).run prog w= .ok (.bool (!decide (a=b))) w:=by
 have u3:=Tryz.underlying3;have a3:=Tryz.isAgg3;have z3:=Tryz.sizeOf3;have u9:=Tryz.underlying9;have a9:=Tryz.isAgg9;have z9:=Tryz.sizeOf9;have hS:prog.underlying 115=some (.struct (prog.fieldsOf 115)):=by kernel_rfl
 have hp:prog.stoodInHeld 115=false:=by kernel_rfl
 rw[run_neq_struct,show(10000:Nat)=9999+1 from rfl,run_equalIn_agg w 9999 115 _ _ hS hp];simp only[Program.fieldsOf,Tryz.underlying115]
 go_simp
 rw[←pL];by_cases h1:a.fld=b.fld<;>by_cases h2:a.op=b.op<;>by_cases h3:a.num=b.num<;>by_cases h4:a.text.toList=b.text.toList<;>by_cases h5:a.other=b.other<;>simp[h1,h2,h3,h4,h5]
theorem pM(a b:List Tst)(ha:a.length≤1000):AFn prog 218 [.sl 5 (a.map Cy) none, .sl 5 (b.map Cy) none] (fun x=>x= .v (.bool (decide (a=b)))):=by
 refine enter Tryz.func218 rfl rfl rfl rfl rfl 0 rfl ?_;refine w_ (Bw (h:=Ha (h:=n_ (h:=Bn (h:=?_)))));refine A4 rfl (fun hb1 hc1=>?_) (fun hb1 hc1=>?_)
 ·refine BA (h:=?_);refine A6 ?_
  first|(exfalso;first|contradiction|omega)|(exact vb (by rw[Zf (by simp at hc1;omega)]))
 have hl:a.length=b.length:=by simp at hc1;omega
 refine Dl (h:=Ha (h:=e_ (BH (?_))));refine BR (fun n s=>∃j:Nat,j≤a.length∧n=a.length - j∧decide (a.drop j=b.drop j)=decide (a=b)∧s=⟨look [(0, .sl 5 (a.map Cy) none),(1, .sl 5 (b.map Cy) none),(12, .v (.int .i64 ((a.map Cy).length:Int))),(13, .v (.int .i64 (j:Int)))],⟨[],[]⟩⟩) (a.length) ((wk 0 0)) (⟨0,by omega,rfl,rfl,rfl⟩) ?_;rintro n s ⟨j,hj,rfl,hd,rfl⟩;refine w_ (Cj (h:=q_ (?_)));refine A4 rfl (fun hb2 hc2=>?_) (fun hb2 hc2=>?_)
 ·obtain⟨hlt,x,hx,hrow, -⟩:=Bz Cy hc2;obtain⟨hlt2,y,hy,hrow2, -⟩:=Bz Cy (l:=b) (k:=j) (by simpa[hl]using hc2);refine AG (q_ (BH (w_ (m_ (h:=a_ (h:=e_ (q_ (Db 9 (h:=AF 0 (h:=AF 1 (h:=DK 2 (h:=AA 3 (h:=AF 4 (h:=AF 5 (h:=DK 6 (h:=AA 7 (h:=?_)))))))))))))))));refine GF (i:=8) rfl (JE rfl rfl (by repeat constructor) (by repeat constructor) (fun w=>Zg x y w) (by kernel_rfl) ⟨rfl,rfl⟩) ?_;refine z_ (h:=t_ (?_));refine A4 rfl (fun hb3 hc3=>?_) (fun hb3 hc3=>?_)
  ·refine HU (h:=?_);refine A6 ?_
   first|(exfalso;first|contradiction|omega)|(exact vb (by rw[←hd,Ok hx hy];simp[hc3]))
  refine BF (BB (t_ (Av (Gp (h:=?_)))));refine⟨_,_,?_,⟨j+1,by omega,rfl,(by rw[←hd,Ok hx hy,hc3];simp),rfl⟩,(wk 0 0)⟩;omega
 have e:=CD Cy hj hc2;subst e;refine GK (h:=?_);refine A6 ?_
 first|(exfalso;first|contradiction|omega)|(exact vb (by rw[←hd,List.drop_length,hl,List.drop_length];rfl))
theorem pN(a:List Tst)(ha:a.length≤1000):AFn prog 129 [.sl 5 (a.map Cy) none] (fun x=>x= .sl 5 (a.map Cy) none):=by
 refine enter Tryz.func129 rfl rfl rfl rfl rfl 0 rfl ?_;refine w_ (Bw (h:=?_));refine A3 rfl (d8 rfl rfl ?_);intro b hb;refine e_ (?_);refine A4 rfl (fun hb1 hc1=>?_) (fun hb1 hc1=>?_)
 ·refine BA (h:=?_);refine Qi (xs:=[.v (.slice none 0 0)]) (r:= .sl 5 [] none) none (by repeat (first|exact ResA.nil|(apply ResA.tmp;(focus exact rfl))|(apply ResA.cellN;(focus exact inferInstance);(focus exact rfl);(focus exact rfl);(focus exact rfl))|(apply ResA.cell1;(focus exact inferInstance);(focus exact rfl);(focus exact rfl);(focus exact rfl)))) rfl rfl rfl (LeA.nil _) ⟨rfl,rfl,?_⟩;rw[hb hc1]
 refine AG (w_ (?_));refine A3 rfl (dA (by repeat constructor) ?_);refine m_ (h:=Gg (h:=a_ (h:=e_ (B8 (?_)))));refine A6 ?_;rfl
theorem pO(a b:Rul):a=b↔a.list=b.list∧a.action=b.action∧a.calls=b.calls∧a.tests=b.tests∧a.watch=b.watch∧a.path=b.path∧a.perm=b.perm∧a.key=b.key:=by
 cases a;cases b;simp
theorem Lo(a b:Rul):decide (a=b)=decide (a.list=b.list∧a.action=b.action∧a.calls=b.calls∧a.tests=b.tests∧a.watch=b.watch∧a.path=b.path∧a.perm=b.perm∧a.key=b.key):=decide_eq_decide.2 (pO a b)
theorem pP(a b:Rul)(ha:a.tests.length≤1000):AFn prog 158 [.agg (AP a), .agg (AP b)] (fun x=>x= .v (.bool (decide (a=b)))):=by
 refine enter Tryz.func158 rfl rfl rfl rfl rfl 0 rfl ?_;refine FV (h:=Az (h:=Cx (h:=m_ (h:=?_))));refine AJ true rfl rfl (fun hb1 hc1=>?_) (fun hb1 hc1=>?_)
 ·refine Ab (h:=Cx (h:=C7 (h:=?_)));refine AJ true rfl rfl (fun hb2 hc2=>?_) (fun hb2 hc2=>?_)
  ·refine Ab (h:=Cx (h:=C7 (h:=?_)));refine AJ true rfl rfl (fun hb3 hc3=>?_) (fun hb3 hc3=>?_)
   ·refine JO (h:=?_);refine As (A8 (pM a.tests b.tests ha) ?_);rintro r rfl;refine C7 (h:=?_);refine AJ true rfl rfl (fun hb4 hc4=>?_) (fun hb4 hc4=>?_)
    ·refine Ab (h:=Cx (h:=C7 (h:=?_)));refine AJ true rfl rfl (fun hb5 hc5=>?_) (fun hb5 hc5=>?_)
     ·refine Ab (h:=Cx (h:=C7 (h:=?_)));refine AJ true rfl rfl (fun hb6 hc6=>?_) (fun hb6 hc6=>?_)
      ·refine Ab (h:=Cx (h:=C7 (h:=?_)));refine AJ true rfl rfl (fun hb7 hc7=>?_) (fun hb7 hc7=>?_)
       ·refine Ab (h:=Cx (h:=Gk (h:=?_)));refine A6 ?_
        first|(exfalso;first|contradiction|omega)|(exact vb (by rw[Lo];simp[*]))
       refine BD (h:=Hv (h:=?_));refine A6 ?_
       first|(exfalso;first|contradiction|omega)|(exact vb (by rw[Lo];simp[*]))
      refine GO (h:=BD (h:=Hv (h:=?_)));refine A6 ?_
      first|(exfalso;first|contradiction|omega)|(exact vb (by rw[Lo];simp[*]))
     refine GO (h:=GO (h:=BD (h:=Hv (h:=?_))));refine A6 ?_
     first|(exfalso;first|contradiction|omega)|(exact vb (by rw[Lo];simp[*]))
    refine GO (h:=GO (h:=GO (h:=Hq (h:=?_))));refine Hw (h:=BJ (h:=?_));refine A6 ?_
    first|(exfalso;first|contradiction|omega)|(exact vb (by rw[Lo];simp[*]))
   refine GO (h:=GO (h:=GO (h:=Hq (h:=?_))));refine BD (h:=Bh (h:=BD (h:=Hv (h:=?_))));refine A6 ?_
   first|(exfalso;first|contradiction|omega)|(exact vb (by rw[Lo];simp[*]))
  refine GO (h:=GO (h:=GO (h:=Hq (h:=?_))));refine BD (h:=Bh (h:=GO (h:=BD (h:=Hv (h:=?_)))));refine A6 ?_
  first|(exfalso;first|contradiction|omega)|(exact vb (by rw[Lo];simp[*]))
 refine GO (h:=GO (h:=GO (h:=Hq (h:=?_))));refine BD (h:=Bh (h:=GO (h:=GO (h:=BD (h:=DC (h:=?_))))));refine BJ (h:=?_);refine A6 ?_
 first|(exfalso;first|contradiction|omega)|(exact vb (by rw[Lo];simp[*]))
theorem Zh(a b:Rul)(ha:a.tests.length≤1000):AFn prog 104 [.agg (AP a), .agg (AP b)] (fun x=>x= .v (.bool (decide (a=b)))):=by
 refine enter Tryz.func104 rfl rfl rfl rfl rfl 0 rfl ?_;refine FV (h:=q_ (?_));refine L3 (⟨look [(2, .bp 0 0),(3, .bp 1 0),(61, .v (.bool (!decide (a.list=b.list∧a.action=b.action∧a.calls=b.calls∧a.watch=b.watch∧a.path=b.path∧a.perm=b.perm∧a.key=b.key∧(a.tests.length:Int)=(b.tests.length:Int)))))],⟨[AP a,AP b],[]⟩⟩) ?_ ?_
 ·skip
  refine Av (Ab (h:=JM (h:=?_)));refine AJ false rfl rfl (fun hb1 hc1=>?_) (fun hb1 hc1=>?_)
  ·refine Gs (h:=Gs (h:=Gs (h:=Hq (h:=?_))));refine BD (h:=C7 (h:=Gs (h:=Gs (h:=BT (h:=BD (h:=?_))))));refine Dg (h:=Je (h:=?_))
   first|(exfalso;first|contradiction|omega)|exact CA 2 0 rfl
  refine Ab (h:=D5 (h:=Bh (h:=?_)));refine AJ false rfl rfl (fun hb2 hc2=>?_) (fun hb2 hc2=>?_)
  ·refine Gs (h:=Gs (h:=Gs (h:=Hq (h:=?_))));refine BD (h:=C7 (h:=Gs (h:=BT (h:=JN (h:=?_)))))
   first|(exfalso;first|contradiction|omega)|exact CA 2 0 rfl
  refine Ab (h:=D5 (h:=Bh (h:=?_)));refine AJ false rfl rfl (fun hb3 hc3=>?_) (fun hb3 hc3=>?_)
  ·refine Gs (h:=Gs (h:=Gs (h:=Hq (h:=?_))));refine BD (h:=C7 (h:=BT (h:=JN (h:=?_))))
   first|(exfalso;first|contradiction|omega)|exact CA 2 0 rfl
  refine Ab (h:=D5 (h:=Bh (h:=?_)));refine AJ false rfl rfl (fun hb4 hc4=>?_) (fun hb4 hc4=>?_)
  ·refine Gs (h:=Gs (h:=Gs (h:=Hq (h:=?_))));refine Fi (h:=D6 (h:=?_))
   first|(exfalso;first|contradiction|omega)|exact CA 2 0 rfl
  refine Ab (h:=D5 (h:=Bh (h:=?_)));refine AJ false rfl rfl (fun hb5 hc5=>?_) (fun hb5 hc5=>?_)
  ·refine Gs (h:=Gs (h:=BT (h:=JN (h:=?_))))
   first|(exfalso;first|contradiction|omega)|exact CA 2 0 rfl
  refine Ab (h:=D5 (h:=Bh (h:=?_)));refine AJ false rfl rfl (fun hb6 hc6=>?_) (fun hb6 hc6=>?_)
  ·refine Gs (h:=BT (h:=JN (h:=?_)))
   first|(exfalso;first|contradiction|omega)|exact CA 2 0 rfl
  refine Ab (h:=D5 (h:=Bh (h:=?_)));refine AJ false rfl rfl (fun hb7 hc7=>?_) (fun hb7 hc7=>?_)
  ·refine BT (h:=JN (h:=?_))
   first|(exfalso;first|contradiction|omega)|exact CA 2 0 rfl
  refine Ef (h:=Ef (h:=GH (h:=FX (h:=?_))))
  first|(exfalso;first|contradiction|omega)|exact CA 2 0 rfl
 skip
 refine A4 rfl (fun hb8 hc8=>?_) (fun hb8 hc8=>?_)
 ·have hne:a≠b:=by rintro rfl;simp at hc8
  refine BA (h:=?_);refine A6 ?_
  first|(exfalso;first|contradiction|omega)|(exact vb (by simp[hne]))
 have hq:a.list=b.list∧a.action=b.action∧a.calls=b.calls∧a.watch=b.watch∧a.path=b.path∧a.perm=b.perm∧a.key=b.key∧(a.tests.length:Int)=(b.tests.length:Int):=by simpa using hc8
 obtain⟨q1,q2,q3,q4,q5,q6,q7,q8⟩:=hq;have hl:a.tests.length=b.tests.length:=by omega
 refine AG (CW (h:=?_));refine BR (fun n s=>∃j:Nat,j≤a.tests.length∧n=a.tests.length - j∧decide (a.tests.drop j=b.tests.drop j)=decide (a.tests=b.tests)∧s=⟨look [(2, .bp 0 0),(3, .bp 1 0),(5, .v (.int .i64 (j:Int)))],⟨[AP a,AP b],[]⟩⟩) (a.tests.length) ((wk 2 0)) (⟨0,by omega,rfl,rfl,rfl⟩) ?_;rintro n s ⟨j,hj,rfl,hd,rfl⟩;refine GN (h:=?_);refine A4 rfl (fun hb9 hc9=>?_) (fun hb9 hc9=>?_)
 ·obtain⟨hlt,x,hx,hrow, -⟩:=Bz Cy hc9;obtain⟨hlt2,y,hy,hrow2, -⟩:=Bz Cy (l:=b.tests) (k:=j) (by simpa[hl]using hc9);refine AG (q_ (BH (q_ (Db 11 (h:=AD 0 (h:=AA 1 (h:=AF 2 (h:=DK 3 (h:=AA 4 (h:=AD 5 (h:=AA 6 (h:=AF 7 (h:=DK 8 (h:=AA 9 (h:=?_)))))))))))))));refine GF (i:=10) rfl (JE rfl rfl (by repeat constructor) (by repeat constructor) (fun w=>Zg x y w) (by kernel_rfl) ⟨rfl,rfl⟩) ?_;refine z_ (h:=t_ (?_));refine A4 rfl (fun hb10 hc10=>?_) (fun hb10 hc10=>?_)
  ·have ht:decide (a.tests=b.tests)=false:=by rw[←hd,Ok hx hy];simp[hc10]
   refine HU (h:=?_);refine A6 ?_
   first|(exfalso;first|contradiction|omega)|(exact vb (by rw[Lo];simp at ht;simp[ht]))
  refine DL (h:=?_);refine⟨_,_,?_,⟨j+1,by omega,rfl,(by rw[←hd,Ok hx hy,hc10];simp),rfl⟩,(wk 2 0)⟩;omega
 have e:=CD Cy hj hc9;subst e;have ht:decide (a.tests=b.tests)=true:=by rw[←hd,List.drop_length,hl,List.drop_length];rfl
 refine GK (h:=?_);refine A6 ?_
 first|(exfalso;first|contradiction|omega)|(exact vb (by rw[Lo];simp at ht;simp[*]))
def JA(l:List Rul)(r:Rul):Int:=EC (fun _ x=>decide (x=r)) l 0
theorem pQ(i:Nat)(x r:Rul)(hx:x.tests.length≤1000):AFn prog 157 [.v (.int .i64 (i:Int)), .agg (AP x), .fp (AP r)] (fun y=>y= .v (.bool (decide (x=r)))):=by
 refine enter Tryz.func157 rfl rfl rfl rfl rfl 0 rfl ?_;refine C6 (h:=B7 (h:=CG (h:=?_)));refine A3 rfl (A8 (pP x r hx) ?_);rintro r rfl;refine BJ (h:=?_);refine A6 ?_;rfl
theorem pR(l:List Rul)(r:Rul)(hl:l.length≤1000)(ht:∀r∈l,r.tests.length≤1000):AFn prog 107 [.sl 8 (l.map AP) none, .agg (AP r)] (fun x=>x= .v (.int .i64 (JA l r))):=by
 refine enter Tryz.func107 rfl rfl rfl rfl rfl 0 rfl ?_;refine C6 (h:=C4 (h:=Su (h:=?_)));refine A3 rfl (Sh rfl (by repeat (first|exact ArgsL.nil|refine ArgsL.cons _ _ _ _ _ rfl rfl ?_)) (Wf l hl (fun _ x=>decide (x=r)) 157 [.fp (AP r)] rfl rfl fun i x hi=>pQ i x r (ht x (Ag hi))) ?_);rintro x rfl;refine⟨rfl,?_⟩;refine BJ (h:=?_);refine A6 ?_;rfl
theorem Uj(l:List Rul)(r:Rul)(hl:l.length≤1000)(ht:∀r∈l,r.tests.length≤1000):AFn prog 109 [.sl 8 (l.map AP) none, .agg (AP r)] (fun x=>x= .v (.int .i64 (JA l r))):=by
 refine enter Tryz.func109 rfl rfl rfl rfl rfl 0 rfl ?_;refine C6 (h:=B7 (h:=CW (h:=?_)));refine BR (fun n s=>∃j:Nat,j≤l.length∧n=l.length - j∧EC (fun _ x=>decide (x=r)) (l.drop j) j=JA l r∧s=⟨look [(0, .sl 8 (l.map AP) none),(3, .bp 0 0),(5, .v (.int .i64 (j:Int)))],⟨[AP r],[]⟩⟩) (l.length) ((wk 1 0)) (⟨0,by omega,rfl,rfl,rfl⟩) ?_;rintro n s ⟨j,hj,rfl,ha,rfl⟩;refine Du (h:=Ht (h:=?_));refine A4 rfl (fun hb1 hc1=>?_) (fun hb1 hc1=>?_)
 ·obtain⟨hlt,x,hy,hrow, -⟩:=Bz AP hc1;refine AG (q_ (BH (q_ (Db 6 (h:=AF 0 (h:=AF 1 (h:=DK 2 (h:=AA 3 (h:=AA 4 (h:=?_))))))))));refine c_ 5 rfl (A8 (Zh x r (ht x (Ag hy))) ?_);rintro r rfl;refine Hb (h:=t_ (?_));refine A4 rfl (fun hb2 hc2=>?_) (fun hb2 hc2=>?_)
  ·refine Aa (h:=BC (h:=EB (h:=?_)));refine A6 ?_
   first|(exfalso;first|contradiction|omega)|(exact vi (by rw[←ha,OE hy];simp[hc2]))
  refine DL (h:=?_);refine⟨_,_,?_,⟨j+1,by omega,rfl,(by rw[←ha,OE hy];simp[hc2]),rfl⟩,(wk 1 0)⟩;omega
 have e:=CD AP hj hc1;subst e;refine GK (h:=?_);refine A6 ?_
 first|(exfalso;first|contradiction|omega)|(exact vi (by rw[←ha,TD]))
def Jw(pre:List Rul):List Rul→Int
 |[]=>0
 |r::rs=>if BL r≠0 then BL r else if 0≤JA pre r then 141 else Jw (pre++[r]) rs
theorem Ol{l:List Rul}{j:Nat}{r:Rul}(h:l[j]?=some r):Jw (l.take j) (l.drop j)=if BL r≠0 then BL r else if 0≤JA (l.take j) r then 141 else Jw (l.take (j+1)) (l.drop (j+1)):=by
 obtain⟨hk,e⟩:=Af.1 h;rw[List.drop_eq_getElem_cons hk,Jw,e,List.take_succ_eq_append_getElem hk,e]
def DP(l:List Rul):Int:=if 24<(l.length:Int)then 140 else Jw [] l
theorem Zi(l:List Rul)(hl:l.length≤1000)(hi:∀r∈l,Em r):AFn prog 85 [.sl 8 (l.map AP) none] (fun x=>x= .v (.int .i64 (DP l))):=by
 have hfind:∀j r,AFn prog 107 [.sl 8 ((l.map AP).take j) none, .agg (AP r)] (fun x=>x= .v (.int .i64 (JA (l.take j) r))):=fun j r=>by
  rw[←List.map_take];exact pR (l.take j) r (by simp;omega) fun x hx=>(hi x (List.mem_of_mem_take hx)).2.2.2
 refine enter Tryz.func85 rfl rfl rfl rfl rfl 0 rfl ?_;refine w_ (Bw (h:=HQ (h:=e_ (?_))));refine A4 rfl (fun hb1 hc1=>?_) (fun hb1 hc1=>?_)
 ·rw[List.length_map]at hc1;refine BA (h:=?_);refine A6 ?_
  first|(exfalso;first|contradiction|omega)|(exact vi (by rw[DP,if_pos hc1]))
 rw[List.length_map]at hc1;refine Dl (h:=Ha (h:=e_ (BH (?_))));refine BR (fun n s=>∃j:Nat,j≤l.length∧n=l.length - j∧Jw (l.take j) (l.drop j)=Jw [] l∧s=⟨look [(0, .sl 8 (l.map AP) none),(9, .sl 8 (l.map AP) none),(10, .v (.int .i64 ((l.map AP).length:Int))),(11, .v (.int .i64 (j:Int)))],⟨[],[]⟩⟩) (l.length) ((wk 0 0)) (⟨0,by omega,rfl,rfl,rfl⟩) ?_;rintro n s ⟨j,hj,rfl,ha,rfl⟩;refine w_ (Cj (h:=q_ (?_)));refine A4 rfl (fun hb2 hc2=>?_) (fun hb2 hc2=>?_)
 ·obtain⟨hlt,r,hy,hrow, -⟩:=Bz AP hc2;refine C2 (h:=Aa (h:=i_ (h:=l_ (h:=Dt (h:=a_ (h:=s_ (h:=e_ (q_ (CF (h:=?_))))))))));refine A3 rfl (A8 (pK r (hi r (Ag hy))) ?_);rintro r rfl;refine C4 (h:=Bn (h:=?_));refine A4 rfl (fun hb3 hc3=>?_) (fun hb3 hc3=>?_)
  ·refine Aa (h:=E8 (h:=Cv (h:=EB (h:=?_))));refine A6 ?_
   first|(exfalso;first|contradiction|omega)|(exact vi (by rw[DP,if_neg hc1,←ha,Ol hy,if_pos hc3]))
  refine AG (q_ (Db 6 (h:=AF 0 (h:=AF 1 (h:=?_)))));refine GF (i:=2) rfl (SX (k:=j) rfl rfl rfl (by simp;omega) ⟨rfl,rfl⟩) ?_;refine AA 3 (h:=?_);refine c_ 4 rfl (A8 (hfind j r) ?_);rintro r rfl;refine o_ (h:=Vx 5 (h:=z_ (h:=t_ (?_))));refine A4 rfl (fun hb4 hc4=>?_) (fun hb4 hc4=>?_)
  ·refine HU (h:=?_);refine A6 ?_
   first|(exfalso;first|contradiction|omega)|(exact vi (by rw[DP,if_neg hc1,←ha,Ol hy,if_neg (by omega),if_pos hc4]))
  refine BF (BB (t_ (Av (Gp (h:=?_)))));refine⟨_,_,?_,⟨j+1,by omega,rfl,(by rw[←ha,Ol hy,if_neg (by omega),if_neg hc4]),rfl⟩,(wk 0 0)⟩;omega
 have e:=CD AP hj hc2;subst e;refine GK (h:=?_);refine A6 ?_
 first|(exfalso;first|contradiction|omega)|(exact vi (by rw[DP,if_neg hc1,←ha];simp[Jw]))
end
section
theorem Zj(l:List Rul)(hl:l.length≤1000)(hi:∀r∈l,Em r):AFn prog 88 [.sl 8 (l.map AP) none] (fun x=>x= .v (.int .i64 (DP l))):=by
 have hfind:∀j r,AFn prog 109 [.sl 8 ((l.map AP).take j) none, .agg (AP r)] (fun x=>x= .v (.int .i64 (JA (l.take j) r))):=fun j r=>by
  rw[←List.map_take];exact Uj (l.take j) r (by simp;omega) fun x hx=>(hi x (List.mem_of_mem_take hx)).2.2.2
 refine enter Tryz.func88 rfl rfl rfl rfl rfl 0 rfl ?_;refine w_ (Bw (h:=HQ (h:=e_ (?_))));refine A4 rfl (fun hb1 hc1=>?_) (fun hb1 hc1=>?_)
 ·rw[List.length_map]at hc1;refine BA (h:=?_);refine A6 ?_
  first|(exfalso;first|contradiction|omega)|(exact vi (by rw[DP,if_pos hc1]))
 rw[List.length_map]at hc1;refine AG (CW (h:=?_));refine BR (fun n s=>∃j:Nat,j≤l.length∧n=l.length - j∧Jw (l.take j) (l.drop j)=Jw [] l∧s=⟨look [(0, .sl 8 (l.map AP) none),(3, .v (.int .i64 (j:Int)))],⟨[],[]⟩⟩) (l.length) ((wk 0 0)) (⟨0,by omega,rfl,rfl,rfl⟩) ?_;rintro n s ⟨j,hj,rfl,ha,rfl⟩;refine Du (h:=Ht (h:=?_));refine A4 rfl (fun hb2 hc2=>?_) (fun hb2 hc2=>?_)
 ·obtain⟨hlt,r,hy,hrow, -⟩:=Bz AP hc2;refine C2 (h:=Bv (h:=JJ (h:=l_ (h:=?_))));refine A3 rfl (A8 (S3 r (hi r (Ag hy))) ?_);rintro r rfl;refine C4 (h:=Bn (h:=?_));refine A4 rfl (fun hb3 hc3=>?_) (fun hb3 hc3=>?_)
  ·refine Aa (h:=E8 (h:=Cv (h:=EB (h:=?_))));refine A6 ?_
   first|(exfalso;first|contradiction|omega)|(exact vi (by rw[DP,if_neg hc1,←ha,Ol hy,if_pos hc3]))
  refine AG (q_ (Db 9 (h:=AF 0 (h:=AF 1 (h:=?_)))));refine GF (i:=2) rfl (SX (k:=j) rfl rfl rfl (by simp;omega) ⟨rfl,rfl⟩) ?_;refine AF 3 (h:=AF 4 (h:=DK 5 (h:=AA 6 (h:=?_))));refine c_ 7 rfl (A8 (hfind j r) ?_);rintro r rfl;refine o_ (h:=Vx 8 (h:=z_ (h:=t_ (?_))));refine A4 rfl (fun hb4 hc4=>?_) (fun hb4 hc4=>?_)
  ·refine HU (h:=?_);refine A6 ?_
   first|(exfalso;first|contradiction|omega)|(exact vi (by rw[DP,if_neg hc1,←ha,Ol hy,if_neg (by omega),if_pos hc4]))
  refine DL (h:=?_);refine⟨_,_,?_,⟨j+1,by omega,rfl,(by rw[←ha,Ol hy,if_neg (by omega),if_neg hc4]),rfl⟩,(wk 0 0)⟩;omega
 have e:=CD AP hj hc2;subst e;refine GK (h:=?_);refine A6 ?_
 first|(exfalso;first|contradiction|omega)|(exact vi (by rw[DP,if_neg hc1,←ha];simp[Jw]))
theorem Q2(r:Rul)(hl:r.tests.length≤1000):AFn prog 102 [.agg (AP r)] (fun x=>x= .agg (AP r)):=by
 refine enter Tryz.func102 rfl rfl rfl rfl rfl 0 rfl ?_;refine w_ (b_ (h:=Dt (h:=e_ (w_ (f_ (h:=l_ (h:=Gg (h:=f_ (h:=s_ (h:=e_ (w_ (l_ (h:=s_ (h:=e_ (B8 (?_))))))))))))))));refine A6 ?_;rfl
theorem pS(l:List Rul)(h1:l.length≤1000)(hl:∀r∈l,r.tests.length≤1000):Ql prog 89 [.sl 8 (l.map AP) none] (fun g=> .sl 8 (l.map AP) g) (83,8,l.map AP):=by
 refine enter Tryz.func89 rfl rfl rfl rfl rfl 0 rfl ?_;refine Cw (h:=Cw (h:=CW (h:=?_)));refine MS 3 83 8 rfl (by repeat constructor) ?_;refine BR (fun n s=>∃k:Nat,k≤l.length∧n=l.length - k∧s=⟨look [(0, .sl 8 (l.map AP) none),(3, .sl 8 ((l.take k).map AP) (some 0)),(4, .v (.int .i64 (k:Int)))],⟨[],[(83,8,(l.take k).map AP)]⟩⟩) (l.length) ((wk 0 1)) (⟨0,BK _,rfl,rfl⟩) ?_;rintro n s ⟨k,hk,rfl,rfl⟩;refine Du (h:=Ht (h:=?_));refine A4 rfl (fun hb1 hc1=>?_) (fun hb1 hc1=>?_)
 ·obtain⟨hlt,r,hr,hrow,e⟩:=Bz AP hc1;refine C2 (h:=EX (h:=JJ (h:=l_ (h:=?_))));refine A3 rfl (A8 (Q2 r (hl r (Ag hr))) ?_);rintro r rfl;refine BY (h:=Gg (h:=a_ (h:=C1 (BB (t_ (Av (m_ (h:=ES (h:=a_ (h:=C1 (AM (?_))))))))))));refine⟨_,_,?_,⟨k+1,by omega,rfl,rfl⟩,?_⟩
  ·omega
  rw[e];exact(wk 0 1)
 have e:=CD AP hk hc1;subst e;rw[List.take_length];refine CK (h:=EA (h:=?_));refine AZ (some 0) (h5:=(A7 _)) (h6:=⟨rfl,rfl,rfl⟩)
theorem pT(l:List Rul)(h1:l.length≤1000)(hl:∀r∈l,r.tests.length≤1000):AFn prog 89 [.sl 8 (l.map AP) none] (fun x=>x= .sl 8 (l.map AP) none):=by
 refine enter Tryz.func89 rfl rfl rfl rfl rfl 0 rfl ?_;refine Cw (h:=Cw (h:=CW (h:=?_)));refine MS 3 83 8 rfl (by repeat constructor) ?_;refine BR (fun n s=>∃k:Nat,k≤l.length∧n=l.length - k∧s=⟨look [(0, .sl 8 (l.map AP) none),(3, .sl 8 ((l.take k).map AP) (some 0)),(4, .v (.int .i64 (k:Int)))],⟨[],[(83,8,(l.take k).map AP)]⟩⟩) (l.length) ((wk 0 1)) (⟨0,BK _,rfl,rfl⟩) ?_;rintro n s ⟨k,hk,rfl,rfl⟩;refine Du (h:=Ht (h:=?_));refine A4 rfl (fun hb1 hc1=>?_) (fun hb1 hc1=>?_)
 ·obtain⟨hlt,r,hr,hrow,e⟩:=Bz AP hc1;refine C2 (h:=EX (h:=JJ (h:=l_ (h:=?_))));refine A3 rfl (A8 (Q2 r (hl r (Ag hr))) ?_);rintro r rfl;refine BY (h:=Gg (h:=a_ (h:=C1 (BB (t_ (Av (m_ (h:=ES (h:=a_ (h:=C1 (AM (?_))))))))))));refine⟨_,_,?_,⟨k+1,by omega,rfl,rfl⟩,?_⟩
  ·omega
  rw[e];exact(wk 0 1)
 have e:=CD AP hk hc1;subst e;rw[List.take_length];refine CK (h:=EA (h:=?_));refine A6 ?_;rfl
theorem Zk(a b:List Rul)(ha:a.length≤1000)(ht:∀r∈a,r.tests.length≤1000):AFn prog 54 [.sl 8 (a.map AP) none, .sl 8 (b.map AP) none] (fun x=>x= .v (.bool (decide (a=b)))):=by
 refine enter Tryz.func54 rfl rfl rfl rfl rfl 0 rfl ?_;refine w_ (Bw (h:=Ha (h:=n_ (h:=Bn (h:=?_)))));refine A4 rfl (fun hb1 hc1=>?_) (fun hb1 hc1=>?_)
 ·refine BA (h:=?_);refine A6 ?_
  first|(exfalso;first|contradiction|omega)|(exact vb (by rw[Zf (by simp at hc1;omega)]))
 have hl:a.length=b.length:=by simp at hc1;omega
 refine AG (CW (h:=?_));refine BR (fun n s=>∃j:Nat,j≤a.length∧n=a.length - j∧decide (a.drop j=b.drop j)=decide (a=b)∧s=⟨look [(0, .sl 8 (a.map AP) none),(1, .sl 8 (b.map AP) none),(5, .v (.int .i64 (j:Int)))],⟨[],[]⟩⟩) (a.length) ((wk 0 0)) (⟨0,by omega,rfl,rfl,rfl⟩) ?_;rintro n s ⟨j,hj,rfl,hd,rfl⟩;refine Du (h:=Ht (h:=?_));refine A4 rfl (fun hb2 hc2=>?_) (fun hb2 hc2=>?_)
 ·obtain⟨hlt,x,hx,hrow, -⟩:=Bz AP hc2;obtain⟨hlt2,y,hy,hrow2, -⟩:=Bz AP (l:=b) (k:=j) (by simpa[hl]using hc2);refine AG (q_ (BH (q_ (Db 10 (h:=AF 0 (h:=AF 1 (h:=DK 2 (h:=AA 3 (h:=AF 4 (h:=AF 5 (h:=DK 6 (h:=AA 7 (h:=?_)))))))))))));refine c_ 8 rfl (A8 (Zh x y (ht x (Ag hx))) ?_);rintro r rfl;refine o_ (h:=Sv 9 (h:=z_ (h:=t_ (?_))));refine A4 rfl (fun hb3 hc3=>?_) (fun hb3 hc3=>?_)
  ·refine HU (h:=?_);refine A6 ?_
   first|(exfalso;first|contradiction|omega)|(exact vb (by rw[←hd,Ok hx hy];simp[hc3]))
  refine DL (h:=?_);refine⟨_,_,?_,⟨j+1,by omega,rfl,(by rw[←hd,Ok hx hy];simp[hc3]),rfl⟩,(wk 0 0)⟩;omega
 have e:=CD AP hj hc2;subst e;refine GK (h:=?_);refine A6 ?_
 first|(exfalso;first|contradiction|omega)|(exact vb (by rw[←hd,List.drop_length,hl,List.drop_length];rfl))
end
def D1(l:List Rul)(r:Rul)(front:Bool):List Rul×Int:=
 if DP l≠0 then([],DP l)else if BL r≠0 then([],BL r)else if 0≤JA l r then([],141)else if 24≤(l.length:Int)then([],140)else(if front=true then r::l else l++[r],0)
def vH(l:List Rul)(r:Rul):List Rul×Int:=
 if DP l≠0 then([],DP l)else if JA l r<0 then([],142)else(l.eraseIdx (JA l r).toNat,0)
def JS(x:List Rul×Int):AV:= .tup [.sl 8 (x.1.map AP) none, .v (.int .i64 x.2)]
theorem Zl{l:List Rul}(h:¬DP l≠0):(l.length:Int)≤24:=by
 unfold DP at h;split at h
 ·simp at h
 omega
theorem Mz{x:List Rul×Int}{e:Int}(h:x=([],e)):LeA (.tup [.v (.slice none 0 0), .v (.int .i64 e)]) (JS x):=by
 rw[h];exact(by repeat (first|exact A7 _|exact LeA.nil _|exact LeL.refl _|refine LeA.agg ?_|refine LeA.tup ?_|exact LeL.nil|refine LeL.cons ?_ ?_|exact LeA.any _))
theorem Zm{x:List Rul×Int}{l:List Rul}{e:Int}(h:x=(l,e)):LeA (.tup [.sl 8 (l.map AP) none, .v (.int .i64 e)]) (JS x):=by
 rw[h];exact A7 _
section
theorem pU(l:List Rul)(r:Rul)(hl:l.length≤1000)(hi:∀r∈l,Em r)(hr:Em r):AFn prog 61 [.sl 8 (l.map AP) none, .agg (AP r), .v (.bool true)] (fun x=>x=JS (D1 l r true)):=by
 refine enter Tryz.func61 rfl rfl rfl rfl rfl 0 rfl ?_;refine C6 (h:=a_ (h:=Bw (h:=?_)));refine A3 rfl (A8 (Zj l hl hi) ?_);rintro r rfl;refine C4 (h:=Bn (h:=?_));refine A4 rfl (fun hb1 hc1=>?_) (fun hb1 hc1=>?_)
 ·refine Aa (h:=EU (h:=?_));refine AZ (r:=JS (D1 l r true)) none (h5:=?_) (h6:=⟨rfl,rfl,rfl⟩);exact Mz (by simp[D1, *])
 refine FY (h:=CF (h:=?_));refine A3 rfl (A8 (S3 r hr) ?_);rintro r rfl;refine C4 (h:=Bn (h:=?_));refine A4 rfl (fun hb2 hc2=>?_) (fun hb2 hc2=>?_)
 ·refine Aa (h:=EU (h:=?_));refine AZ (r:=JS (D1 l r true)) none (h5:=?_) (h6:=⟨rfl,rfl,rfl⟩);exact Mz (by simp[D1, *])
 refine Dl (h:=l_ (h:=?_));refine A3 rfl (A8 (Uj l r hl fun x hx=>(hi x hx).2.2.2) ?_);rintro r rfl;refine EJ (h:=e_ (?_));refine A4 rfl (fun hb3 hc3=>?_) (fun hb3 hc3=>?_)
 ·refine w_ (EU (h:=?_));refine AZ (r:=JS (D1 l r true)) none (h5:=?_) (h6:=⟨rfl,rfl,rfl⟩);exact Mz (by simp[D1, *])
 refine Dl (h:=n_ (h:=BN (h:=?_)));refine A4 rfl (fun hb4 hc4=>?_) (fun hb4 hc4=>?_)
 ·rw[List.length_map]at hc4;refine w_ (EU (h:=?_));refine AZ (r:=JS (D1 l r true)) none (h5:=?_) (h6:=⟨rfl,rfl,rfl⟩);exact Mz (by simp[D1, *])
 rw[List.length_map]at hc4;have h5:=Zl (not_not_intro hc1);have h4:¬24≤(l.length:Int):=by omega
 refine Dl (h:=e_ (?_));refine A4 rfl (fun hb5 hc5=>?_) (fun hb5 hc5=>?_)
 ·refine CF (h:=?_);refine A3 rfl (A8 (Q2 r hr.2.2.2) ?_);rintro r rfl;refine A3 rfl (Vc (by repeat (first|exact DenseA.nil _|(apply DenseA.cons;(focus exact rfl);(focus exact rfl);(focus exact rfl);(focus exact rfl))|(apply DenseA.consE;(focus exact rfl);(focus exact rfl);(focus exact rfl)))) rfl rfl rfl rfl (by repeat constructor) ?_);refine m_ (h:=?_);refine A3 rfl (A8 (pT l hl fun x hx=>(hi x hx).2.2.2) ?_);rintro r rfl;refine Gg (h:=a_ (h:=a_ (h:=e_ (B8 (Bu (?_))))));refine AZ (r:=JS (D1 l r true)) none (h5:=?_) (h6:=⟨rfl,rfl,rfl⟩);exact Zm (l:=r::l) (by simp[D1, *])
 exact E7
theorem pV(l:List Rul)(r:Rul)(hl:l.length≤1000)(hi:∀r∈l,Em r)(hr:Em r):AFn prog 61 [.sl 8 (l.map AP) none, .agg (AP r), .v (.bool false)] (fun x=>x=JS (D1 l r false)):=by
 refine enter Tryz.func61 rfl rfl rfl rfl rfl 0 rfl ?_;refine C6 (h:=a_ (h:=Bw (h:=?_)));refine A3 rfl (A8 (Zj l hl hi) ?_);rintro r rfl;refine C4 (h:=Bn (h:=?_));refine A4 rfl (fun hb1 hc1=>?_) (fun hb1 hc1=>?_)
 ·refine Aa (h:=EU (h:=?_));refine AZ (r:=JS (D1 l r false)) none (h5:=?_) (h6:=⟨rfl,rfl,rfl⟩);exact Mz (by simp[D1, *])
 refine FY (h:=CF (h:=?_));refine A3 rfl (A8 (S3 r hr) ?_);rintro r rfl;refine C4 (h:=Bn (h:=?_));refine A4 rfl (fun hb2 hc2=>?_) (fun hb2 hc2=>?_)
 ·refine Aa (h:=EU (h:=?_));refine AZ (r:=JS (D1 l r false)) none (h5:=?_) (h6:=⟨rfl,rfl,rfl⟩);exact Mz (by simp[D1, *])
 refine Dl (h:=l_ (h:=?_));refine A3 rfl (A8 (Uj l r hl fun x hx=>(hi x hx).2.2.2) ?_);rintro r rfl;refine EJ (h:=e_ (?_));refine A4 rfl (fun hb3 hc3=>?_) (fun hb3 hc3=>?_)
 ·refine w_ (EU (h:=?_));refine AZ (r:=JS (D1 l r false)) none (h5:=?_) (h6:=⟨rfl,rfl,rfl⟩);exact Mz (by simp[D1, *])
 refine Dl (h:=n_ (h:=BN (h:=?_)));refine A4 rfl (fun hb4 hc4=>?_) (fun hb4 hc4=>?_)
 ·rw[List.length_map]at hc4;refine w_ (EU (h:=?_));refine AZ (r:=JS (D1 l r false)) none (h5:=?_) (h6:=⟨rfl,rfl,rfl⟩);exact Mz (by simp[D1, *])
 rw[List.length_map]at hc4;have h5:=Zl (not_not_intro hc1);have h4:¬24≤(l.length:Int):=by omega
 refine Dl (h:=e_ (?_));refine A4 rfl (fun hb5 hc5=>?_) (fun hb5 hc5=>?_)
 ·exact E7
 refine AG (q_ (BS ([(0,AP r)]) 8 (h:=AF 0 (h:=?_))))
 first|refine AA 2 (h:=?_)|refine CC 2 rfl (fun _ hS=>KY rfl (by rw[hS];rfl) rfl ⟨rfl,rfl⟩) ?_
 refine c_ 1 rfl (Sd rfl (by repeat (first|exact Args.nil|refine Args.cons _ _ _ _ _ rfl (LQ rfl) ?_|refine Args.cons _ _ _ _ _ rfl (MV _) ?_|refine Args.cons _ _ _ _ _ rfl (Lu _) ?_|refine Args.cons _ _ _ _ _ rfl (MZ rfl (by repeat (first|exact A7 _|exact LeA.nil _|exact LeL.refl _|refine LeA.agg ?_|refine LeA.tup ?_|exact LeL.nil|refine LeL.cons ?_ ?_|exact LeA.any _))) ?_)) (pS l hl fun x hx=>(hi x hx).2.2.2) (fun _=>rfl) (by repeat constructor) ?_);refine o_ (h:=?_);refine c_ 3 rfl (A8 (Q2 r hr.2.2.2) ?_);rintro r rfl;refine o_ (h:=Ho 4 (h:=?_))
 first|refine c_ 5 rfl (Dr rfl rfl rfl (by simp<;>omega) (by repeat constructor) ?_)|refine c_ 5 rfl (Ge rfl rfl (by simp<;>omega) (by repeat constructor) ?_)
 refine o_ (h:=BE 6 (h:=BE 7 (h:=z_ (h:=t_ (B8 (?_))))));refine AZ (r:=JS (D1 l r false)) none (h5:=?_) (h6:=⟨rfl,rfl,rfl⟩);have:=Zm (x:=D1 l r false) (l:=l++[r]) (e:=0) (by simp[D1, *]);rw[List.map_append]at this;exact this
theorem Zn(l:List Rul)(r:Rul)(front:Bool)(hl:l.length≤1000)(hi:∀r∈l,Em r)(hr:Em r):AFn prog 61 [.sl 8 (l.map AP) none, .agg (AP r), .v (.bool front)] (fun x=>x=JS (D1 l r front)):=by
 cases front
 ·exact pV l r hl hi hr
 exact pU l r hl hi hr
end
def pW(u:Int):Ctx:=⟨2,0,0,u,0,0,0,0,0,(0,0),⟨#[]⟩,⟨#[]⟩,false,0,0,0,0,0,0,[],0⟩
def Om:Cxs:=⟨[],[],[]⟩
def Uk:List AV:=[.v (.int .i64 0), .v (.int .i64 0), .v (.int .i64 0), .v (.string ⟨#[]⟩), .v (.int .i64 0), .v (.int .i64 0)]
section
theorem pX(s:Spc)(w:Wch)(hs:SpcB s):AFn prog 103 [.agg (AT s), .agg (Bd w)] (fun r=>r=ZX (GB s w)):=by
 refine enter Tryz.func103 rfl rfl rfl rfl rfl 0 rfl ?_;refine Jb (h:=Az (h:=Dk (h:=?_)));refine B9 (fun S=>S=⟨look [(2, .bp 0 0),(3, .bp 1 0),(4, .bp 2 0),(6, .bp 3 0)],⟨[AT s,Bd w,Uk,AB (F6 w)],[]⟩⟩) ?_ ?_
 ·skip
  refine Az (h:=BN (h:=?_));refine A4 rfl (fun hb1 hc1=>?_) (fun hb1 hc1=>?_)
  ·have k0:w.kind=2:=hc1;refine Av (Ab (h:=s_ (h:=D6 (h:=?_))));refine⟨_,rfl,?_⟩
   first|(rw[F6,if_pos k0];exact(wk 4 0))|(rw[F6,if_neg k0];exact(wk 4 0))
  have k0:¬w.kind=2:=hc1;refine BF (AM (?_));refine⟨_,rfl,?_⟩
  first|(rw[F6,if_pos k0];exact(wk 4 0))|(rw[F6,if_neg k0];exact(wk 4 0))
 rintro S rfl;refine q_ (?_);refine B9 (fun S=>S=⟨look [(2, .bp 0 0),(3, .bp 1 0),(4, .bp 2 0),(27, .v (.bool ((!decide (w.kind=1)&& !decide (w.kind=2))|| !GA s (F6 w))))],⟨[AT s,Bd w,Uk],[]⟩⟩) ?_ ?_
 ·skip
  refine Av (JM (h:=?_));refine AJ true rfl rfl (fun hb2 hc2=>?_) (fun hb2 hc2=>?_)
  ·refine D5 (h:=C7 (h:=?_));refine AJ false rfl rfl (fun hb3 hc3=>?_) (fun hb3 hc3=>?_)
   ·refine Fi (h:=D6 (h:=?_));exact⟨_,rfl,CA 3 0 rfl⟩
   refine GL (h:=?_);refine As (A8 (ZZ s (F6 w) hs) ?_);rintro r rfl;refine Cr (h:=FX (h:=?_));exact⟨_,rfl,CA 3 0 rfl⟩
  refine Fh (h:=GL (h:=?_));refine As (A8 (ZZ s (F6 w) hs) ?_);rintro r rfl;refine Cr (h:=FX (h:=?_));exact⟨_,rfl,CA 3 0 rfl⟩
 rintro S rfl;refine A4 rfl (fun hb4 hc4=>?_) (fun hb4 hc4=>?_)
 ·have k1:(w.kind≠1∧w.kind≠2)∨GA s (F6 w)=false:=by simpa using hc4
  refine Br (h:=?_);refine A6 ?_;rw[GB,if_pos k1];rfl
 have k1:¬((w.kind≠1∧w.kind≠2)∨GA s (F6 w)=false):=by simpa using hc4
 refine D8 (h:=BN (h:=?_));refine A4 rfl (fun hb5 hc5=>?_) (fun hb5 hc5=>?_)
 ·have k2:w.kind=1:=hc5;refine Av (JO (h:=Ab (h:=?_)));refine A3 rfl (A8 (Kg s.files w.dir w.name hs.files) ?_);rintro r rfl;refine GJ (h:=D7 (h:=HL (h:=?_)));refine A6 ?_;rw[GB,if_neg k1,if_pos k2];rfl
 have k2:¬w.kind=1:=hc5;refine AG (HL (h:=?_));refine A6 ?_;rw[GB,if_neg k1,if_neg k2];rfl
theorem pY(s:Spc)(w:Wch)(hs:SpcB s):AFn prog 101 [.agg (AT s), .agg (Bd w)] (fun r=>r=ZX (GB s w)):=by
 refine enter Tryz.func101 rfl rfl rfl rfl rfl 0 rfl ?_;refine Jb (h:=q_ (?_));refine B9 (fun S=>S=⟨look [(2, .bp 0 0),(3, .bp 1 0),(4, .bp 2 0),(20, .v (.bool ((!decide (w.kind=1)&& !decide (w.kind=2))|| !GA s (F6 w))))],⟨[AT s,Bd w,Uk],[]⟩⟩) ?_ ?_
 ·skip
  refine Db 15 (h:=AD 0 (h:=AA 1 (h:=NG 2 (h:=AF 3 (h:=?_)))));refine K1 (j:=3) rfl (fun hb1=>?_) (fun hb1=>?_)
  ·have hc1:=bp hb1;refine AD 4 (h:=AA 5 (h:=NG 6 (h:=JZ 7 (h:=AF 8 (h:=?_)))));refine K1 (j:=8) rfl (fun hb2=>?_) (fun hb2=>?_)
   ·have hc2:=bp hb2;refine B5 9 (h:=B5 10 (h:=B5 11 (h:=B5 12 (h:=B5 13 (h:=JZ 14 (h:=z_ (h:=?_)))))));refine AM ?_;exact⟨_,rfl,CA 3 0 rfl⟩
   have hc2:=bp hb2;refine AA 9 (h:=AA 10 (h:=?_));refine c_ 11 rfl (A8 (Zc w (by omega)) ?_);rintro r rfl;refine o_ (h:=?_);refine c_ 12 rfl (A8 (S1 s (F6 w) hs) ?_);rintro r rfl;refine o_ (h:=Sv 13 (h:=Gi 14 (h:=z_ (h:=?_))));refine AM ?_;exact⟨_,rfl,CA 3 0 rfl⟩
  have hc1:=bp hb1;refine B5 4 (h:=B5 5 (h:=B5 6 (h:=Gi 7 (h:=AF 8 (h:=AA 9 (h:=AA 10 (h:=?_)))))));refine c_ 11 rfl (A8 (Zc w (by omega)) ?_);rintro r rfl;refine o_ (h:=?_);refine c_ 12 rfl (A8 (S1 s (F6 w) hs) ?_);rintro r rfl;refine o_ (h:=Sv 13 (h:=Gi 14 (h:=z_ (h:=?_))));refine AM ?_;exact⟨_,rfl,CA 3 0 rfl⟩
 rintro S rfl;refine A4 rfl (fun hb3 hc3=>?_) (fun hb3 hc3=>?_)
 ·have k1:(w.kind≠1∧w.kind≠2)∨GA s (F6 w)=false:=by simpa using hc3
  refine Br (h:=?_);refine A6 ?_;rw[GB,if_pos k1];rfl
 have k1:¬((w.kind≠1∧w.kind≠2)∨GA s (F6 w)=false):=by simpa using hc3
 refine D8 (h:=BN (h:=?_));refine A4 rfl (fun hb4 hc4=>?_) (fun hb4 hc4=>?_)
 ·have k2:w.kind=1:=hc4;refine Av (l_ (h:=JO (h:=?_)));refine A3 rfl (A8 (Zb s w.dir w.name hs) ?_);rintro r rfl;refine D7 (h:=HL (h:=?_));refine A6 ?_;rw[GB,if_neg k1,if_pos k2];rfl
 have k2:¬w.kind=1:=hc4;refine AG (HL (h:=?_));refine A6 ?_;rw[GB,if_neg k1,if_neg k2];rfl
end
structure Pol where
 rules:List Rul
 wats:List Wch
deriving DecidableEq
def Bi(p:Pol):List AV:=[.sl 8 (p.rules.map AP) none, .sl 6 (p.wats.map Bd) none]
def JT:Pol:=⟨[],[]⟩
def Kw(x:Pol×Int):AV:= .tup [.agg (Bi x.1), .v (.int .i64 x.2)]
def D2(s:Spc)(r:Rul):Wch×Int:=if r.watch=0 then(FP,0)else if(Jv s r.watch r.path).2≠0 then(FP,180)else((Jv s r.watch r.path).1,0)
def Lp(s:Spc)(l:List Rul):Pol×Int:=if DP l≠0 then(JT,DP l)else if l.all (fun r=>decide ((D2 s r).2=0))=true then(⟨l,l.map fun r=>(D2 s r).1⟩,0)else(JT,180)
def JB(s:Spc)(p:Pol)(r:Rul)(front:Bool):Pol×Int:=
 if(D1 p.rules r front).2≠0 then(JT,(D1 p.rules r front).2)else if(D2 s r).2≠0 then(JT,(D2 s r).2)
 else(⟨(D1 p.rules r front).1,if front=true then(D2 s r).1::p.wats else p.wats++[(D2 s r).1]⟩,0)
def GD(s:Spc)(r:Rul)(w:Wch):Bool:=if r.watch=0 then decide (w=FP)else decide (w.kind=r.watch)&&F1 s w
def KP(s:Spc)(p:Pol):Bool:=decide (DP p.rules=0)&&decide (p.wats.length=p.rules.length)&&(p.rules.zip p.wats).all fun x=>GD s x.1 x.2
theorem pZ(s:Spc)(r:Rul):(D2 s r).2=0∨(D2 s r).2=180:=by
 unfold D2;split
 ·exact .inl rfl
 split
 ·exact .inr rfl
 exact .inl rfl
section
theorem Zo(s:Spc)(r:Rul)(hv:SpcV s)(hm:s.mounts.length≤1000)(hr:Em r):AFn prog 90 [.agg (AP r), .agg (AT s)] (fun x=>x=Rz (D2 s r)):=by
 obtain⟨F,hF⟩:∃F,Jv s r.watch r.path=F:=⟨_,rfl⟩;have hplc:AFn prog 130 [.agg (AT s), .v (.int .i64 r.watch), .v (.string r.path)] (fun x=>x= .tup [.agg (Bd F.1), .v (.int .i64 F.2)]):=by rw[←hF];exact pA s r.watch r.path hv hm hr.2.2.1
 have hw:D2 s r=if r.watch=0 then(FP,0)else if F.2≠0 then(FP,180)else(F.1,0):=by rw[D2,hF]
 refine enter Tryz.func90 rfl rfl rfl rfl rfl 0 rfl ?_;refine Jb (h:=Ci (h:=BN (h:=?_)));refine A4 rfl (fun hb1 hc1=>?_) (fun hb1 hc1=>?_)
 ·have k1:r.watch=0:=hc1;refine Br (h:=?_);refine A6 ?_;rw[hw,if_pos k1];rfl
 have k1:¬r.watch=0:=hc1;refine AG (CF (h:=JO (h:=?_)));refine A3 rfl (A8 (hplc) ?_);rintro r rfl;refine JK (h:=Bn (h:=?_));refine A4 rfl (fun hb2 hc2=>?_) (fun hb2 hc2=>?_)
 ·have k2:F.2≠0:=by simpa using hc2
  refine Br (h:=?_);refine A6 ?_;rw[hw,if_neg k1,if_pos k2];rfl
 have k2:¬F.2≠0:=by simpa using hc2
 refine AG (HL (h:=?_));refine A6 ?_;rw[hw,if_neg k1,if_neg k2];rfl
theorem Zp(p:Pol)(i:Nat)(x:Wch)(hl:p.wats.length≤1000)(hx:p.wats[i]?=some x):AFn prog 70 [.agg (Bi p), .v (.int .i64 (i:Int))] (fun r=>r= .agg (Bd x)):=by
 have hlt:i<p.wats.length:=(Af.1 hx).1;have hrow:(p.wats.map Bd)[i]?=some (Bd x):=by rw[List.getElem?_map,hx];rfl
 refine enter Tryz.func70 rfl rfl rfl rfl rfl 0 rfl ?_;refine C6 (h:=DT (h:=Bv (h:=Di (h:=?_))));refine AJ false rfl rfl (fun hb1 hc1=>?_) (fun hb1 hc1=>?_)
 ·exact E7
 refine m_ (h:=Ef (h:=EJ (h:=CV (h:=?_))));refine A4 rfl (fun hb2 hc2=>?_) (fun hb2 hc2=>?_)
 ·have hc2:=bp hb2;simp at hc2;omega
 refine AG (Fu (h:=l_ (h:=s_ (h:=e_ (B8 (?_))))));refine A6 ?_;rfl
theorem Ul(r:Rul)(hr:r.tests.length≤1000):AFn prog 87 [.agg (AP r)] (fun x=>x= .agg (AP r)):=by
 refine enter Tryz.func87 rfl rfl rfl rfl rfl 0 rfl ?_;refine C6 (h:=DT (h:=Az (h:=?_)));refine A3 rfl (A8 (pN r.tests hr) ?_);rintro r rfl;refine D7 (h:=Fs (h:=e_ (B8 (?_))));refine A6 ?_;rfl
end
def H3(s:Spc)(l:List Rul):List Wch:=l.map fun r=>(D2 s r).1
theorem qA{s:Spc}{l:List Rul}{j:Nat}{r:Rul}(h:l[j]?=some r):(H3 s (l.take (j+1))).map Bd=(H3 s (l.take j)).map Bd++[Bd (D2 s r).1]:=by
 simp[H3,List.take_add_one,h]
theorem qB{s:Spc}{l:List Rul}{j:Nat}{r:Rul}(h:l[j]?=some r)(ha:∀r∈l.take j,(D2 s r).2=0)(hr:(D2 s r).2=0):∀r∈l.take (j+1),(D2 s r).2=0:=by
 intro x hx;rw[List.take_add_one,h]at hx;rcases List.mem_append.1 hx with hx|hx
 ·exact ha x hx
 have e:x=r:=by simpa using hx
 rw[e];exact hr
theorem qC{s:Spc}{l:List Rul}(h:DP l≠0):Lp s l=(JT,DP l):=by rw[Lp,if_pos h]
theorem qD{s:Spc}{l:List Rul}{r:Rul}(h:¬DP l≠0)(hr:r∈l)(hp:(D2 s r).2≠0):Lp s l=(JT,(D2 s r).2):=by
 rw[Lp,if_neg h,if_neg]
 ·rcases pZ s r with e|e
  ·exact absurd e hp
  rw[e]
 intro k;exact hp (of_decide_eq_true (List.all_eq_true.1 k r hr))
theorem Zq{s:Spc}{l:List Rul}(h:¬DP l≠0)(ha:∀r∈l,(D2 s r).2=0):Lp s l=(⟨l,H3 s l⟩,0):=by
 rw[Lp,if_neg h,if_pos]
 ·rfl
 exact List.all_eq_true.2 fun r hr=>decide_eq_true (ha r hr)
theorem On{x:Pol×Int}{e:Int}(h:x=(JT,e)):LeA (.tup [.agg [.v (.slice none 0 0), .v (.slice none 0 0)], .v (.int .i64 e)]) (Kw x):=by
 rw[h];exact(by repeat (first|exact A7 _|exact LeA.nil _|exact LeL.refl _|refine LeA.agg ?_|refine LeA.tup ?_|exact LeL.nil|refine LeL.cons ?_ ?_|exact LeA.any _))
section
theorem qE(s:Spc)(r:Rul)(h0:r.watch=0):AFn prog 86 [.agg (AT s), .agg (AP r)] (fun x=>x=Rz (D2 s r)):=by
 have hw:D2 s r=(FP,0):=if_pos h0;refine enter Tryz.func86 rfl rfl rfl rfl rfl 0 rfl ?_;refine Jb (h:=Ci (h:=BN (h:=?_)));refine A4 rfl (fun hb1 hc1=>?_) (fun hb1 hc1=>?_)
 ·refine Br (h:=?_);refine A6 ?_;rw[hw];rfl
 exact E7
theorem qG(s:Spc)(l:List Rul)(hl:l.length≤1000)(hi:∀r∈l,Em r)(hplc0:∀r,r∈l→AFn prog 86 [.agg (AT s), .agg (AP r)] (fun x=>x=Rz (D2 s r))):AFn prog 41 [.sl 8 (l.map AP) none, .agg (AT s)] (fun x=>x=Kw (Lp s l)):=by
 have hplc:∀r,r∈l→AFn prog 86 [.agg (AT s), .agg (AP r)] (fun x=>x= .tup [.agg (Bd (D2 s r).1), .v (.int .i64 (D2 s r).2)]):=hplc0;refine enter Tryz.func41 rfl rfl rfl rfl rfl 0 rfl ?_;refine C6 (h:=Dt (h:=Bw (h:=?_)));refine A3 rfl (A8 (Zi l hl hi) ?_);rintro r rfl;refine C4 (h:=Bn (h:=?_));refine A4 rfl (fun hb1 hc1=>?_) (fun hb1 hc1=>?_)
 ·have k1:DP l≠0:=by simpa using hc1
  refine w_ (Gr (h:=E8 (h:=?_)));refine AZ (r:=Kw (Lp s l)) none (h5:=?_) (h6:=⟨rfl,rfl,rfl⟩);exact On (qC k1)
 have k1:¬DP l≠0:=by simpa using hc1
 refine AG (w_ (DT (h:=Bv (h:=Ha (h:=e_ (BH (?_)))))));refine K5 2 0 83 8 rfl rfl (by repeat constructor) (by repeat constructor) (by repeat constructor) ?_;refine K5 2 1 93 6 rfl rfl (by repeat constructor) (by repeat constructor) (by repeat constructor) ?_;refine BR (fun n S=>∃j:Nat,j≤l.length∧n=l.length - j∧(∀r∈l.take j,(D2 s r).2=0)∧S=⟨look [(3, .bp 0 0),(4, .bp 1 0),(7, .bp 2 0),(18, .sl 8 (l.map AP) none),(19, .v (.int .i64 ((l.map AP).length:Int))),(20, .v (.int .i64 (j:Int)))],⟨[AT s,[.v (.slice none 0 0), .v (.slice none 0 0)],[.sl 8 ((l.take j).map AP) (some 0), .sl 6 ((H3 s (l.take j)).map Bd) (some 1)]],[(83,8,(l.take j).map AP),(93,6,(H3 s (l.take j)).map Bd)]⟩⟩) (l.length) ((wk 3 2)) (⟨0,BK _,rfl,by simp,rfl⟩) ?_;rintro n S ⟨j,hj,rfl,ha,rfl⟩;refine w_ (Cj (h:=q_ (?_)));refine A4 rfl (fun hb2 hc2=>?_) (fun hb2 hc2=>?_)
 ·obtain⟨hlt,r,hy,hrow,e⟩:=Bz AP hc2;refine C2 (h:=w_ (i_ (h:=Hu (h:=CG (h:=?_)))));refine A3 rfl (A8 (hplc r (Ag hy)) ?_);rintro r rfl;refine JK (h:=Bn (h:=?_));refine A4 rfl (fun hb3 hc3=>?_) (fun hb3 hc3=>?_)
  ·have k2:(D2 s r).2≠0:=by simpa using hc3
   refine w_ (Gr (h:=E8 (h:=Cv (h:=EB (h:=?_)))));refine AZ (r:=Kw (Lp s l)) none (h5:=?_) (h6:=⟨rfl,rfl,rfl⟩);exact On (qD k1 (Ag hy) k2)
  have k2:(D2 s r).2=0:=by simpa using hc3
  refine AG (q_ (BS ([(0,AT s),(1,[.v (.slice none 0 0), .v (.slice none 0 0)]),(2,[.sl 8 ((l.take j).map AP) (some 0), .sl 6 ((H3 s (l.take j)).map Bd) (some 1)]),(3,AP r)]) 6 (h:=AD 0 (h:=AA 1 (h:=AA 2 (h:=?_))))));refine c_ 3 rfl (A8 (Ul r (hi r (Ag hy)).2.2.2) ?_);rintro r rfl;refine o_ (h:=Ho 4 (h:=?_))
  first|refine c_ 5 rfl (Dr rfl rfl rfl (by simp[H3]<;>omega) (by repeat constructor) ?_)|refine c_ 5 rfl (Ge rfl rfl (by simp[H3]<;>omega) (by repeat constructor) ?_)
  refine o_ (h:=?_);refine c_ 6 rfl (JW rfl ?_);refine o_ (h:=?_);refine Ak 7 (h:=z_ (h:=t_ (Av (f_ (h:=l_ (h:=l_ (h:=BY (h:=?_))))))))
  first|refine A3 rfl (Dr rfl rfl rfl (by simp[H3]<;>omega) (by repeat constructor) ?_)|refine A3 rfl (Ge rfl rfl (by simp[H3]<;>omega) (by repeat constructor) ?_)
  refine Cb (h:=C1 (BB (t_ (Av (Gp (h:=?_))))));refine⟨_,_,?_,⟨j+1,by omega,rfl,qB hy ha k2,rfl⟩,?_⟩
  ·omega
  rw[e,qA hy];exact(wk 3 2)
 have e:=CD AP hj hc2;subst e;rw[List.take_length]at ha ⊢;refine CK (h:=HL (h:=?_));refine A6 ?_;rw[Zq k1 ha];rfl
end
section
theorem qH(l:List Int)(a:Nat)(ha:a≤100000000000):Hl prog 84 l a [] 4 (fun r=>∃s:ByteArray,r= .v (.string s)∧s.size≤60):=by
 refine enter Tryz.func84 rfl rfl rfl rfl rfl 1 rfl ?_;refine Cw (h:=w_ (Bw (h:=BY (h:=?_))));refine A3 rfl (Aw 0 (hc:=Gw l _ _ (fun z=>decide (1≤z∧z≤3)) (by omega) (by rfl) (by rfl) (by rfl)) (hR:=?_));rintro r a1 ha1 ⟨k1,rfl,p1⟩;refine Ax ?_;obtain⟨hz1,hz2⟩:=of_decide_eq_true p1;obtain⟨m,rfl⟩:=Int.eq_ofNat_of_zero_le (show 0≤k1 by omega);refine B7 (h:=BH (?_));refine BR (fun n s=>∃(j a1:Nat) (t:ByteArray),j≤m∧n=j∧a1≤a+1+(m - j)∧t.size≤2 * (m - j)∧s=⟨look [(0, .bp 0 0),(3, .v (.string t)),(4, .v (.int .i64 (j:Int)))],⟨[EG l a1],[]⟩⟩) (m) ((wk 1 0)) (⟨m,a1,⟨#[]⟩,by omega,rfl,by omega,by rw[Nat.sub_self];exact B6 0,rfl⟩) ?_;rintro n s ⟨j,b1,t,hj,hn,hb1,ht,rfl⟩;subst n;refine Bv (h:=E6 (h:=e_ (?_)));refine A4 rfl (fun hb1 hc1=>?_) (fun hb1 hc1=>?_)
 ·refine C2 (h:=EX (h:=BY (h:=?_)));refine A3 rfl (Aw 0 (hc:=Ms l _ _ (fun s=>decide (s.size≤1)) (by omega) (by rfl) (by rfl) (by rfl)) (hR:=?_));rintro r a2 ha2 ⟨k2,rfl,p2⟩;refine Ax ?_;have hw:=of_decide_eq_true p2;refine A3 rfl (H7 rfl rfl (by show 1+k2.size≤_;omega) ?_);refine A3 rfl (H7 rfl rfl (by have e:=ByteArray.size_append (a:=⟨#[47]⟩) (b:=k2);have:(⟨#[47]⟩:ByteArray).size=1:=rfl;omega) ?_);refine HG (h:=BB (t_ (C5 (h:=L4 (h:=Ck (h:=?_))))));obtain⟨j,rfl⟩:∃i,j=i+1:=⟨j - 1,by omega⟩;refine⟨_,_,?_,⟨j,_,_,by omega,rfl,?_,?_,rfl⟩,Ai 1 0 rfl rfl rfl rfl (by repeat (first|exact Sub.nil|refine Aj rfl rfl ?_|(apply Sub.of;(focus exact rfl);(focus exact LeA.of_eq (vi (by omega)));(focus exact rfl))))⟩
  ·omega
  ·omega
  have e:=ByteArray.size_append (a:=⟨#[47]⟩) (b:=k2);have e2:=ByteArray.size_append (a:=t) (b:=⟨#[47]⟩++k2);have:(⟨#[47]⟩:ByteArray).size=1:=rfl;omega
 refine CK (h:=EA (h:=?_));refine AZ none (h5:=(A7 _)) (h6:=⟨_,rfl,rfl,b1,by omega,rfl,t,rfl,by omega⟩)
end
def Bare(s:Spc):Prop:=FlsV s.files∧0<s.files.length∧s.mounts=[]
theorem Bare.v{s:Spc}(h:Bare s):SpcV s:=⟨h.1,h.2.1,fun i m hm=>by rw[h.2.2]at hm;cases hm⟩
theorem Bare.m{s:Spc}(h:Bare s):s.mounts.length≤1000:=by rw[h.2.2];exact BK _
theorem KQ:TabB EE:=⟨BK _,(fun p hp=>by cases hp),by decide,by decide⟩
theorem qJ{t:Tab}(ht:TabB t)(pid:Int)(a:A9)(fl:Int):TabB (GZ t pid a fl).1:=by
 unfold GZ;split
 ·exact KQ
 split
 ·exact KQ
 rename_i h8;refine⟨by simpa[JQ]using ht.few,fun p hp=>?_,ht.next,ht.nextS⟩;simp only[JQ,List.mem_map]at hp;obtain⟨x,hx,rfl⟩:=hp;split
 ·simp[Ob];omega
 exact ht.opens x hx
theorem Zr{w:Wrk}{R:Tab×Int}(h:TabB w.s.tab)(hR:TabB R.1):TabB (CN w R).1.s.tab:=by
 unfold CN;split
 ·exact hR
 exact h
theorem Um(w:Wrk)(R:Tab×Int):(CN w R).1.s.spc=w.s.spc:=by
 unfold CN;split<;>rfl
def qK(s:Syst):Prop:=Bare s.spc∧TabB s.tab
theorem Zs:qK (KL 1).1:=by
 have h:=Xv (k:=1) (by decide) (by decide)
 have e:(KL 1).1=⟨⟨(GQ 1).1,[]⟩,OZ (0,1)⟩:=by
  unfold KL;rw[if_neg (by decide)]
 rw[e];exact⟨⟨h.1,h.2,rfl⟩,⟨by decide,by decide,by decide,by decide⟩⟩
def Oo(x:Wch):List Value:=[.int .i64 x.kind, .int .i64 x.dir.1, .int .i64 x.dir.2, .string x.name, .int .i64 x.file.1, .int .i64 x.file.2]
theorem Zt(x:Wch):AllV (Bd x) (Oo x):=by repeat constructor
set_option maxRecDepth 10000 in
set_option maxHeartbeats 2000000 in
theorem qL(op:BinOp)(x y:Wch)(w:World)(h:op= .eql∨op= .neq):(binOp op 93 (.agg (Oo x).toArray) (.agg (Oo y).toArray)).run prog w= .ok (.bool (decide (x=y)==decide (op= .eql))) w:=by
 have u3:=Tryz.underlying3;have a3:=Tryz.isAgg3;have z3:=Tryz.sizeOf3;have u9:=Tryz.underlying9;have a9:=Tryz.isAgg9;have z9:=Tryz.sizeOf9;have u5:=Tryz.underlying26;have a5:=Tryz.isAgg26;have z5:=Tryz.sizeOf26;have hS:prog.underlying 93=some (.struct (prog.fieldsOf 93)):=by kernel_rfl
 have hp:prog.stoodInHeld 93=false:=by kernel_rfl
 have hSF:prog.underlying 26=some (.struct (prog.fieldsOf 26)):=by kernel_rfl
 have hpF:prog.stoodInHeld 26=false:=by kernel_rfl
 have eF:∀(d:Nat) (a b a' b':Int) (w:World),(Op.equalIn (d+2) 26 (.agg #[.int .i64 a, .int .i64 b]) (.agg #[.int .i64 a', .int .i64 b'])).run prog w= .ok (a==a'&&b==b') w:=by
  intro d a b a' b' w;rw[run_equalIn_agg w (d+1) 26 _ _ hSF hpF];simp only[Program.fieldsOf,Tryz.underlying26]
  go_simp
  by_cases h1:a=a'<;>by_cases h2:b=b'<;>simp[h1,h2]
 obtain⟨k,⟨d1,d2⟩,n,⟨f1,f2⟩⟩:=x;obtain⟨k',⟨d1',d2'⟩,n',⟨f1',f2'⟩⟩:=y
 have hn:¬n=n'→¬n.toList=n'.toList:=fun h e=>by
  have:=Ze n n';rw[e]at this;simp[h]at this
 have e:∀w,(Op.equalIn 10000 93 (.agg (Oo ⟨k,(d1,d2),n,(f1,f2)⟩).toArray) (.agg (Oo ⟨k',(d1',d2'),n',(f1',f2')⟩).toArray)).run prog w= .ok (decide (Wch.mk k (d1,d2) n (f1,f2)=Wch.mk k' (d1',d2') n' (f1',f2'))) w:=by
  intro w;rw[show(10000:Nat)=9999+1 from rfl,run_equalIn_agg w 9999 93 _ _ hS hp];simp only[Program.fieldsOf,Tryz.underlying93,Oo]
  go_simp
  by_cases h1:k=k'<;>by_cases h2:d1=d1'<;>by_cases h3:d2=d2'<;>by_cases h4:n=n'<;>by_cases h5:f1=f1'<;>by_cases h6:f2=f2'<;>first|(simp[h1,h2,h3,h4,h5,h6];done)|(simp[h1,h2,h3,h4,h5,h6];exact hn h4)
 rcases h with rfl|rfl
 ·rw[run_eql_struct,e];simp
 rw[run_neq_struct,e];simp
theorem Zu{ev:Operand→Option AV}{h:AH}{R:AV→AH→Prop}{d:Option Tmp}{ty:TypeId}{pos:String}{af:Array Edge}{gd:Option (Nat×Bool)}{yT:TypeId}{x y:Operand}(a b:Wch)(hx:ev x=some (.agg (Bd a)))(hy:ev y=some (.agg (Bd b)))(hR:R (.v (.bool (!decide (a=b)))) h):AStep prog ⟨d, .binOp .neq 93 x y yT,ty,pos,af,gd⟩ ev h R:=
 JE hx hy (Zt a) (Zt b) (fun w=>(qL .neq a b w (.inr rfl)).trans (by simp)) (by kernel_rfl) hR
theorem Zv{s:Spc}{p:Pol}{j:Nat}{r:Rul}{w:Wch}(hr:p.rules[j]?=some r)(hw:p.wats[j]?=some w)(ha:∀i r w,i<j→p.rules[i]?=some r→p.wats[i]?=some w→GD s r w=true)(h:GD s r w=true):∀i r w,i<j+1→p.rules[i]?=some r→p.wats[i]?=some w→GD s r w=true:=by
 intro i r' w' hi h1 h2;rcases Nat.lt_or_ge i j with c|c
 ·exact ha i r' w' c h1 h2
 obtain rfl:i=j:=by omega
 rw[hr]at h1;rw[hw]at h2;cases h1;cases h2;exact h
theorem qM{s:Spc}{p:Pol}(h:DP p.rules≠0):KP s p=false:=by simp[KP,h]
theorem qN{s:Spc}{p:Pol}(h:p.wats.length≠p.rules.length):KP s p=false:=by simp[KP,h]
theorem Un{s:Spc}{p:Pol}{j:Nat}{r:Rul}{w:Wch}(hr:p.rules[j]?=some r)(hw:p.wats[j]?=some w)(h:GD s r w=false):KP s p=false:=by
 have:((p.rules.zip p.wats).all fun x=>GD s x.1 x.2)=false:=by
  rw[List.all_eq_false];refine⟨(r,w),Ag (i:=j) ?_,by simp[h]⟩;rw[List.getElem?_zip_eq_some];exact⟨hr,hw⟩
 simp[KP,this]
theorem Uo{s:Spc}{p:Pol}(h1:DP p.rules=0)(h2:p.wats.length=p.rules.length)(ha:∀i r w,i<p.rules.length→p.rules[i]?=some r→p.wats[i]?=some w→GD s r w=true):KP s p=true:=by
 have:((p.rules.zip p.wats).all fun x=>GD s x.1 x.2)=true:=by
  rw[List.all_eq_true];rintro⟨r,w⟩ hx;obtain⟨i,hi⟩:=List.getElem?_of_mem hx;rw[List.getElem?_zip_eq_some]at hi;exact ha i r w (Af.1 hi.1).1 hi.1 hi.2
 simp[KP,h1,h2,this]
section
variable (s:Spc)(p:Pol)(hs:SpcB s)(h1:p.rules.length≤1000)(h2:p.wats.length≤1000)(hi:∀r∈p.rules,Em r)(hn:∀w∈p.wats,w.name.size≤100000)
include hs h1 hi
theorem qO:AFn prog 44 [.agg (Bi p), .agg (AT s)] (fun r=>r= .v (.bool (KP s p))):=by
 refine enter Tryz.func44 rfl rfl rfl rfl rfl 0 rfl ?_;refine FV (h:=Ci (h:=?_));refine A3 rfl (A8 (Zi p.rules h1 hi) ?_);rintro r rfl;refine FW (h:=?_);refine AJ false rfl rfl (fun hb1 hc1=>?_) (fun hb1 hc1=>?_)
 ·have k1:DP p.rules≠0:=by simpa using hc1
  refine BT (h:=EK (h:=BA (h:=?_)));refine A6 ?_
  first|(exfalso;first|contradiction|omega)|(exact vb (by exact(qM k1).symm))
 have k1:DP p.rules=0:=by simpa using hc1
 refine Ef (h:=Ef (h:=GH (h:=CV (h:=?_))));refine A4 rfl (fun hb2 hc2=>?_) (fun hb2 hc2=>?_)
 ·have k2:p.wats.length≠p.rules.length:=by simp at hc2;omega
  refine BA (h:=?_);refine A6 ?_
  first|(exfalso;first|contradiction|omega)|(exact vb (by exact(qN k2).symm))
 have hlen:p.wats.length=p.rules.length:=by simp at hc2;omega
 refine D8 (h:=Ha (h:=e_ (BH (?_))));refine BR (fun n S=>∃j:Nat,j≤p.rules.length∧n=p.rules.length - j∧(∀i r w,i<j→p.rules[i]?=some r→p.wats[i]?=some w→GD s r w=true)∧S=⟨look [(2, .bp 0 0),(3, .bp 1 0),(22, .sl 8 (p.rules.map AP) none),(23, .v (.int .i64 ((p.rules.map AP).length:Int))),(24, .v (.int .i64 (j:Int)))],⟨[Bi p,AT s],[]⟩⟩) (p.rules.length) ((wk 2 0)) (⟨0,BK _,rfl,fun i _ _ h=>absurd h (Nat.not_lt_zero i),rfl⟩) ?_;rintro n S ⟨j,hj,rfl,ha,rfl⟩;refine w_ (Cj (h:=q_ (?_)));refine A4 rfl (fun hb3 hc3=>?_) (fun hb3 hc3=>?_)
 ·obtain⟨hlt,r,hy,hrow, -⟩:=Bz AP hc3;obtain⟨w,hyw⟩:∃w,p.wats[j]?=some w:=⟨_,B3 (by omega)⟩;have hroww:(p.wats.map Bd)[j]?=some (Bd w):=by rw[List.getElem?_map,hyw];rfl
  refine C2 (h:=Aa (h:=i_ (h:=l_ (h:=Dt (h:=a_ (h:=s_ (h:=e_ (Fu (h:=Hu (h:=Az (h:=EH (h:=?_))))))))))));refine e_ (?_);refine A4 rfl (fun hb4 hc4=>?_) (fun hb4 hc4=>?_)
  ·refine CF (h:=Bq (h:=?_));refine A3 rfl (Zu w FP rfl rfl ?_);refine e_ (?_);refine A4 rfl (fun hb5 hc5=>?_) (fun hb5 hc5=>?_)
   ·refine HU (h:=?_);refine A6 ?_
    first|(exfalso;first|contradiction|omega)|(exact vb (by exact(Un hy hyw (by simp_all [GD])).symm))
   refine BF (BB (t_ (Av (Gp (h:=?_)))));refine⟨_,_,?_,⟨j+1,by omega,rfl,Zv hy hyw ha (by simp_all [GD]),rfl⟩,(wk 2 0)⟩;omega
  refine Az (h:=JM (h:=?_));refine AJ false rfl rfl (fun hb6 hc6=>?_) (fun hb6 hc6=>?_)
  ·refine BT (h:=K9 (h:=HU (h:=?_)));refine A6 ?_
   first|(exfalso;first|contradiction|omega)|(exact vb (by exact(Un hy hyw (by simp_all [GD])).symm))
  refine GL (h:=?_);refine As (A8 (pB s w hs) ?_);rintro r rfl;refine Cr (h:=CV (h:=?_));refine A4 rfl (fun hb7 hc7=>?_) (fun hb7 hc7=>?_)
  ·refine HU (h:=?_);refine A6 ?_
   first|(exfalso;first|contradiction|omega)|(exact vb (by exact(Un hy hyw (by simp_all [GD])).symm))
  refine BF (BB (t_ (Av (Gp (h:=?_)))));refine⟨_,_,?_,⟨j+1,by omega,rfl,Zv hy hyw ha (by simp_all [GD]),rfl⟩,(wk 2 0)⟩;omega
 have e:=CD AP hj hc3;subst e;refine GK (h:=?_);refine A6 ?_
 first|(exfalso;first|contradiction|omega)|(exact vb (by exact(Uo k1 hlen ha).symm))
include hn
end
section
theorem qP(p:Pol)(h1:p.rules.length≤1000)(h2:p.wats.length≤1000)(ht:∀r∈p.rules,r.tests.length≤1000):AFn prog 43 [.agg (Bi p), .agg (Bi p)] (fun r=>r= .v (.bool true)):=by
 refine enter Tryz.func43 rfl rfl rfl rfl rfl 0 rfl ?_;refine FV (h:=Ci (h:=Ab (h:=?_)));refine A3 rfl (A8 (Zk p.rules p.rules h1 ht) ?_);rintro r rfl;refine EV (h:=?_);refine AJ false rfl rfl (fun hb1 hc1=>?_) (fun hb1 hc1=>?_)
 ·simp at hb1
 refine Ef (h:=Ef (h:=GH (h:=CV (h:=?_))));refine A4 rfl (fun hb2 hc2=>?_) (fun hb2 hc2=>?_)
 ·simp at hb2
 refine AG (CW (h:=?_));refine BR (fun n S=>∃j:Nat,j≤p.wats.length∧n=p.wats.length - j∧S=⟨look [(2, .bp 0 0),(3, .bp 1 0),(5, .v (.int .i64 (j:Int)))],⟨[Bi p,Bi p],[]⟩⟩) (p.wats.length) ((wk 2 0)) (⟨0,BK _,rfl,rfl⟩) ?_;rintro n S ⟨j,hj,rfl,rfl⟩;refine GN (h:=?_);refine A4 rfl (fun hb3 hc3=>?_) (fun hb3 hc3=>?_)
 ·obtain⟨hlt,w,hy,hrow, -⟩:=Bz Bd hc3;refine AG (q_ (BH (q_ (Db 11 (h:=AD 0 (h:=AA 1 (h:=AF 2 (h:=DK 3 (h:=AA 4 (h:=AD 5 (h:=AA 6 (h:=AF 7 (h:=DK 8 (h:=AA 9 (h:=?_)))))))))))))));refine GF (i:=10) rfl (Zu w w rfl rfl ⟨rfl,rfl⟩) ?_;refine z_ (h:=t_ (?_));refine A4 rfl (fun hb4 hc4=>?_) (fun hb4 hc4=>?_)
  ·simp at hc4
  refine DL (h:=?_);refine⟨_,_,?_,⟨j+1,by omega,rfl,rfl⟩,(wk 2 0)⟩;omega
 have e:=CD Bd hj hc3;subst e;refine GK (h:=?_);refine A6 ?_;rfl
end
section
variable (s:Spc)(p:Pol)(r:Rul)(hv:SpcV s)(hm:s.mounts.length≤1000)(h1:p.rules.length≤1000)(h2:p.wats.length=p.rules.length)(hi:∀r∈p.rules,Em r)(hr:Em r)
include hv hm h1 h2 hi hr
theorem qQ(front:Bool)(hf:front=true)(A:List Rul×Int)(hA:D1 p.rules r front=A)(W:Wch×Int)(hW:D2 s r=W):AFn prog 57 [.agg (Bi p), .agg (AT s), .agg (AP r), .v (.bool true)] (fun x=>x=Kw (JB s p r front)):=by
 have hadd:AFn prog 61 [.sl 8 (p.rules.map AP) none, .agg (AP r), .v (.bool true)] (fun x=>x= .tup [.sl 8 (A.1.map AP) none, .v (.int .i64 A.2)]):=by rw[←hA,hf];exact Zn p.rules r true h1 hi hr
 have hplc:AFn prog 90 [.agg (AP r), .agg (AT s)] (fun x=>x= .tup [.agg (Bd W.1), .v (.int .i64 W.2)]):=by rw[←hW];exact Zo s r hv hm hr
 have heq:JB s p r front=if A.2≠0 then(JT,A.2)else if W.2≠0 then(JT,W.2)else(⟨A.1,W.1::p.wats⟩,0):=by rw[JB,hA,hW,hf];rfl
 refine enter Tryz.func57 rfl rfl rfl rfl rfl 0 rfl ?_;refine Dh (h:=b_ (h:=Ja (h:=Az (h:=Gq (h:=?_)))));refine A3 rfl (A8 (hadd) ?_);rintro r rfl;refine GJ (h:=a_ (h:=Bw (h:=Bn (h:=?_))));refine A4 rfl (fun hb1 hc1=>?_) (fun hb1 hc1=>?_)
 ·have k1:A.2≠0:=by simpa using hc1
  refine w_ (Gr (h:=E8 (h:=?_)));refine AZ (r:=Kw (JB s p r front)) none (h5:=?_) (h6:=⟨rfl,rfl,rfl⟩);exact On (by rw[heq,if_pos k1])
 have k1:¬A.2≠0:=by simpa using hc1
 refine AG (CG (h:=?_));refine A3 rfl (A8 (hplc) ?_);rintro r rfl;refine JK (h:=Bn (h:=?_));refine A4 rfl (fun hb2 hc2=>?_) (fun hb2 hc2=>?_)
 ·have k2:W.2≠0:=by simpa using hc2
  refine w_ (Gr (h:=E8 (h:=?_)));refine AZ (r:=Kw (JB s p r front)) none (h5:=?_) (h6:=⟨rfl,rfl,rfl⟩);exact On (by rw[heq,if_neg k1,if_pos k2])
 have k2:¬W.2≠0:=by simpa using hc2
 refine Dl (h:=e_ (?_));refine A4 rfl (fun hb3 hc3=>?_) (fun hb3 hc3=>?_)
 ·refine Aa (h:=l_ (h:=?_));refine A3 rfl (Vc (by repeat (first|exact DenseA.nil _|(apply DenseA.cons;(focus exact rfl);(focus exact rfl);(focus exact rfl);(focus exact rfl))|(apply DenseA.consE;(focus exact rfl);(focus exact rfl);(focus exact rfl)))) rfl rfl rfl rfl (by repeat constructor) ?_);refine f_ (h:=l_ (h:=Gg (h:=Bq (h:=s_ (h:=a_ (h:=e_ (B8 (Bu (?_)))))))));refine A6 ?_;rw[heq,if_neg k1,if_neg k2];rfl
 exact E7
theorem qR(front:Bool)(hf:front=false)(A:List Rul×Int)(hA:D1 p.rules r front=A)(W:Wch×Int)(hW:D2 s r=W):AFn prog 57 [.agg (Bi p), .agg (AT s), .agg (AP r), .v (.bool false)] (fun x=>x=Kw (JB s p r front)):=by
 have hadd:AFn prog 61 [.sl 8 (p.rules.map AP) none, .agg (AP r), .v (.bool false)] (fun x=>x= .tup [.sl 8 (A.1.map AP) none, .v (.int .i64 A.2)]):=by rw[←hA,hf];exact Zn p.rules r false h1 hi hr
 have hplc:AFn prog 90 [.agg (AP r), .agg (AT s)] (fun x=>x= .tup [.agg (Bd W.1), .v (.int .i64 W.2)]):=by rw[←hW];exact Zo s r hv hm hr
 have heq:JB s p r front=if A.2≠0 then(JT,A.2)else if W.2≠0 then(JT,W.2)else(⟨A.1,p.wats++[W.1]⟩,0):=by rw[JB,hA,hW,hf];rfl
 refine enter Tryz.func57 rfl rfl rfl rfl rfl 0 rfl ?_;refine Dh (h:=b_ (h:=Ja (h:=Az (h:=Gq (h:=?_)))));refine A3 rfl (A8 (hadd) ?_);rintro r rfl;refine GJ (h:=a_ (h:=Bw (h:=Bn (h:=?_))));refine A4 rfl (fun hb1 hc1=>?_) (fun hb1 hc1=>?_)
 ·have k1:A.2≠0:=by simpa using hc1
  refine w_ (Gr (h:=E8 (h:=?_)));refine AZ (r:=Kw (JB s p r front)) none (h5:=?_) (h6:=⟨rfl,rfl,rfl⟩);exact On (by rw[heq,if_pos k1])
 have k1:¬A.2≠0:=by simpa using hc1
 refine AG (CG (h:=?_));refine A3 rfl (A8 (hplc) ?_);rintro r rfl;refine JK (h:=Bn (h:=?_));refine A4 rfl (fun hb2 hc2=>?_) (fun hb2 hc2=>?_)
 ·have k2:W.2≠0:=by simpa using hc2
  refine w_ (Gr (h:=E8 (h:=?_)));refine AZ (r:=Kw (JB s p r front)) none (h5:=?_) (h6:=⟨rfl,rfl,rfl⟩);exact On (by rw[heq,if_neg k1,if_pos k2])
 have k2:¬W.2≠0:=by simpa using hc2
 refine Dl (h:=e_ (?_));refine A4 rfl (fun hb3 hc3=>?_) (fun hb3 hc3=>?_)
 ·exact E7
 refine AG (q_ (BS ([(0,Bi p),(1,AT s),(2,AP r),(4,Bd W.1)]) 10 (h:=AF 0 (h:=AD 1 (h:=AA 2 (h:=AA 4 (h:=Ho 5 (h:=?_))))))))
 first|refine c_ 3 rfl (Dr rfl rfl rfl (by simp<;>omega) (by repeat constructor) ?_)|refine c_ 3 rfl (Ge rfl rfl (by simp<;>omega) (by repeat constructor) ?_)
 refine o_ (h:=?_)
 first|refine c_ 6 rfl (Dr rfl rfl rfl (by simp<;>omega) (by repeat constructor) ?_)|refine c_ 6 rfl (Ge rfl rfl (by simp<;>omega) (by repeat constructor) ?_)
 refine o_ (h:=LU 7 (h:=?_));refine Ak 8 (h:=BE 9 (h:=z_ (h:=t_ (B8 (?_)))));refine A6 ?_;rw[heq,if_neg k1,if_neg k2];simp[Kw,Bi,List.map_append];rfl
theorem S4(front:Bool):AFn prog 57 [.agg (Bi p), .agg (AT s), .agg (AP r), .v (.bool front)] (fun x=>x=Kw (JB s p r front)):=by
 cases front
 ·exact qR s p r hv hm h1 h2 hi hr false rfl _ rfl _ rfl
 exact qQ s p r hv hm h1 h2 hi hr true rfl _ rfl _ rfl
end
theorem S5(a:Int):0≤IntKind.u64.wrap a∧IntKind.u64.wrap a<18446744073709551616:=by
 simp only[IntKind.wrap,IntKind.signed,IntKind.bits];simp;omega
theorem Zw(a b:Int):0≤Qo .u64 a b∧Qo .u64 a b<18446744073709551616:=S5 _
theorem qT(a b:Int):0≤Qp .u64 a b∧Qp .u64 a b<18446744073709551616:=S5 _
section
theorem Zx(l:List Int)(a:Nat)(ha:a≤100000000000):Hl prog 82 l a [] 40 (fun r=>∃m:Int,r= .v (.int .u64 m)∧0≤m∧m<18446744073709551616):=by
 refine enter Tryz.func82 rfl rfl rfl rfl rfl 1 rfl ?_;refine w_ (Bw (h:=?_));refine A3 rfl (Aw 0 (hc:=Gn l _ (6) (by omega) (by omega)) (hR:=?_));rintro r a1 ha1 ⟨k1,rfl,p1,q1,o1⟩;refine Ax ?_;refine e_ (BH (B1 (h:=?_)));refine A4 rfl (fun hb1 hc1=>?_) (fun hb1 hc1=>?_)
 ·refine Bl (h:=?_);refine AZ none (h5:=(A7 _)) (h6:=⟨_,rfl,rfl,a1,by omega,rfl,_,rfl,by omega,by omega⟩)
 refine B1 (h:=?_);refine A4 rfl (fun hb2 hc2=>?_) (fun hb2 hc2=>?_)
 ·refine Aa (h:=?_);refine A3 rfl (Aw 0 (hc:=Gn l _ (32) (by omega) (by omega)) (hR:=?_));rintro r a2 ha2 ⟨k2,rfl,p2,q2,o2⟩;refine Ax ?_
  first|refine A3 rfl (O2 rfl Tryz.underlying3 Tryz.underlying113 ?_)|refine A3 rfl (O2 rfl Tryz.underlying3 Tryz.underlying80 ?_)
  refine A3 rfl (Vg rfl rfl (S5 _).1 ?_);refine BC (h:=?_);refine AZ none (h5:=(A7 _)) (h6:=⟨_,rfl,rfl,a2,by omega,rfl,_,rfl,qT _ _⟩)
 refine BF (BB (t_ (Cw (h:=CW (h:=?_)))));refine BR (fun n s=>∃(j a1:Nat) (m:Int),j≤32∧n=32 - j∧a1≤a+1+j∧0≤m∧m<18446744073709551616∧s=⟨look [(0, .bp 0 0),(3, .v (.int .u64 m)),(4, .v (.int .i64 (j:Int)))],⟨[EG l a1],[]⟩⟩) (32) ((wk 1 0)) (⟨0,a1,0,by omega,rfl,by omega,by omega,by omega,rfl⟩) ?_;rintro n s ⟨j,b1,m,hj,rfl,hb1,hm1,hm2,rfl⟩;refine Bv (h:=Cj (h:=?_));refine A4 rfl (fun hb3 hc3=>?_) (fun hb3 hc3=>?_)
 ·refine C2 (h:=EX (h:=?_));refine A3 rfl (Aw 0 (hc:=Gn l _ (2) (by omega) (by omega)) (hR:=?_));rintro r a3 ha3 ⟨k3,rfl,p3,q3,o3⟩;refine Ax ?_
  first|refine A3 rfl (O2 rfl Tryz.underlying3 Tryz.underlying113 ?_)|refine A3 rfl (O2 rfl Tryz.underlying3 Tryz.underlying80 ?_)
  refine m_ (h:=?_)
  first|refine A3 rfl (O2 rfl Tryz.underlying3 Tryz.underlying113 ?_)|refine A3 rfl (O2 rfl Tryz.underlying3 Tryz.underlying80 ?_)
  refine A3 rfl (Vg rfl rfl (S5 _).1 ?_);refine dQ (h:=HG (h:=FD (h:=?_)));refine⟨_,_,?_,⟨j+1,_,_,by omega,rfl,?_,(Zw _ _).1,(Zw _ _).2,rfl⟩,(wk 1 0)⟩<;>omega
 refine CK (h:=EA (h:=?_));refine AZ none (h5:=(A7 _)) (h6:=⟨_,rfl,rfl,b1,by omega,rfl,m,rfl,hm1,hm2⟩)
theorem qU(l:List Int)(a:Nat)(list:Int)(ha:a≤100000000000):Hl prog 83 l a [.v (.int .i64 list)] 20 (fun r=>∃t:Tst,r= .agg (Cy t)):=by
 refine enter Tryz.func83 rfl rfl rfl rfl rfl 1 rfl ?_;refine w_ (DT (h:=Aa (h:=?_)));refine A3 rfl (Aw 0 (hc:=E3 l _ (1) (8) (by omega) (by omega) (by omega) (by omega)) (hR:=?_));rintro r a1 ha1 ⟨k1,rfl,p1,q1⟩;refine Ax ?_;refine m_ (h:=?_);refine A3 rfl (Aw 0 (hc:=E3 l _ (1) (8) (by omega) (by omega) (by omega) (by omega)) (hR:=?_));rintro r a2 ha2 ⟨k2,rfl,p2,q2⟩;refine Ax ?_;refine m_ (h:=BY (h:=?_));refine A3 rfl (Aw 0 (hc:=Gw l _ _ (fun _=>true) (by omega) (by rfl) (by rfl) (by rfl)) (hR:=?_));rintro r a3 ha3 ⟨k3,rfl,p3⟩;refine Ax ?_;refine Bq (h:=Dk (h:=Aa (h:=?_)));refine A3 rfl (Aw 0 (hc:=Gn l _ (8) (by omega) (by omega)) (hR:=?_));rintro r a4 ha4 ⟨k4,rfl,p4,q4,o4⟩;refine Ax ?_;refine B7 (h:=?_);refine B9 (fun s=>∃(b:Nat) (f o n ot:Int) (t:ByteArray),b≤a+8∧s=⟨look [(0, .bp 0 0),(4, .bp 1 0),(5, .bp 2 0)],⟨[EG l b,[.v (.int .i64 0), .v (.int .i64 0), .v (.int .i64 0), .v (.string ⟨#[]⟩), .v (.int .i64 0)],[.v (.int .i64 f), .v (.int .i64 o), .v (.int .i64 n), .v (.string t), .v (.int .i64 ot)]],[]⟩⟩) ?_ ?_
 ·skip
  refine BH (Aa (h:=Ed (h:=?_)));refine A4 rfl (fun hb1 hc1=>?_) (fun hb1 hc1=>?_)
  ·refine C5 (h:=?_);refine A3 rfl (Aw 0 (hc:=E3 l _ (13) (14) (by omega) (by omega) (by omega) (by omega)) (hR:=?_));rintro r a5 ha5 ⟨k5,rfl,p5,q5⟩;refine Ax ?_;refine m_ (h:=?_);refine A3 rfl (Aw 0 (hc:=E3 l _ (1) (2) (by omega) (by omega) (by omega) (by omega)) (hR:=?_));rintro r a6 ha6 ⟨k6,rfl,p6,q6⟩;refine Ax ?_;refine m_ (h:=BY (h:=?_));refine A3 rfl (Aw 0 (hc:=Ms l _ _ (fun _=>true) (by omega) (by rfl) (by rfl) (by rfl)) (hR:=?_));rintro r a7 ha7 ⟨k7,rfl,p7⟩;refine Ax ?_;refine E0 (h:=C1 (BB (AM (?_))));refine⟨_,⟨_,_,_,_,_,_,?_,rfl⟩,(wk 3 0)⟩<;>omega
  refine Aa (h:=Ed (h:=?_));refine A4 rfl (fun hb2 hc2=>?_) (fun hb2 hc2=>?_)
  ·refine C5 (h:=?_);refine A3 rfl (Aw 0 (hc:=E3 l _ (3) (7) (by omega) (by omega) (by omega) (by omega)) (hR:=?_));rintro r a8 ha8 ⟨k8,rfl,p8,q8⟩;refine Ax ?_;refine m_ (h:=?_);refine A3 rfl (Aw 0 (hc:=E3 l _ (1) (2) (by omega) (by omega) (by omega) (by omega)) (hR:=?_));rintro r a9 ha9 ⟨k9,rfl,p9,q9⟩;refine Ax ?_;refine m_ (h:=?_);refine A3 rfl (Aw 0 (hc:=E3 l _ (3) (7) (by omega) (by omega) (by omega) (by omega)) (hR:=?_));rintro r a10 ha10 ⟨k10,rfl,p10,q10⟩;refine Ax ?_;refine E0 (h:=C1 (BB (AM (?_))));refine⟨_,⟨_,_,_,_,_,_,?_,rfl⟩,(wk 3 0)⟩<;>omega
  refine Aa (h:=E1 (h:=?_));refine AJ true rfl rfl (fun hb3 hc3=>?_) (fun hb3 hc3=>?_)
  ·refine DD (h:=EW (h:=?_));refine A4 rfl (fun hb4 hc4=>?_) (fun hb4 hc4=>?_)
   ·refine C5 (h:=?_);refine A3 rfl (Aw 0 (hc:=E3 l _ (19) (20) (by omega) (by omega) (by omega) (by omega)) (hR:=?_));rintro r a11 ha11 ⟨k11,rfl,p11,q11⟩;refine Ax ?_;refine m_ (h:=?_);refine A3 rfl (Aw 0 (hc:=E3 l _ (1) (2) (by omega) (by omega) (by omega) (by omega)) (hR:=?_));rintro r a12 ha12 ⟨k12,rfl,p12,q12⟩;refine Ax ?_;refine m_ (h:=BY (h:=?_));refine A3 rfl (Aw 0 (hc:=Gw l _ _ (fun _=>true) (by omega) (by rfl) (by rfl) (by rfl)) (hR:=?_));rintro r a13 ha13 ⟨k13,rfl,p13⟩;refine Ax ?_;refine E0 (h:=C1 (BB (AM (?_))));refine⟨_,⟨_,_,_,_,_,_,?_,rfl⟩,(wk 3 0)⟩<;>omega
   refine Aa (h:=Di (h:=?_));refine AJ true rfl rfl (fun hb5 hc5=>?_) (fun hb5 hc5=>?_)
   ·refine DD (h:=EW (h:=JH (h:=Aa (h:=Di (h:=DD (h:=EW (h:=?_)))))));refine A4 rfl (fun hb6 hc6=>?_) (fun hb6 hc6=>?_)
    ·refine C5 (h:=?_);refine A3 rfl (Aw 0 (hc:=E3 l _ (9) (12) (by omega) (by omega) (by omega) (by omega)) (hR:=?_));rintro r a14 ha14 ⟨k14,rfl,p14,q14⟩;refine Ax ?_;refine Cb (h:=C1 (BB (AM (?_))));refine⟨_,⟨_,_,_,_,_,_,?_,rfl⟩,(wk 3 0)⟩<;>omega
    refine Aa (h:=Di (h:=?_));refine AJ true rfl rfl (fun hb7 hc7=>?_) (fun hb7 hc7=>?_)
    ·refine DD (h:=EW (h:=?_));refine A4 rfl (fun hb8 hc8=>?_) (fun hb8 hc8=>?_)
     ·refine C5 (h:=?_);refine A3 rfl (Aw 0 (hc:=E3 l _ (1) (6) (by omega) (by omega) (by omega) (by omega)) (hR:=?_));rintro r a15 ha15 ⟨k15,rfl,p15,q15⟩;refine Ax ?_;refine m_ (h:=BY (h:=?_));refine A3 rfl (Aw 0 (hc:=Gw l _ _ (fun _=>true) (by omega) (by rfl) (by rfl) (by rfl)) (hR:=?_));rintro r a16 ha16 ⟨k16,rfl,p16⟩;refine Ax ?_;refine E0 (h:=C1 (BB (AM (?_))));refine⟨_,⟨_,_,_,_,_,_,?_,rfl⟩,(wk 3 0)⟩<;>omega
     refine BF (BB (AM (?_)));refine⟨_,⟨_,_,_,_,_,_,?_,rfl⟩,(wk 3 0)⟩<;>omega
    refine Hw (h:=GM (h:=BF (BB (AM (?_)))));refine⟨_,⟨_,_,_,_,_,_,?_,rfl⟩,(wk 3 0)⟩<;>omega
   refine Hw (h:=GM (h:=Aa (h:=Di (h:=Hw (h:=GM (h:=Aa (h:=Di (h:=?_))))))));refine AJ true rfl rfl (fun hb9 hc9=>?_) (fun hb9 hc9=>?_)
   ·refine DD (h:=EW (h:=?_));refine A4 rfl (fun hb10 hc10=>?_) (fun hb10 hc10=>?_)
    ·refine C5 (h:=?_);refine A3 rfl (Aw 0 (hc:=E3 l _ (1) (6) (by omega) (by omega) (by omega) (by omega)) (hR:=?_));rintro r a17 ha17 ⟨k17,rfl,p17,q17⟩;refine Ax ?_;refine m_ (h:=BY (h:=?_));refine A3 rfl (Aw 0 (hc:=Gw l _ _ (fun _=>true) (by omega) (by rfl) (by rfl) (by rfl)) (hR:=?_));rintro r a18 ha18 ⟨k18,rfl,KS⟩;refine Ax ?_;refine E0 (h:=C1 (BB (AM (?_))));refine⟨_,⟨_,_,_,_,_,_,?_,rfl⟩,(wk 3 0)⟩<;>omega
    refine BF (BB (AM (?_)));refine⟨_,⟨_,_,_,_,_,_,?_,rfl⟩,(wk 3 0)⟩<;>omega
   refine Hw (h:=GM (h:=BF (BB (AM (?_)))));refine⟨_,⟨_,_,_,_,_,_,?_,rfl⟩,(wk 3 0)⟩<;>omega
  refine Hw (h:=GM (h:=Aa (h:=Di (h:=?_))));refine AJ true rfl rfl (fun hb11 hc11=>?_) (fun hb11 hc11=>?_)
  ·refine DD (h:=EW (h:=?_));refine A4 rfl (fun hb12 hc12=>?_) (fun hb12 hc12=>?_)
   ·refine C5 (h:=?_);refine A3 rfl (Aw 0 (hc:=E3 l _ (15) (21) (by omega) (by omega) (by omega) (by omega)) (hR:=?_));rintro r a19 ha19 ⟨k19,rfl,p19,q19⟩;refine Ax ?_;refine m_ (h:=BY (h:=?_));refine A3 rfl (Aw 0 (hc:=Gw l _ _ (fun _=>true) (by omega) (by rfl) (by rfl) (by rfl)) (hR:=?_));rintro r a20 ha20 ⟨k20,rfl,p20⟩;refine Ax ?_;refine Cb (h:=Cb (h:=C1 (BB (AM (?_)))));refine⟨_,⟨_,_,_,_,_,_,?_,rfl⟩,(wk 3 0)⟩<;>omega
   refine Aa (h:=Di (h:=DD (h:=EW (h:=?_))));refine A4 rfl (fun hb13 hc13=>?_) (fun hb13 hc13=>?_)
   ·refine C5 (h:=?_);refine A3 rfl (Aw 0 (hc:=E3 l _ (9) (12) (by omega) (by omega) (by omega) (by omega)) (hR:=?_));rintro r a21 ha21 ⟨k21,rfl,p21,q21⟩;refine Ax ?_;refine Cb (h:=C1 (BB (AM (?_))));refine⟨_,⟨_,_,_,_,_,_,?_,rfl⟩,(wk 3 0)⟩<;>omega
   refine Aa (h:=Di (h:=?_));refine AJ true rfl rfl (fun hb14 hc14=>?_) (fun hb14 hc14=>?_)
   ·refine DD (h:=EW (h:=?_));refine A4 rfl (fun hb15 hc15=>?_) (fun hb15 hc15=>?_)
    ·refine C5 (h:=?_);refine A3 rfl (Aw 0 (hc:=E3 l _ (1) (6) (by omega) (by omega) (by omega) (by omega)) (hR:=?_));rintro r a22 ha22 ⟨k22,rfl,p22,q22⟩;refine Ax ?_;refine m_ (h:=BY (h:=?_));refine A3 rfl (Aw 0 (hc:=Gw l _ _ (fun _=>true) (by omega) (by rfl) (by rfl) (by rfl)) (hR:=?_));rintro r a23 ha23 ⟨k23,rfl,p23⟩;refine Ax ?_;refine E0 (h:=C1 (BB (AM (?_))));refine⟨_,⟨_,_,_,_,_,_,?_,rfl⟩,(wk 3 0)⟩<;>omega
    refine BF (BB (AM (?_)));refine⟨_,⟨_,_,_,_,_,_,?_,rfl⟩,(wk 3 0)⟩<;>omega
   refine Hw (h:=GM (h:=BF (BB (AM (?_)))));refine⟨_,⟨_,_,_,_,_,_,?_,rfl⟩,(wk 3 0)⟩<;>omega
  refine Hw (h:=GM (h:=Aa (h:=Di (h:=Hw (h:=GM (h:=Aa (h:=Di (h:=?_))))))));refine AJ true rfl rfl (fun hb16 hc16=>?_) (fun hb16 hc16=>?_)
  ·refine DD (h:=EW (h:=?_));refine A4 rfl (fun hb17 hc17=>?_) (fun hb17 hc17=>?_)
   ·refine C5 (h:=?_);refine A3 rfl (Aw 0 (hc:=E3 l _ (1) (6) (by omega) (by omega) (by omega) (by omega)) (hR:=?_));rintro r a24 ha24 ⟨k24,rfl,p24,q24⟩;refine Ax ?_;refine m_ (h:=BY (h:=?_));refine A3 rfl (Aw 0 (hc:=Gw l _ _ (fun _=>true) (by omega) (by rfl) (by rfl) (by rfl)) (hR:=?_));rintro r a25 ha25 ⟨k25,rfl,p25⟩;refine Ax ?_;refine E0 (h:=C1 (BB (AM (?_))));refine⟨_,⟨_,_,_,_,_,_,?_,rfl⟩,(wk 3 0)⟩<;>omega
   refine BF (BB (AM (?_)));refine⟨_,⟨_,_,_,_,_,_,?_,rfl⟩,(wk 3 0)⟩<;>omega
  refine Hw (h:=GM (h:=BF (BB (AM (?_)))));refine⟨_,⟨_,_,_,_,_,_,?_,rfl⟩,(wk 3 0)⟩<;>omega
 rintro s ⟨b,f,o,n,ot,t,hb,rfl⟩;refine Bv (h:=?_);refine A3 rfl (Aw 0 (hc:=Gn l _ (24) (by omega) (by omega)) (hR:=?_));rintro r a26 ha26 ⟨k26,rfl,p26,q26,o26⟩;refine Ax ?_;refine BN (h:=?_);refine A4 rfl (fun hb18 hc18=>?_) (fun hb18 hc18=>?_)
 ·refine C5 (h:=?_);refine A3 rfl (Aw 0 (hc:=E3 l _ (0) (24) (by omega) (by omega) (by omega) (by omega)) (hR:=?_));rintro r a27 ha27 ⟨k27,rfl,p27,q27⟩;refine Ax ?_;refine m_ (h:=?_);refine A3 rfl (Aw 0 (hc:=E3 l _ (0) (9) (by omega) (by omega) (by omega) (by omega)) (hR:=?_));rintro r a28 ha28 ⟨k28,rfl,p28,q28⟩;refine Ax ?_;refine Cb (h:=D7 (h:=Fs (h:=e_ (B8 (?_)))));refine AZ none (h5:=(A7 _)) (h6:=⟨_,rfl,rfl,_,?_,rfl,⟨_,_,_,_,_⟩,rfl⟩)<;>omega
 refine AG (Fs (h:=e_ (B8 (?_))));refine AZ none (h5:=(A7 _)) (h6:=⟨_,rfl,rfl,_,?_,rfl,⟨_,_,_,_,_⟩,rfl⟩)<;>omega
end
end Go.Proofs.YtbgnigjfkbmceaaGreatDoor
