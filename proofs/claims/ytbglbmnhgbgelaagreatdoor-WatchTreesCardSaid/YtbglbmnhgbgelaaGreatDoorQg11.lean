/-
  Part 11 of the proof of WatchTreesP: what the statement's proof uses of the texts in wip/tpl.
-/
import Derived.Lib.AppendZerosOnto
import Derived.Test.YtbglbmnhgbgelaaGreatDoorQg10
set_option maxRecDepth 10000
set_option maxHeartbeats 4000000
set_option linter.unusedVariables false
set_option linter.unusedSimpArgs false
namespace Go.Proofs.YtbglbmnhgbgelaaGreatDoor
open Go.RowKit
def Cz(s:AE):List AV:=[.v (.string s)]
theorem Uc{P:Program}{ev:Operand→Option AV}{h:AH}{R:AV→AH→Prop}{d:Option Tmp}{ty:TypeId}{pos:String}{af:Array Edge}{gd:Option (Nat×Bool)}{T:TypeId}{x lo hi:Operand}{s:ByteArray}{a k:Nat}{i j:Int}(hu:P.underlying T=some .string)
    (hx:ev x=some (.v (.string s))) (hl:ev lo=some (.v (.int .i64 i))) (hh:ev hi=some (.v (.int .i64 j))) (hi':i=(a:Int)) (hj:j=(k:Int)) (h1:a≤k) (h2:k≤s.size) (hR:R (.v (.string (s.extract a k))) h):AStep P ⟨d, .slice T x (some lo) (some hi) none,ty,pos,af,gd⟩ ev h R:=by
 refine D3 (fun _ G w ec _ he=>?_) hR
 have k1:=he x (by simp[Op.operands]) _ hx
 have k2:=he lo (by simp[Op.operands]) _ hl
 have k3:=he hi (by simp[Op.operands]) _ hh
 simp only[rep]at k1 k2 k3
 subst hi' hj
 refine⟨.string (s.extract a k),?_,by simp only[rep]⟩
 simp[execOp,k1,k2,k3,Instr.sliceAt,Instr.slice,Instr.sliceBounds,Instr.sliceBound,asIntOf,run_underlying hu,h1,h2]
def D8(s:AE):Bool:=decide (s.data.toList.head?=some 47)
def BG(s:AE):Bool:=decide (s.data.toList.getLast?=some 47)
theorem OO{s:AE}(h:0<s.size):D8 s=decide (((s[0]'h).toNat:Int)=47):=by
 unfold D8
 rw[Yk s h,Bool.eq_iff_iff];simp
theorem OP{s:AE}(h:0<s.size):BG s=decide (((s[s.size - 1]'(by omega)).toNat:Int)=47):=by
 unfold BG
 rw[Yl s h,Bool.eq_iff_iff];simp
theorem Qs{s:AE}(h:¬0<s.size):D8 s=false:=by
 have:s.data.toList=[]:=List.eq_nil_of_length_eq_zero (by rw[←Lib.size_eq];omega)
 unfold D8
 rw[this];rfl
theorem Qt{s:AE}(h:¬0<s.size):BG s=false:=by
 have:s.data.toList=[]:=List.eq_nil_of_length_eq_zero (by rw[←Lib.size_eq];omega)
 unfold BG
 rw[this];rfl
theorem Ud{s:AE}{k:Nat}(h:k<s.size)(h47:((s[k]'h).toNat:Int)=47):s.data.toList[k]?=some 47:=by
 rw[Lib.data_getElem? s k h]
 congr 1
 refine UInt8.toNat_inj.1 ?_
 show _=47
 omega
theorem Ue{s:AE}{f k:Nat}{ps:List AE}(hI:E6 s.data.toList f k (CA ps))(h:k=s.size∨s.data.toList[k]?=some 47):E6 s.data.toList (k+1) (k+1) (CA ps++one_ ((s.data.toList.drop f).take (k - f))):=by
 rcases h with h|h
 ·rw[Lib.size_eq]at h
  subst h
  exact Yg hI
 exact Yf hI h
theorem Uf{s:AE}{f k:Nat}{ps:List AE}(hI:E6 s.data.toList f k (CA ps))(hk:k≤s.size)(h:k=s.size∨s.data.toList[k]?=some 47)(hf:f<k):E6 s.data.toList (k+1) (k+1) (CA (ps++[s.extract f k])):=Ym (Ue hI h) (Yi (Yj s hf hk))
theorem Ug{s:AE}{f k:Nat}{ps:List AE}(hI:E6 s.data.toList f k (CA ps))(h:k=s.size∨s.data.toList[k]?=some 47)(hf:¬f<k):E6 s.data.toList (k+1) (k+1) (CA ps):=Yn (Ue hI h) (by omega)
theorem bF{s:AE}{f k:Nat}{ps:List AE}(hI:E6 s.data.toList f k (CA ps))(h:k<s.size)(h47:¬((s[k]'h).toNat:Int)=47):E6 s.data.toList f (k+1) (CA ps):=Ye hI (Lib.data_getElem? s k h) (fun e=>h47 (by rw[e];rfl))
theorem Uh(ps:List AE):ps.length≤(DC (CA ps)).length:=by
 induction ps with
 |nil=>simp
 |cons p ps ih=>
   have:CA (p::ps)=p.data.toList::CA ps:=rfl
   rw[this,GQ]
   simp
   omega
theorem Qu{s:AE}{ps:List AE}(h:CA ps=Bq s.data.toList){i:Nat}{x:AE}(hx:ps[i]?=some x):x.size≤s.size:=by
 rw[Lib.size_eq,Lib.size_eq s]
 refine Ys ?_
 rw[←h]
 exact List.mem_map.2 ⟨x,Au hx,rfl⟩
theorem bG{ps:List AE}{j:Nat}{x t:AE}(hx:ps[j]?=some x)(h:t.data.toList=DC ((CA ps).take j)):(t++(⟨#[47]⟩++x)).data.toList=DC ((CA ps).take (j+1)):=by
 have e:(CA ps)[j]?=some x.data.toList:=by unfold CA;rw[List.getElem?_map,hx];rfl
 rw[List.take_add_one,e,Q9,←h]
 simp[DC]
theorem Mr{a b:AE}(h:a.data.toList=b.data.toList):a=b:=ByteArray.ext (Array.toList_inj.1 h)
theorem bH{s:AE}{ps:List AE}(h:CA ps=Bq s.data.toList){i:Nat}{x:AE}(hx:ps[i]?=some x)(hn:DU x=false):Dl s.data.toList=false:=by
 rw[←QC]
 unfold MR
 rw[←h]
 have:(CA ps).all E5=false:=List.all_eq_false.2 ⟨x.data.toList,List.mem_map.2 ⟨x,Au hx,rfl⟩,by rw[←OA,hn];simp⟩
 rw[this,Bool.false_and]
theorem bJ{s t1:AE}{ps:List AE}(h:CA ps=Bq s.data.toList)(ha:∀(i:Nat) (y:AE),i<ps.length→ps[i]?=some y→DU y=true)(ht:t1.data.toList=DC ((CA ps).take ps.length))(h3:¬s=⟨#[47]⟩)(h0:0<ps.length):Dl s.data.toList=decide (s=t1):=by
 have hl:(CA ps).length=ps.length:=by simp[CA]
 rw[List.take_of_length_le (by omega)]at ht
 rw[←QC]
 unfold MR
 rw[←h,←ht]
 have h1:(CA ps).all E5=true:=List.all_eq_true.2 fun y hy=>by
  obtain⟨z,hz,rfl⟩:=List.mem_map.1 hy
  obtain⟨i,hi⟩:=List.getElem?_of_mem hz
  rw[←OA]
  exact ha i z (Ar.1 hi).1 hi
 have h2:decide (s.data.toList=[47])=false:=decide_eq_false fun e=>h3 (Mr e)
 have h4:CA ps≠[]:=fun e=>by rw[e]at hl;simp at hl;omega
 rw[h1,h2,decide_eq_true h4]
 simp only[Bool.true_and,Bool.false_or]
 rw[Bool.eq_iff_iff,decide_eq_true_iff,decide_eq_true_iff]
 exact⟨fun e=>Mr e,fun e=>by rw[e]⟩
theorem bK{s:AE}{ps:List AE}(h:CA ps=Bq s.data.toList)(h3:¬s=⟨#[47]⟩)(h0:ps.length=0):Dl s.data.toList=false:=by
 have e:CA ps=[]:=by rw[List.eq_nil_of_length_eq_zero h0];rfl
 rw[←QC]
 unfold MR
 rw[←h,e]
 have h2:decide (s.data.toList=[47])=false:=decide_eq_false fun e=>h3 (Mr e)
 rw[h2]
 simp
section
theorem Qv(s:AE)(hs:s.size≤100000):AFn Tryz.prog 98 [.v (.string s)] (fun r=>∃ps:List AE,CA ps=Bq s.data.toList∧r= .tup [.sl 1 (ps.map Cz) none, .v (.bool (D8 s)), .v (.bool (BG s))]):=by
 have hsz:=Lib.size_eq s
 refine enter Tryz.func98 rfl rfl rfl rfl rfl 0 rfl ?_
 refine w_ (a_ (h:=a_ (h:=a_ (h:=e_ (w_ (a_ (h:=e_ (w_ (a_ (h:=e_ (q_ (w_ (a_ (h:=e_ (Ao (?_))))))))))))))))
 refine NY 5 9 1 rfl (by repeat constructor) ?_
 refine Ba (fun m t=>∃(f k:Nat) (ps:List AE),k≤s.size+1∧f≤k∧ps.length≤k∧m=s.size+1 - k∧E6 s.data.toList f k (CA ps)∧t=⟨look [(0, .v (.string s)),(5, .sl 1 (ps.map Cz) (some 0)),(6, .v (.int .i64 (f:Int))),(7, .v (.int .i64 (k:Int)))],⟨[],[(9,1,ps.map Cz)]⟩⟩) (s.size+1) ((wk 0 1)) (⟨0,0,[],by omega,by omega,by simp,rfl,Yh _,rfl⟩) ?_
 rintro m t ⟨f,k,ps,hk,hfk,hpl,rfl,hI,rfl⟩
 refine q_ (w_ (m_ (h:=m_ (h:=n_ (h:=M7 (h:=e_ (?_)))))))
 refine A8 rfl (fun hb1=>?_) (fun hb1=>?_)
 ·have hc1:=bp hb1
  refine AG (q_ (Ao (w_ (m_ (h:=m_ (h:=n_ (h:=AQ (h:=m_ (h:=?_)))))))))
  refine Ax false rfl rfl (fun hb2=>?_) (fun hb2=>?_)
  ·have hc2:=bp hb2
   refine A3 (h:=A3 (h:=A3 (h:=A3 (h:=Af (h:=e_ (Bf (h:=q_ (w_ (m_ (h:=m_ (h:=CZ (h:=e_ (?_)))))))))))))
   refine A8 rfl (fun hb3=>?_) (fun hb3=>?_)
   ·have hc3:=bp hb3
    have hnx:=Uf hI (by omega) (.inl (by omega)) (by omega)
    refine AP (m_ (h:=m_ (h:=m_ (h:=m_ (h:=?_)))))
    refine A4 rfl (Uc (a:=f) (k:=k) Tryz.underlying9 rfl rfl rfl rfl rfl (by omega) (by omega) ?_)
    refine Bm (h:=?_)
    refine A4 rfl (E3 rfl rfl rfl (by simp;omega) (by repeat constructor) ?_)
    refine a_ (h:=e_ (AP (m_ (h:=B8 (h:=a_ (h:=AO (Ay (t_ (AP (m_ (h:=B8 (h:=a_ (h:=AO (?_))))))))))))))
    refine AD ?_
    refine⟨_,_,?_,⟨_,k+1,_,by omega,by omega,(by(try simp only[List.length_append,List.length_cons,List.length_nil]);omega),rfl,hnx,rfl⟩,(by(try simp only[List.map_append,List.map_cons,List.map_nil]);exact Az 0 1 rfl rfl rfl rfl ((by repeat (first|exact Sub.nil|refine Sub.cons _ _ _ rfl rfl ?_|refine Sub.any _ _ ?_|refine Sub.sl _ _ _ _ _ rfl ?_|refine Sub.slnil _ _ _ rfl ?_))))⟩
    omega
   have hc3:=bp hb3
   have hnx:=Ug hI (.inl (by omega)) (by omega)
   refine AG (AP (m_ (h:=B8 (h:=a_ (h:=AO (Ay (t_ (AP (m_ (h:=B8 (h:=a_ (h:=AO (?_)))))))))))))
   refine AD ?_
   refine⟨_,_,?_,⟨_,k+1,_,by omega,by omega,(by(try simp only[List.length_append,List.length_cons,List.length_nil]);omega),rfl,hnx,rfl⟩,(by(try simp only[List.map_append,List.map_cons,List.map_nil]);exact Az 0 1 rfl rfl rfl rfl ((by repeat (first|exact Sub.nil|refine Sub.cons _ _ _ rfl rfl ?_|refine Sub.any _ _ ?_|refine Sub.sl _ _ _ _ _ rfl ?_|refine Sub.slnil _ _ _ rfl ?_))))⟩
   omega
  have hc2:=bp hb2
  refine m_ (h:=m_ (h:=?_))
  refine B6 (J3 (n:=k) Tryz.underlying9 rfl rfl rfl (by omega) ?_)
  refine AQ (h:=Am (h:=e_ (?_)))
  refine A8 rfl (fun hb4=>?_) (fun hb4=>?_)
  ·have hc4:=bp hb4
   refine q_ (w_ (m_ (h:=m_ (h:=CZ (h:=e_ (?_))))))
   refine A8 rfl (fun hb5=>?_) (fun hb5=>?_)
   ·have hc5:=bp hb5
    have hnx:=Uf hI (by omega) (.inr (Ud (by omega) hc4)) (by omega)
    refine AP (m_ (h:=m_ (h:=m_ (h:=m_ (h:=?_)))))
    refine A4 rfl (Uc (a:=f) (k:=k) Tryz.underlying9 rfl rfl rfl rfl rfl (by omega) (by omega) ?_)
    refine Bm (h:=?_)
    refine A4 rfl (E3 rfl rfl rfl (by simp;omega) (by repeat constructor) ?_)
    refine a_ (h:=e_ (AP (m_ (h:=B8 (h:=a_ (h:=AO (Ay (t_ (AP (m_ (h:=B8 (h:=a_ (h:=AO (?_))))))))))))))
    refine AD ?_
    refine⟨_,_,?_,⟨_,k+1,_,by omega,by omega,(by(try simp only[List.length_append,List.length_cons,List.length_nil]);omega),rfl,hnx,rfl⟩,(by(try simp only[List.map_append,List.map_cons,List.map_nil]);exact Az 0 1 rfl rfl rfl rfl ((by repeat (first|exact Sub.nil|refine Sub.cons _ _ _ rfl rfl ?_|refine Sub.any _ _ ?_|refine Sub.sl _ _ _ _ _ rfl ?_|refine Sub.slnil _ _ _ rfl ?_))))⟩
    omega
   have hc5:=bp hb5
   have hnx:=Ug hI (.inr (Ud (by omega) hc4)) (by omega)
   refine AG (AP (m_ (h:=B8 (h:=a_ (h:=AO (Ay (t_ (AP (m_ (h:=B8 (h:=a_ (h:=AO (?_)))))))))))))
   refine AD ?_
   refine⟨_,_,?_,⟨_,k+1,_,by omega,by omega,(by(try simp only[List.length_append,List.length_cons,List.length_nil]);omega),rfl,hnx,rfl⟩,(by(try simp only[List.map_append,List.map_cons,List.map_nil]);exact Az 0 1 rfl rfl rfl rfl ((by repeat (first|exact Sub.nil|refine Sub.cons _ _ _ rfl rfl ?_|refine Sub.any _ _ ?_|refine Sub.sl _ _ _ _ _ rfl ?_|refine Sub.slnil _ _ _ rfl ?_))))⟩
   omega
  have hc4:=bp hb4
  have hnx:=bF hI (by omega) hc4
  refine BB (Ay (t_ (AP (m_ (h:=B8 (h:=a_ (h:=AO (?_))))))))
  refine AD ?_
  refine⟨_,_,?_,⟨_,k+1,_,by omega,by omega,(by(try simp only[List.length_append,List.length_cons,List.length_nil]);omega),rfl,hnx,rfl⟩,(by(try simp only[List.map_append,List.map_cons,List.map_nil]);exact Az 0 1 rfl rfl rfl rfl ((by repeat (first|exact Sub.nil|refine Sub.cons _ _ _ rfl rfl ?_|refine Sub.any _ _ ?_|refine Sub.sl _ _ _ _ _ rfl ?_|refine Sub.slnil _ _ _ rfl ?_))))⟩
  omega
 have hc1:=bp hb1
 refine BO (Aq (Aq (BQ (t_ (q_ (DT 23 (h:=AN 0 (h:=AN 1 (h:=K7 2 (h:=Pa 3 (h:=AN 4 (h:=?_))))))))))))
 refine Hu (j:=4) rfl (fun hb6=>?_) (fun hb6=>?_)
 ·have hc6:=bp hb6
  refine AN 5 (h:=?_)
  refine FL (i:=6) rfl (J3 (n:=0) Tryz.underlying9 rfl rfl rfl (by omega) ⟨rfl,rfl⟩) ?_
  refine Hz 7 (h:=Hy 8 (h:=AN 9 (h:=K7 10 (h:=Pa 11 (h:=AN 12 (h:=?_))))))
  refine Hu (j:=12) rfl (fun hb7=>?_) (fun hb7=>?_)
  ·have hc7:=bp hb7
   refine AN 13 (h:=AN 14 (h:=K7 15 (h:=PZ 16 (h:=?_))))
   refine FL (i:=17) rfl (J3 (n:=s.size - 1) Tryz.underlying9 rfl rfl (by omega) (by omega) ⟨rfl,rfl⟩) ?_
   refine Hz 18 (h:=Hy 19 (h:=BC 20 (h:=BC 21 (h:=BC 22 (h:=z_ (h:=t_ (A6 (?_))))))))
   refine AB ?_
   refine⟨ps,O9 hI (by omega),?_⟩
   (rw[OO (by omega),OP (by omega)];rfl)
  have hc7:=bp hb7
  refine BX 13 (h:=BX 14 (h:=BX 15 (h:=BX 16 (h:=BX 17 (h:=BX 18 (h:=Ft 19 (h:=BC 20 (h:=BC 21 (h:=BC 22 (h:=z_ (h:=t_ (A6 (?_)))))))))))))
  refine AB ?_
  refine⟨ps,O9 hI (by omega),?_⟩
  first|(rw[OO (by omega),OP (by omega)];rfl)|(rw[Qs (by omega),Qt (by omega)];rfl)|(exfalso;omega)
 have hc6:=bp hb6
 refine BX 5 (h:=BX 6 (h:=BX 7 (h:=Ft 8 (h:=AN 9 (h:=K7 10 (h:=Pa 11 (h:=AN 12 (h:=?_))))))))
 refine Hu (j:=12) rfl (fun hb8=>?_) (fun hb8=>?_)
 ·have hc8:=bp hb8
  refine AN 13 (h:=AN 14 (h:=K7 15 (h:=PZ 16 (h:=?_))))
  refine FL (i:=17) rfl (J3 (n:=s.size - 1) Tryz.underlying9 rfl rfl (by omega) (by omega) ⟨rfl,rfl⟩) ?_
  refine Hz 18 (h:=Hy 19 (h:=BC 20 (h:=BC 21 (h:=BC 22 (h:=z_ (h:=t_ (A6 (?_))))))))
  refine AB ?_
  refine⟨ps,O9 hI (by omega),?_⟩
  first|(rw[OO (by omega),OP (by omega)];rfl)|(rw[Qs (by omega),Qt (by omega)];rfl)|(exfalso;omega)
 have hc8:=bp hb8
 refine BX 13 (h:=BX 14 (h:=BX 15 (h:=BX 16 (h:=BX 17 (h:=BX 18 (h:=Ft 19 (h:=BC 20 (h:=BC 21 (h:=BC 22 (h:=z_ (h:=t_ (A6 (?_)))))))))))))
 refine AB ?_
 refine⟨ps,O9 hI (by omega),?_⟩
 first|(rw[OO (by omega),OP (by omega)];rfl)|(rw[Qs (by omega),Qt (by omega)];rfl)
theorem Ui(s:AE)(hs:s.size≤50000):AFn Tryz.prog 55 [.v (.string s)] (fun r=>r= .v (.bool (Dl s.data.toList))):=by
 have hsz:=Lib.size_eq s
 refine enter Tryz.func55 rfl rfl rfl rfl rfl 0 rfl ?_
 refine w_ (a_ (h:=e_ (w_ (m_ (h:=?_)))))
 refine A4 rfl (AK (Qv s (by omega)) ?_)
 rintro r ⟨ps,hps,rfl⟩
 have hpl:(ps.map Cz).length=ps.length:=by simp
 have hfl:=QE s.data.toList
 rw[←hps]at hfl
 have hpm:=Uh ps
 refine m_ (h:=x_ (h:=x_ (h:=x_ (h:=a_ (h:=a_ (h:=a_ (h:=e_ (w_ (a_ (h:=e_ (q_ (w_ (a_ (h:=e_ (Ao (?_))))))))))))))))
 refine Ba (fun m t=>∃(j:Nat) (t1:AE),j≤ps.length∧m=ps.length - j∧(∀i y,i<j→ps[i]?=some y→DU y=true)∧t1.data.toList=DC ((CA ps).take j)∧t=⟨look [(0, .v (.string s)),(3, .sl 1 (ps.map Cz) none),(6, .v (.string t1)),(7, .v (.int .i64 (j:Int)))],⟨[],[]⟩⟩) (ps.length) ((wk 0 0)) (⟨0,⟨#[]⟩,by omega,rfl,fun i y hi=>by omega,rfl,rfl⟩) ?_
 rintro m t ⟨j,t1,hj,rfl,ha,ht1,rfl⟩
 refine q_ (w_ (m_ (h:=m_ (h:=n_ (h:=BJ (h:=e_ (?_)))))))
 refine A8 rfl (fun hb1=>?_) (fun hb1=>?_)
 ·have hc1:=bp hb1
  obtain⟨hlt,x,hy,hrow, -⟩:=CW Cz hc1
  have ht2:t1.size≤s.size+1:=by rw[Lib.size_eq,ht1];exact Nat.le_trans (Yr _ _) (by omega)
  refine AG (q_ (Ao (q_ (w_ (m_ (h:=m_ (h:=?_)))))))
  refine A4 rfl (CS (n:=j) rfl rfl rfl hrow ?_)
  refine l_ (h:=?_)
  refine A4 rfl (AK (Pe x (by have:=Qu hps hy;omega)) ?_)
  rintro r rfl
  refine BA (h:=e_ (?_))
  refine A8 rfl (fun hb2=>?_) (fun hb2=>?_)
  ·have hc2:=bp hb2
   refine w_ (a_ (h:=e_ (A6 (A7 (AR (A7 (A7 (AR (A7 (?_))))))))))
   refine AB ?_
   exact vb (bH hps hy hc2).symm
  have hc2:=bp hb2
  refine AG (AP (m_ (h:=m_ (h:=m_ (h:=?_)))))
  refine A4 rfl (CS (n:=j) rfl rfl rfl hrow ?_)
  refine l_ (h:=?_)
  refine A4 rfl (Ej rfl rfl (by have:=Qu hps hy;show 1+x.size≤_;omega) ?_)
  refine A4 rfl (Ej rfl rfl (by have:=Qu hps hy;rw[ByteArray.size_append];show t1.size+(1+x.size)≤_;omega) ?_)
  refine a_ (h:=AO (Ay (t_ (AP (m_ (h:=B8 (h:=a_ (h:=AO (?_)))))))))
  refine AD ?_
  refine⟨_,_,?_,⟨j+1,t1++(⟨#[47]⟩++x),by omega,rfl,Dw hy ha hc2,bG hy ht1,rfl⟩,(wk 0 0)⟩
  omega
 have hc1:=bp hb1
 refine BO (Aq (Aq (BQ (t_ (w_ (m_ (h:=AQ (h:=m_ (h:=?_)))))))))
 refine Ax false rfl rfl (fun hb3=>?_) (fun hb3=>?_)
 ·have hc3:=bp hb3
  refine A3 (h:=A3 (h:=A3 (h:=A3 (h:=ED (h:=ED (h:=ED (h:=A3 (h:=Af (h:=a_ (h:=e_ (A6 (?_))))))))))))
  refine AB ?_
  exact vb (by rw[hc3];rfl)
 have hc3:=bp hb3
 refine m_ (h:=n_ (h:=CZ (h:=m_ (h:=?_))))
 refine Ax true rfl rfl (fun hb4=>?_) (fun hb4=>?_)
 ·have hc4:=bp hb4
  refine m_ (h:=m_ (h:=AQ (h:=Af (h:=Am (h:=a_ (h:=e_ (A6 (?_))))))))
  refine AB ?_
  have e:=Ck Cz hj hc1
  subst e
  exact vb (bJ hps ha ht1 hc3 (by omega)).symm
 have hc4:=bp hb4
 refine A3 (h:=A3 (h:=A3 (h:=Am (h:=Am (h:=a_ (h:=e_ (A6 (?_))))))))
 refine AB ?_
 have e:=Ck Cz hj hc1
 subst e
 exact vb (bK hps hc3 (by omega)).symm
end
theorem Uj{f:AZ}{a:A9}(h:AX f a=true):(Aa f a).ino=a.2:=by
 obtain⟨q,d,m,_,_,_,h4,h5,_⟩:=JD (f:=f) (a:=a) (by rw[h];simp)
 rw[h5,h4]
theorem Qw{s:Spc}{d:Int}(h:(Bd s d).isSome=true):Bd s d=some ((Bd s d).getD (0,0)):=by
 cases ho:Bd s d with
 |none=>rw[ho]at h;cases h
 |some o=>rfl
theorem bL{s:Spc}{d:Int}(h:(Bd s d).isSome=false):Bd s d=none:=by
 cases ho:Bd s d with
 |none=>rfl
 |some o=>rw[ho]at h;cases h
theorem OQ{s:Spc}{a:A9}(k:Nat)(h:AX s.files a=false):Dd s (k+1) a=(0,0):=by unfold Dd;rw[h];rfl
theorem Uk{s:Spc}{a:A9}(k:Nat)(h:AX s.files a=true)(h1:¬a.2=1):Dd s (k+1) a=(a.1,(Aa s.files a).parent):=by unfold Dd;rw[if_pos h,if_pos h1]
theorem Ul{s:Spc}{a:A9}(k:Nat)(h:AX s.files a=true)(h1:a.2=1)(ho:(Bd s a.1).isSome=true):Dd s (k+1) a=Dd s k ((Bd s a.1).getD (0,0)):=by
 conv=>lhs;unfold Dd
 rw[if_pos h,if_neg (by simpa using h1),Qw ho]
 rfl
theorem Um{s:Spc}{a:A9}(k:Nat)(h:AX s.files a=true)(h1:a.2=1)(ho:(Bd s a.1).isSome=false):Dd s (k+1) a=a:=by
 conv=>lhs;unfold Dd
 rw[if_pos h,if_neg (by simpa using h1),bL ho]
section
theorem Un{s:Spc}(hs:SpcB s)(hv:SpcV s)(a:A9)
    (hrec:AX s.files a=true→∀b,Cc s a=some b→AFn Tryz.prog 102 [.agg (Ai s), .agg (AA b)] (fun r=>r= .tup [.v (.string (Be s b).1), .v (.bool (Be s b).2)])):
    AFn Tryz.prog 102 [.agg (Ai s), .agg (AA a)] (fun r=>r= .tup [.v (.string (Be s a).1), .v (.bool (Be s a).2)]):=by
 have hnm:=Ql hv.files a
 have hwz:=Qr hv
 refine enter Tryz.func102 rfl rfl rfl rfl rfl 0 rfl ?_
 refine w_ (b_ (h:=b_ (h:=a_ (h:=a_ (h:=e_ (q_ (w_ (f_ (h:=l_ (h:=l_ (h:=?_)))))))))))
 refine A4 rfl (AK (GO s.files a hs.files) ?_)
 rintro r rfl
 refine BA (h:=m_ (h:=?_))
 refine Ax false rfl rfl (fun hb1=>?_) (fun hb1=>?_)
 ·have hc1:=bp hb1
  refine A3 (h:=A3 (h:=A3 (h:=A3 (h:=A3 (h:=Af (h:=e_ (Bf (h:=w_ (a_ (h:=a_ (h:=e_ (A6 (A7 (?_))))))))))))))
  refine AB ?_
  (rw[LF hv (by simp_all)];rfl)
 have hc1:=bp hb1
 refine l_ (h:=f_ (h:=l_ (h:=?_)))
 refine B6 (AK (Kw s a.1 hs) ?_)
 rintro r rfl
 refine BA (h:=Am (h:=e_ (?_)))
 refine A8 rfl (fun hb2=>?_) (fun hb2=>?_)
 ·have hc2:=bp hb2
  refine w_ (a_ (h:=a_ (h:=e_ (A6 (A7 (?_))))))
  refine AB ?_
  (rw[LF hv (by simp_all)];rfl)
 have hc2:=bp hb2
 refine AG (q_ (w_ (f_ (h:=l_ (h:=AQ (h:=e_ (?_)))))))
 refine A8 rfl (fun hb3=>?_) (fun hb3=>?_)
 ·have hc3:=bp hb3
  refine q_ (w_ (l_ (h:=f_ (h:=l_ (h:=?_)))))
  refine A4 rfl (AK (Nx s a.1 hs) ?_)
  rintro r rfl
  refine m_ (h:=x_ (h:=x_ (h:=AW (h:=s_ (h:=a_ (h:=e_ (w_ (m_ (h:=e_ (?_))))))))))
  refine A8 rfl (fun hb4=>?_) (fun hb4=>?_)
  ·have hc4:=bp hb4
   have hst:Cc s a=some ((Bd s a.1).getD (0,0)):=by unfold Cc;rw[if_neg (by simpa using hc3)];exact Qw hc4
   obtain⟨hw1,hw2⟩:=UU hv hc1 hc2 (fun e=>by rw[e,Qq hv]at hc4;cases hc4) hst
   rw[if_pos hc3]at hw1
   refine w_ (l_ (h:=l_ (h:=?_)))
   refine A4 rfl (AK (hrec hc1 _ hst) ?_)
   rintro r rfl
   skip
   refine x_ (h:=x_ (h:=a_ (h:=a_ (h:=e_ (A6 (A7 (A7 (?_))))))))
   refine AB ?_
   first|(rw[LF hv (by simp_all)];rfl)|(rw[hw1];first|rfl|(rw[←hw2];rfl))
  have hc4:=bp hb4
  have h00:a=(0,1):=by
   refine Prod.ext ?_ hc3
   have:=hc2
   unfold Bl at this
   rw[hc4,Bool.false_or]at this
   exact of_decide_eq_true this
  refine AG (w_ (a_ (h:=a_ (h:=e_ (A6 (A7 (?_)))))))
  refine AB ?_
  first|(rw[LF hv (by simp_all)];rfl)|(rw[hw1];first|rfl|(rw[←hw2];rfl))|(rw[h00,aY hv (by rw[←h00];exact hc1)];rfl)
 have hc3:=bp hb3
 have hst:Cc s a=some (a.1,(Aa s.files a).parent):=if_pos hc3
 obtain⟨hw1,hw2⟩:=UU hv hc1 hc2 (fun e=>hc3 (by rw[e])) hst
 rw[if_neg hc3]at hw1
 refine AG (w_ (f_ (h:=l_ (h:=l_ (h:=?_)))))
 refine A4 rfl (AK (Dk s.files a hs.files) ?_)
 rintro r rfl
 refine m_ (h:=x_ (h:=x_ (h:=AW (h:=s_ (h:=a_ (h:=e_ (w_ (l_ (h:=f_ (h:=l_ (h:=f_ (h:=l_ (h:=AT (h:=?_))))))))))))))
 refine A4 rfl (AK (hrec hc1 _ hst) ?_)
 rintro r rfl
 skip
 refine m_ (h:=x_ (h:=x_ (h:=a_ (h:=a_ (h:=e_ (w_ (m_ (h:=f_ (h:=l_ (h:=l_ (h:=?_)))))))))))
 refine A4 rfl (AK (bD s a hs) ?_)
 rintro r rfl
 refine A4 rfl (AK (Ub (Be s (a.1,(Aa s.files a).parent)).1 (C7 s a) (by have:=hwz (a.1,(Aa s.files a).parent);omega) (by omega)) ?_)
 rintro r rfl
 refine m_ (h:=a_ (h:=a_ (h:=e_ (A6 (?_)))))
 refine AB ?_
 first|(rw[LF hv (by simp_all)];rfl)|(rw[hw1];first|rfl|(rw[←hw2];rfl))
theorem bM{s:Spc}(hs:SpcB s)(hv:SpcV s)(a:A9):AFn Tryz.prog 102 [.agg (Ai s), .agg (AA a)] (fun r=>r= .tup [.v (.string (Be s a).1), .v (.bool (Be s a).2)]):=by
 have key:∀(k:Nat) (a:A9),ends s k a→AFn Tryz.prog 102 [.agg (Ai s), .agg (AA a)] (fun r=>r= .tup [.v (.string (Be s a).1), .v (.bool (Be s a).2)]):=by
  intro k
  induction k with
  |zero=>intro a h;exact Un hs hv a fun hd=>by rw[show AX s.files a=false from h]at hd;cases hd
  |succ k ih=>intro a h;exact Un hs hv a fun hd b hb=>ih b (h.resolve_left (by rw[hd];simp) b hb)
 exact key _ a (Gu hv a)
theorem bO{s:Spc}(hs:SpcB s)(a:A9)(p:Nat)(hrec:(Bd s a.1).isSome=true→AFn Tryz.prog 101 [.agg (Ai s), .agg (AA ((Bd s a.1).getD (0,0)))] (fun r=>r= .agg (AA (Dd s p ((Bd s a.1).getD (0,0)))))):
    AFn Tryz.prog 101 [.agg (Ai s), .agg (AA a)] (fun r=>r= .agg (AA (Dd s (p+1) a))):=by
 have hde:=Fv s.files a
 refine enter Tryz.func101 rfl rfl rfl rfl rfl 0 rfl ?_
 refine w_ (b_ (h:=b_ (h:=AW (h:=e_ (w_ (f_ (h:=l_ (h:=l_ (h:=?_)))))))))
 refine A4 rfl (AK (Dk s.files a hs.files) ?_)
 rintro r rfl
 refine m_ (h:=x_ (h:=x_ (h:=AW (h:=s_ (h:=a_ (h:=e_ (q_ (w_ (m_ (h:=BA (h:=m_ (h:=?_))))))))))))
 refine Ax false rfl rfl (fun hb1=>?_) (fun hb1=>?_)
 ·have hc1:=bp hb1
  refine A3 (h:=A3 (h:=A3 (h:=Af (h:=e_ (Bf (h:=w_ (AT (h:=s_ (h:=e_ (A6 (A7 (?_))))))))))))
  refine AB ?_
  rw[OQ p (by rw[hde,hc1];rfl)]
  rfl
 have hc1:=bp hb1
 refine f_ (h:=l_ (h:=BF (h:=Am (h:=e_ (?_)))))
 refine A8 rfl (fun hb2=>?_) (fun hb2=>?_)
 ·have hc2:=bp hb2
  refine w_ (AT (h:=s_ (h:=e_ (A6 (A7 (?_))))))
  refine AB ?_
  rw[OQ p (by rw[hde,decide_eq_false hc2,Bool.and_false])]
  rfl
 have hc2:=bp hb2
 refine AG (q_ (w_ (f_ (h:=l_ (h:=BF (h:=e_ (?_)))))))
 refine A8 rfl (fun hb3=>?_) (fun hb3=>?_)
 ·have hc3:=bp hb3
  refine w_ (f_ (h:=l_ (h:=f_ (h:=l_ (h:=AT (h:=s_ (h:=e_ (A6 (A7 (?_))))))))))
  refine AB ?_
  rw[Uk p (by rw[hde,hc1,decide_eq_true hc2];rfl) hc3]
  rfl
 have hc3:=bp hb3
 refine AG (q_ (w_ (l_ (h:=f_ (h:=l_ (h:=?_))))))
 refine A4 rfl (AK (Nx s a.1 hs) ?_)
 rintro r rfl
 refine m_ (h:=x_ (h:=x_ (h:=AW (h:=s_ (h:=a_ (h:=e_ (w_ (m_ (h:=e_ (?_))))))))))
 refine A8 rfl (fun hb4=>?_) (fun hb4=>?_)
 ·have hc4:=bp hb4
  refine w_ (l_ (h:=l_ (h:=?_)))
  refine A4 rfl (AK (hrec hc4) ?_)
  rintro r rfl
  refine s_ (h:=e_ (A6 (A7 (?_))))
  refine AB ?_
  rw[Ul p (by rw[hde,hc1,decide_eq_true hc2];rfl) hc3 hc4]
  rfl
 have hc4:=bp hb4
 refine AG (w_ (l_ (h:=s_ (h:=e_ (A6 (?_))))))
 refine AB ?_
 rw[Um p (by rw[hde,hc1,decide_eq_true hc2];rfl) hc3 hc4]
 rfl
theorem bQ{s:Spc}(hs:SpcB s)(hv:SpcV s):∀(p:Nat) (a:A9),Jk s a.1<p→AFn Tryz.prog 101 [.agg (Ai s), .agg (AA a)] (fun r=>r= .agg (AA (Dd s p a))):=by
 intro p
 induction p with
 |zero=>intro a h;omega
 |succ p ih=>intro a hp;exact bO hs a p fun ho=>ih _ (by have:=UG hv (Qw ho);omega)
theorem bR{s:Spc}(hs:SpcB s)(hv:SpcV s)(a:A9):AFn Tryz.prog 135 [.agg (Ai s), .agg (AA a)] (fun r=>r= .agg (AA (Dd s (s.mounts.length+1) a))):=by
 have hfew:=hs.few
 have hml:(s.mounts.map Co).length=s.mounts.length:=by simp
 refine enter Tryz.func135 rfl rfl rfl rfl rfl 0 rfl ?_
 refine w_ (b_ (h:=b_ (h:=AW (h:=e_ (q_ (w_ (f_ (h:=l_ (h:=n_ (h:=B8 (h:=m_ (h:=e_ (Ao (?_))))))))))))))
 refine Ba (fun m t=>∃(j:Nat) (b:A9),j≤s.mounts.length+1∧m=s.mounts.length+1 - j∧Dd s (s.mounts.length+1 - j) b=Dd s (s.mounts.length+1) a∧t=⟨look [(2, .bp 0 0),(3, .bp 1 0),(4, .bp 2 0),(11, .v (.int .i64 (((s.mounts.map Co).length:Int)+1))),(12, .v (.int .i64 (j:Int)))],⟨[Ai s,AA b,[.v (.int .i64 0), .v (.int .i64 0)]],[]⟩⟩) (s.mounts.length+1) ((wk 3 0)) (⟨0,a,by omega,rfl,rfl,rfl⟩) ?_
 rintro m t ⟨j,b,hj,rfl,hit,rfl⟩
 have hde:=Fv s.files b
 refine w_ (BJ (h:=e_ (q_ (?_))))
 refine A8 rfl (fun hb1=>?_) (fun hb1=>?_)
 ·have hc1:=bp hb1
  obtain⟨k,hk⟩:∃k,s.mounts.length+1 - j=k+1:=⟨s.mounts.length - j,by omega⟩
  rw[hk]at hit
  refine AG (q_ (Ao (w_ (f_ (h:=l_ (h:=l_ (h:=?_)))))))
  refine A4 rfl (AK (Hb s.files b hs.files) ?_)
  rintro r rfl
  refine m_ (h:=x_ (h:=x_ (h:=AW (h:=s_ (h:=a_ (h:=e_ (q_ (w_ (m_ (h:=BA (h:=m_ (h:=?_))))))))))))
  refine Ax false rfl rfl (fun hb2=>?_) (fun hb2=>?_)
  ·have hc2:=bp hb2
   refine A3 (h:=A3 (h:=A3 (h:=Af (h:=e_ (Bf (h:=w_ (AT (h:=s_ (h:=e_ (A6 (A7 (AR (A7 (A7 (AR (A7 (?_)))))))))))))))))
   refine AB ?_
   rw[←hit,OQ k (by rw[hde,hc2];rfl)]
   rfl
  have hc2:=bp hb2
  refine f_ (h:=l_ (h:=BF (h:=Am (h:=e_ (?_)))))
  refine A8 rfl (fun hb3=>?_) (fun hb3=>?_)
  ·have hc3:=bp hb3
   refine w_ (AT (h:=s_ (h:=e_ (A6 (A7 (AR (A7 (A7 (AR (A7 (?_)))))))))))
   refine AB ?_
   rw[←hit,OQ k (by rw[hde,decide_eq_false hc3,Bool.and_false])]
   rfl
  have hc3:=bp hb3
  refine AG (q_ (w_ (f_ (h:=l_ (h:=BF (h:=e_ (?_)))))))
  refine A8 rfl (fun hb4=>?_) (fun hb4=>?_)
  ·have hc4:=bp hb4
   have hdd:AX s.files b=true:=by rw[hde,hc2,decide_eq_true hc3];rfl
   have hb1:¬b.2=1:=by rw[←Uj hdd];exact hc4
   refine w_ (f_ (h:=l_ (h:=f_ (h:=l_ (h:=AT (h:=s_ (h:=e_ (A6 (A7 (AR (A7 (A7 (AR (A7 (?_)))))))))))))))
   refine AB ?_
   rw[←hit,Uk k hdd hb1]
   rfl
  have hc4:=bp hb4
  have hdd:AX s.files b=true:=by rw[hde,hc2,decide_eq_true hc3];rfl
  have hb1:b.2=1:=by rw[←Uj hdd];exact hc4
  refine AG (w_ (l_ (h:=f_ (h:=l_ (h:=?_)))))
  refine A4 rfl (AK (Pi s b.1 hs) ?_)
  rintro r rfl
  refine m_ (h:=x_ (h:=x_ (h:=AW (h:=s_ (h:=a_ (h:=e_ (q_ (w_ (m_ (h:=BA (h:=m_ (h:=?_))))))))))))
  refine Ax false rfl rfl (fun hb5=>?_) (fun hb5=>?_)
  ·have hc5:=bp hb5
   refine A3 (h:=A3 (h:=A3 (h:=Af (h:=e_ (Bf (h:=w_ (l_ (h:=s_ (h:=e_ (A6 (A7 (AR (A7 (A7 (AR (A7 (?_)))))))))))))))))
   refine AB ?_
   rw[←hit,Um k hdd hb1 hc5]
   rfl
  have hc5:=bp hb5
  refine f_ (h:=l_ (h:=AQ (h:=Am (h:=e_ (?_)))))
  refine A8 rfl (fun hb6=>?_) (fun hb6=>?_)
  ·have hc6:=bp hb6
   refine w_ (l_ (h:=s_ (h:=e_ (A6 (A7 (AR (A7 (A7 (AR (A7 (?_)))))))))))
   refine AB ?_
   exfalso
   rw[hc6,Qq hv]at hc5
   cases hc5
  have hc6:=bp hb6
  refine AG (AP (l_ (h:=s_ (h:=AO (Ay (t_ (AP (B8 (h:=m_ (h:=AO (?_)))))))))))
  refine AD ?_
  refine⟨_,_,?_,⟨j+1,((Bd s b.1).getD (0,0)),by omega,rfl,(by rw[←hit,Ul k hdd hb1 hc5,show s.mounts.length+1 - (j+1)=k by omega]),rfl⟩,(wk 3 0)⟩
  omega
 have hc1:=bp hb1
 refine BO (Aq (Aq (BQ (t_ (w_ (l_ (h:=s_ (h:=e_ (A6 (?_))))))))))
 refine AB ?_
 have ej:s.mounts.length+1 - j=0:=by omega
 rw[ej]at hit
 rw[←hit]
 rfl
end
end Go.Proofs.YtbglbmnhgbgelaaGreatDoor
namespace Go.Proofs.YtbglbmnhgbgelaaGreatDoor
section
variable {s:Spc}(hv:SpcV s)
include hv
omit hv in
theorem Qx{a:A9}(h:(Be s a).2=true):AX s.files a=true∧Bl s a.1=true:=by
 unfold Be at h
 split at h
 ·rename_i c;exact⟨c.1,c.2.1⟩
 cases h
theorem Uo{d:Int}(h0:0≤d)(h1:d<(s.files.length:Int)):AX s.files (d,1)=true:=by
 obtain⟨q,rfl⟩:=Int.eq_ofNat_of_zero_le h0
 have hq:s.files[q]?=some s.files[q]:=B3 (by omega)
 obtain⟨r,rest,hr,h2,h3,_⟩:=(hv.files.vd _ (Au hq)).root
 exact(KQ (Qo hv hq (by rw[hr];exact List.mem_cons_self ..) h2)).2 h3
end
end Go.Proofs.YtbglbmnhgbgelaaGreatDoor
namespace Go.Proofs.YtbglbmnhgbgelaaGreatDoor
structure Fnd where
 dir:A9
 name:AE
 file:A9
 ex:Bool
 slash:Bool
 path:AE
def DO:Fnd:=⟨(0,0),⟨#[]⟩,(0,0),false,false,⟨#[]⟩⟩
def Ak(x:Fnd):List AV:=[.v (.int .i64 x.dir.1), .v (.int .i64 x.dir.2), .v (.string x.name), .v (.int .i64 x.file.1), .v (.int .i64 x.file.2), .v (.bool x.ex), .v (.bool x.slash), .v (.string x.path)]
def Cm(s:AE):List AE:=(Bq s.data.toList).map fun l=>⟨l.toArray⟩
theorem Up(s:AE):CA (Cm s)=Bq s.data.toList:=by
 unfold CA Cm
 rw[List.map_map]
 have:((fun x:AE=>x.data.toList) ∘ fun l:Bs=>(⟨l.toArray⟩:AE))=id:=by funext l;simp
 rw[this,List.map_id]
theorem Uq:∀{a b:List AE},CA a=CA b→a=b
 |[],[],_=>rfl
 |[],_::_,h=>by simp[CA]at h
 |_::_,[],h=>by simp[CA]at h
 |x::a,y::b,h=>by
   simp only[CA,List.map_cons,List.cons.injEq]at h
   rw[Mr h.1,Uq (a:=a) (b:=b) h.2]
theorem Qy{s:AE}{ps:List AE}(h:CA ps=Bq s.data.toList):ps=Cm s:=Uq (h.trans (Up s).symm)
theorem LG(s:AE):(Cm s).length≤s.size+1:=by
 have h1:=Uh (Cm s)
 have h2:=QE s.data.toList
 rw[←Up]at h2
 rw[Lib.size_eq]
 omega
def Dq(s:Spc):A9:=Cp s s.mounts.length (0,1)
structure Lk where
 ps:List AE
 dir:A9
 name:AE
 file:A9
 ex:Bool
 links:Nat
abbrev OR:AE:=⟨#[46]⟩
abbrev Ms:AE:=⟨#[46,46]⟩
def Cd(s:Spc)(fl:Bool)(p:AE)(ps:List AE)(a:A9)(lk:Nat):Int ⊕ Lk:=
 if AX s.files a=false then .inl 20
 else if 12<p.size then .inl 36
 else if p=OR then .inr ⟨ps,a,⟨#[]⟩,a,true,lk⟩
 else if p=Ms then .inr ⟨ps,Cp s s.mounts.length (Dd s (s.mounts.length+1) a),⟨#[]⟩,Cp s s.mounts.length (Dd s (s.mounts.length+1) a),true,lk⟩
 else if(AM s.files a p).2≠0 then(if ps≠[]∨DU p=false then .inl 2 else .inr ⟨[],a,p,(0,0),false,lk⟩)
 else if(Aa s.files (AM s.files a p).1).kind=3∧(ps≠[]∨fl=true)then
  (if lk=8 then .inl 40 else
    .inr ⟨Cm (Aa s.files (AM s.files a p).1).target++ps,if D8 (Aa s.files (AM s.files a p).1).target=true then Dq s else a,⟨#[]⟩,if D8 (Aa s.files (AM s.files a p).1).target=true then Dq s else a,true,lk+1⟩)
 else .inr ⟨ps,a,p,Cp s s.mounts.length (AM s.files a p).1,true,lk⟩
def OS:Lk:=⟨[],(0,0),⟨#[]⟩,(0,0),false,0⟩
def Gw(s:Spc)(fl:Bool):Nat→Lk→Int×Lk
 |0,σ=>(0,σ)
 |k+1,σ=>match σ.ps with
   |[]=>(0,σ)
   |p::ps=>match Cd s fl p ps σ.file σ.links with
     | .inl e=>(e,OS)
     | .inr τ=>Gw s fl k τ
def Ec(σ:Lk):Nat:=(8 - σ.links) * 200+σ.ps.length
section
variable {s:Spc}(hv:FlsV s.files)
include hv
theorem Qz{fl:Bool}{p:AE}{ps:List AE}{a:A9}{lk:Nat}{τ:Lk}(h8:lk≤8)(h:Cd s fl p ps a lk= .inr τ):τ.links≤8∧Ec τ<(8 - lk) * 200+(ps.length+1):=by
 unfold Cd at h
 split at h
 ·cases h
 split at h
 ·cases h
 split at h
 ·injection h with h;subst h;exact⟨h8,by unfold Ec;simp only;omega⟩
 split at h
 ·injection h with h;subst h;exact⟨h8,by unfold Ec;simp only;omega⟩
 split at h
 ·split at h
  ·cases h
  injection h with h;subst h;exact⟨h8,by unfold Ec;simp only[List.length_nil];omega⟩
 split at h
 ·split at h
  ·cases h
  rename_i h9
  injection h with h
  subst h
  have ht:=Mj hv (AM s.files a p).1
  have hl:=LG (Aa s.files (AM s.files a p).1).target
  refine⟨by simp only;omega,?_⟩
  unfold Ec
  simp only[List.length_append]
  have:(8 - lk) * 200=(8 - (lk+1)) * 200+200:=by
   rw[show 8 - lk=(8 - (lk+1))+1 by omega,Nat.add_mul]
  omega
 injection h with h;subst h;exact⟨h8,by unfold Ec;simp only;omega⟩
theorem bS(fl:Bool):∀(k k':Nat) (σ:Lk),σ.links≤8→Ec σ≤k→Ec σ≤k'→Gw s fl k σ=Gw s fl k' σ:=by
 intro k
 induction k with
 |zero=>
   intro k' σ h8 h h'
   have he:σ.ps=[]:=by
    unfold Ec at h
    exact List.eq_nil_of_length_eq_zero (by omega)
   cases k' with
   |zero=>rfl
   |succ k'=>unfold Gw;rw[he]
 |succ k ih=>
   intro k' σ h8 h h'
   cases hps:σ.ps with
   |nil=>cases k'<;>(unfold Gw;rw[hps])
   |cons p ps=>
     have hm:Ec σ=(8 - σ.links) * 200+(ps.length+1):=by unfold Ec;rw[hps];rfl
     cases k' with
     |zero=>rw[hm]at h';omega
     |succ k'=>
       unfold Gw
       rw[hps]
       simp only
       cases hs:Cd s fl p ps σ.file σ.links with
       |inl e=>rfl
       |inr τ=>
         simp only
         obtain⟨h1,h2⟩:=Qz hv h8 hs
         exact ih k' τ h1 (by omega) (by omega)
end
def Dr(s:Spc)(fl:Bool)(σ:Lk):Int×Lk:=Gw s fl (Ec σ) σ
theorem R4{s:Spc}{fl:Bool}{σ:Lk}(h:σ.ps=[]):Dr s fl σ=(0,σ):=by
 unfold Dr
 cases Ec σ with
 |zero=>rfl
 |succ k=>unfold Gw;rw[h]
theorem Ur{s:Spc}(hv:FlsV s.files){fl:Bool}{σ:Lk}{p:AE}{ps:List AE}(h8:σ.links≤8)(h:σ.ps=p::ps):Dr s fl σ=match Cd s fl p ps σ.file σ.links with
    | .inl e=>(e,OS)
    | .inr τ=>Dr s fl τ:=by
 have hm:Ec σ=((8 - σ.links) * 200+ps.length)+1:=by unfold Ec;rw[h];rfl
 unfold Dr
 rw[hm]
 conv=>lhs;unfold Gw
 rw[h]
 simp only
 cases hs:Cd s fl p ps σ.file σ.links with
 |inl e=>rfl
 |inr τ=>
   simp only
   obtain⟨h1,h2⟩:=Qz hv h8 hs
   exact bS hv fl _ _ τ h1 (by omega) (Nat.le_refl _)
def Gx(s:Spc)(sl:Bool)(τ:Lk):Fnd:=⟨τ.dir,τ.name,τ.file,τ.ex,sl,if(Be s τ.dir).2=true then(if τ.name=⟨#[]⟩then(Be s τ.dir).1 else DD (Be s τ.dir).1 τ.name)else⟨#[]⟩⟩
def G6(ps:List AE)(a:A9):Lk:=⟨ps,a,⟨#[]⟩,a,true,0⟩
def Bh(s:Spc)(start:A9)(p:AE)(fl:Bool):Fnd×Int:=
 if p=⟨#[]⟩then(DO,2)else if 128<p.size then(DO,36)
 else if AX s.files (if D8 p=true then Dq s else start)=false then(DO,2)
 else if(Dr s (fl||BG p) (G6 (Cm p) (if D8 p=true then Dq s else start))).1≠0 then(DO,(Dr s (fl||BG p) (G6 (Cm p) (if D8 p=true then Dq s else start))).1)
 else if BG p=true∧(Dr s (fl||BG p) (G6 (Cm p) (if D8 p=true then Dq s else start))).2.ex=true∧AX s.files (Dr s (fl||BG p) (G6 (Cm p) (if D8 p=true then Dq s else start))).2.file=false then(DO,20)
 else(Gx s (BG p) (Dr s (fl||BG p) (G6 (Cm p) (if D8 p=true then Dq s else start))).2,0)
end Go.Proofs.YtbglbmnhgbgelaaGreatDoor
namespace Go.Proofs.YtbglbmnhgbgelaaGreatDoor
open Go.RowKit
structure Dsc where
 fd:Int
 file:A9
 flags:Int
structure Prc where
 pid:Int
 ppid:Int
 uid:Int
 euid:Int
 gid:Int
 egid:Int
 auid:Int
 ses:Int
 cwd:A9
 comm:AE
 exe:AE
 opens:List Dsc
 audited:Bool
structure Tab where
 next:Int
 nextS:Int
 ps:List Prc
structure Syst where
 spc:Spc
 tab:Tab
structure Cal where
 num:Int
 a0:Int
 a1:Int
 a2:Int
 a3:Int
 paths:List AE
 args:List AE
structure Res where
 exit:Int
 child:Int
 gone:Int
 items:List Itm
 changes:List Dj
structure Wrk where
 s:Syst
 p:Prc
 c:Cal
 found:List Fnd
 r:Res
def bT:Prc:=⟨0,0,0,0,0,0,0,0,(0,0),⟨#[]⟩,⟨#[]⟩,[],false⟩
def DH:Tab:=⟨0,0,[]⟩
def DW:Res:=⟨0,0,0,[],[]⟩
def LH(cwd:A9):Tab:=⟨2,1,[⟨1,0,0,0,0,0,4294967295,4294967295,cwd,⟨#[105,110,105,116]⟩,⟨#[47,105,110,105,116]⟩,[],true⟩]⟩
def LJ(t:Tab)(pid:Int):Option Prc:=t.ps.find? fun p=>decide (p.pid=pid)
def Bz(t:Tab)(pid:Int):Bool:=(LJ t pid).isSome
def AU(t:Tab)(pid:Int):Prc:=(LJ t pid).getD bT
def FN(t:Tab)(p:Prc):Tab:=⟨t.next,t.nextS,t.ps.map fun x=>if x.pid=p.pid then p else x⟩
def Ed(t:Tab)(pid:Int):Tab×Int×Int:=
 if Bz t pid=false then(DH,0,3)else if 16≤(t.ps.length:Int)∨t.next=1073741824 then(DH,0,11)
 else(⟨t.next+1,t.nextS,t.ps++[{AU t pid with pid:=t.next,ppid:=pid}]⟩,t.next,0)
def Fa(pid:Int)(p:Prc):Prc:=if p.ppid=pid then{p with ppid:=1}else p
def Fb(t:Tab)(pid:Int):Tab×Int:=
 if Bz t pid=false then(DH,3)else if pid=1 then(DH,1)
 else(⟨t.next,t.nextS,(t.ps.filter fun p=>decide (p.pid≠pid)).map (Fa pid)⟩,0)
def Ds(priv:Bool)(real eff n:Int):Int×Int×Int:=if priv=true then(n,n,0)else if n=real∨n=eff then(real,n,0)else(0,0,1)
def GV(n:Int):Bool:=decide (0≤n)&&decide (n<4294967295)
def Fc(t:Tab)(pid u:Int):Tab×Int:=
 if Bz t pid=false then(DH,3)else if GV u=false then(DH,22)
 else if(Ds (decide ((AU t pid).euid=0)) (AU t pid).uid (AU t pid).euid u).2.2≠0 then(DH,(Ds (decide ((AU t pid).euid=0)) (AU t pid).uid (AU t pid).euid u).2.2)
 else(FN t {AU t pid with uid:=(Ds (decide ((AU t pid).euid=0)) (AU t pid).uid (AU t pid).euid u).1,euid:=(Ds (decide ((AU t pid).euid=0)) (AU t pid).uid (AU t pid).euid u).2.1},0)
def Fd(t:Tab)(pid u:Int):Tab×Int:=
 if Bz t pid=false then(DH,3)else if GV u=false then(DH,22)
 else if(Ds (decide ((AU t pid).euid=0)) (AU t pid).gid (AU t pid).egid u).2.2≠0 then(DH,(Ds (decide ((AU t pid).euid=0)) (AU t pid).gid (AU t pid).egid u).2.2)
 else(FN t {AU t pid with gid:=(Ds (decide ((AU t pid).euid=0)) (AU t pid).gid (AU t pid).egid u).1,egid:=(Ds (decide ((AU t pid).euid=0)) (AU t pid).gid (AU t pid).egid u).2.1},0)
def EV(t:Tab)(pid auid:Int):Tab×Int:=
 if Bz t pid=false then(DH,3)else if GV auid=false then(DH,22)
 else if(AU t pid).auid≠4294967295∧(AU t pid).euid≠0 then(DH,1)else if t.nextS=1073741824 then(DH,11)
 else(⟨t.next,t.nextS+1,(FN t {AU t pid with auid:=auid,ses:=t.nextS}).ps⟩,0)
def EL:Nat→List Dsc→Nat
 |k,[]=>k
 |k,d::r=>if d.fd=(k:Int)then EL (k+1) r else k
def LL(l:List Dsc)(fd:Nat)(x:Dsc):List Dsc:=l.take fd++x::l.drop fd
def EW(t:Tab)(pid:Int)(a:A9)(flags:Int):Tab×Int×Int:=
 if Bz t pid=false then(DH,0,3)else if 8≤((AU t pid).opens.length:Int)then(DH,0,24)
 else(FN t {AU t pid with opens:=LL (AU t pid).opens (EL 0 (AU t pid).opens) ⟨(EL 0 (AU t pid).opens:Nat),a,flags⟩},(EL 0 (AU t pid).opens:Nat),0)
def GW(t:Tab)(pid fd:Int):Tab×Int:=
 if Bz t pid=false then(DH,3)else if(((AU t pid).opens.filter fun d=>decide (d.fd≠fd)).length:Int)=((AU t pid).opens.length:Int)then(DH,9)
 else(FN t {AU t pid with opens:=(AU t pid).opens.filter fun d=>decide (d.fd≠fd)},0)
def Gy(t:Tab)(pid:Int)(dir:A9):Tab×Int:=if Bz t pid=false then(DH,3)else(FN t {AU t pid with cwd:=dir},0)
def Gz(t:Tab)(pid:Int)(exe comm:AE):Tab×Int:=if Bz t pid=false then(DH,3)else(FN t {AU t pid with exe:=exe,comm:=comm},0)
def FO(t:Tab)(pid target:Int)(ends:Bool):Tab×Int:=
 if Bz t pid=false then(DH,3)else if Bz t target=false then(DH,3)
 else if target=1∨(AU t pid).euid≠0∧(AU t pid).euid≠(AU t target).uid then(DH,1)
 else if ends=true then Fb t target else(t,0)
def E7:List (AE×Int×Int×Int×Int):=[(⟨#[102,111,114,107]⟩,0,0,0,0),
 (⟨#[101,120,101,99,118,101]⟩,0,1,0,4),
 (⟨#[101,120,105,116]⟩,1,0,0,0),
 (⟨#[115,101,116,117,105,100]⟩,1,0,0,0),
 (⟨#[115,101,116,103,105,100]⟩,1,0,0,0),
 (⟨#[108,111,103,105,110]⟩,1,0,0,0),
 (⟨#[111,112,101,110]⟩,2,1,0,0),
 (⟨#[99,108,111,115,101]⟩,1,0,0,0),
 (⟨#[108,105,110,107]⟩,0,2,0,0),
 (⟨#[115,121,109,108,105,110,107]⟩,0,1,1,1),
 (⟨#[117,110,108,105,110,107]⟩,0,1,0,0),
 (⟨#[109,107,100,105,114]⟩,1,1,0,0),
 (⟨#[114,109,100,105,114]⟩,0,1,0,0),
 (⟨#[114,101,110,97,109,101]⟩,0,2,0,0),
 (⟨#[99,104,109,111,100]⟩,1,1,0,0),
 (⟨#[99,104,111,119,110]⟩,2,1,0,0),
 (⟨#[99,104,100,105,114]⟩,0,1,0,0),
 (⟨#[109,111,117,110,116]⟩,1,1,0,0),
 (⟨#[117,109,111,117,110,116]⟩,1,0,0,0),
 (⟨#[99,111,110,110,101,99,116]⟩,1,0,1,1),
 (⟨#[107,105,108,108]⟩,2,0,0,0),
 (⟨#[116,114,117,110,99,97,116,101]⟩,1,1,0,0)]
def Bi(n:Int):AE×Int×Int×Int×Int:=if n<0∨22≤n then(⟨#[]⟩,0,0,0,0)else(E7[n.toNat]?).getD (⟨#[]⟩,0,0,0,0)
def LM(c:Cal):List Int:=[c.a0,c.a1,c.a2,c.a3]
def BY(c:Cal):Int:=
 if(Bi c.num).1=⟨#[]⟩then 100 else if(((LM c).drop (Bi c.num).2.1.toNat).any fun x=>decide (x≠0))=true then 101
 else if(c.paths.length:Int)≠(Bi c.num).2.2.1∨(c.args.length:Int)<(Bi c.num).2.2.2.1∨(Bi c.num).2.2.2.2<(c.args.length:Int)then 101
 else if(c.paths.any fun p=>decide (128<p.size))=true then 102 else if(c.args.any fun p=>decide (64<p.size))=true then 102 else 0
def Es(n:Nod)(euid egid:Int):Int:=
 if euid=n.uid then Gj .i64 (Nd .i64 n.mode 6) 7 else if egid=n.gid then Gj .i64 (Nd .i64 n.mode 3) 7 else Gj .i64 n.mode 7
def Ee(n:Nod)(euid egid want:Int):Bool:=
 if want<0∨7<want then false
 else if euid=0 then decide (Gj .i64 want 1=0)||decide (n.kind=2)||decide (Gj .i64 n.mode 73≠0)
 else decide (Gj .i64 (Es n euid egid) want=want)
def C0(a f:Int):Bool:=decide (Gj .i64 a f≠0)
def CB(c:Cal):List Int:=
 if c.num=1 then[1]else if c.num=6 then[(if C0 c.a0 1=true then 4 else 0)+(if C0 c.a0 22=true then 2 else 0)]
 else if c.num=8 then[8,2]else if c.num=13 then[2,2]else if c.num=14∨c.num=15∨c.num=17 then[8]else if c.num=16 then[4]else[2]
def Cr(c:Cal):Bool:=
 if c.num=6 then decide (Gj .i64 c.a0 32=0)else decide (c.num=1∨c.num=14∨c.num=15∨c.num=16∨c.num=17∨c.num=21)
def Mt(n:Int):Bool:=decide (0≤n)&&decide (n≤511)
def GX(c:Cal):AE:=c.args.headD ⟨#[]⟩
def Ce(p:Prc)(c:Cal):Int:=
 if c.num=6 then(if c.a0<0∨63<c.a0∨Gj .i64 c.a0 3=0∨Mt c.a1=false then 22 else if 8≤(p.opens.length:Int)then 24 else 0)
 else if c.num=9 then(if GX c=⟨#[]⟩then 2 else if(GX c).data.toList.any (fun b=>decide (b=0))=true then 22 else 0)
 else if c.num=11∨c.num=14 then(if Mt c.a0=false then 22 else 0)
 else if c.num=15 then(if c.a0<0∨4294967295<c.a0∨c.a1<0∨4294967295<c.a1 then 22 else 0)
 else if c.num=17 then(if p.euid≠0 then 1 else 0)
 else if c.num=21 then(if c.a0<0 then 22 else 0)else 0
def Mu(s:Spc)(given:AE)(perm:Int)(f:Fnd):Itm:=
 ⟨given,f.path,f.dir,f.name,f.file,1,(Aa s.files f.file).kind,(Aa s.files f.file).mode,(Aa s.files f.file).uid,(Aa s.files f.file).gid,perm⟩
def Fe(given:AE)(perm:Int):Itm:=⟨given,⟨#[]⟩,(0,0),⟨#[]⟩,(0,0),1,0,0,0,0,perm⟩
def FE(s:Spc)(cwd:A9)(fl:Bool)(x:List Itm×List Fnd×Int)(g:AE×Int):List Itm×List Fnd×Int:=
 if x.2.2=0 then
  (if(Bh s cwd g.1 fl).2=0 then(x.1++[Mu s g.1 g.2 (Bh s cwd g.1 fl).1],x.2.1++[(Bh s cwd g.1 fl).1],0)else(x.1++[Fe g.1 g.2],x.2.1++[(Bh s cwd g.1 fl).1],(Bh s cwd g.1 fl).2))
 else(x.1++[Fe g.1 g.2],x.2.1++[DO],x.2.2)
def Hj(s:Spc)(cwd:A9)(fl:Bool)(l:List (AE×Int))(e:Int):List Itm×List Fnd×Int:=l.foldl (FE s cwd fl) ([],[],e)
def B2(w:Wrk)(i:Nat):Fnd:=(w.found[i]?).getD DO
def C1(w:Wrk)(a:A9)(want:Int):Bool:=Ee (Aa w.s.spc.files a) w.p.euid w.p.egid want
def GY(w:Wrk)(i:Nat):Bool:=AX w.s.spc.files (B2 w i).file
def Ff(w:Wrk)(a:A9):Bool:=(Bo w.s.spc a).isSome||w.s.tab.ps.any fun p=>decide (p.cwd=a)
def BN(w:Wrk)(R:DP):Wrk×Int:=if R.2.2=0 then({w with s:=⟨⟨R.1,w.s.spc.mounts⟩,w.s.tab⟩,r:={w.r with changes:=R.2.1}},0)else(w,R.2.2)
def C2(w:Wrk)(R:Tab×Int):Wrk×Int:=if R.2=0 then({w with s:=⟨w.s.spc,R.1⟩},0)else(w,R.2)
def Us(n:Nod)(a:A9)(x:Itm):Itm:={x with role:=2,file:=a,kind:=n.kind,mode:=n.mode,uid:=n.uid,gid:=n.gid}
def GZ(w:Wrk)(i:Nat)(a:A9):Wrk:={w with r:={w.r with items:=w.r.items.modify i (Us (Aa w.s.spc.files a) a)}}
def bU:Dj:=((0,0),⟨#[]⟩,(0,0),(0,0))
def Ut(l:List Dj):A9:=(l.headD bU).2.2.2
def Mv(w:Wrk)(n:Nod):Nod:={n with uid:=w.p.euid,gid:=w.p.egid}
def E8(w:Wrk)(i:Nat)(n:Nod):DP:=Dn w.s.spc.files (B2 w i).dir (B2 w i).name (Mv w n)
def CO(w:Wrk)(i:Nat)(n:Nod):Wrk×Int:=
 if(E8 w i n).2.2=0 then(GZ (BN w (E8 w i n)).1 i (Ut (E8 w i n).2.1),0)else(w,(E8 w i n).2.2)
def Fg(w:Wrk)(i:Nat)(role:Int):Wrk:={w with r:={w.r with items:=w.r.items.modify i fun x=>{x with role:=role}}}
def OT(w:Wrk)(n:Int):Wrk:={w with r:={w.r with exit:=n}}
def Ga(mode:Int):Nod:=⟨0,1,mode,0,0,0,⟨#[]⟩,[]⟩
def G7(w:Wrk)(a:A9):Wrk×Int:=C2 (OT w (EW w.s.tab w.p.pid a w.c.a0).2.1) ((EW w.s.tab w.p.pid a w.c.a0).1,(EW w.s.tab w.p.pid a w.c.a0).2.2)
def JF(a:Int):Int:=(if C0 a 1=true then 4 else 0)+(if C0 a 18=true then 2 else 0)
def C8(w:Wrk):Wrk×Int:=
 if(B2 w 0).ex=true then
  (if C0 w.c.a0 4=true∧C0 w.c.a0 8=true then(w,17)
  else if(Aa w.s.spc.files (B2 w 0).file).kind=3 then(w,40)
  else if(Aa w.s.spc.files (B2 w 0).file).kind=2∧C0 w.c.a0 22=true then(w,21)
  else if C1 w (B2 w 0).file (JF w.c.a0)=false then(w,13)
  else G7 w (B2 w 0).file)
 else
  (if C0 w.c.a0 4=false then(w,2)else if(B2 w 0).slash=true then(w,21)else if C1 w (B2 w 0).dir 2=false then(w,13)
  else if(CO w 0 (Ga w.c.a1)).2≠0 then CO w 0 (Ga w.c.a1)
  else G7 (CO w 0 (Ga w.c.a1)).1 (Ut (CO w 0 (Ga w.c.a1)).1.r.changes))
def EM(w:Wrk):Wrk×Int:=
 if(B2 w 0).ex=false then(w,2)else if GY w 0=true then(w,1)else if(B2 w 1).ex=true then(w,17)else if(B2 w 1).slash=true then(w,2)
 else if(B2 w 0).file.1≠(B2 w 1).dir.1 then(w,18)else if C1 w (B2 w 1).dir 2=false then(w,13)
 else if(Dc w.s.spc.files (B2 w 1).dir (B2 w 1).name (B2 w 0).file).2.2≠0 then(w,(Dc w.s.spc.files (B2 w 1).dir (B2 w 1).name (B2 w 0).file).2.2)
 else(GZ (BN w (Dc w.s.spc.files (B2 w 1).dir (B2 w 1).name (B2 w 0).file)).1 1 (B2 w 0).file,0)
def G8(w:Wrk)(R:DP):Wrk×Int:=if R.2.2≠0 then(w,R.2.2)else(Fg (BN w R).1 0 3,0)
def De(w:Wrk):Wrk×Int:=
 if(B2 w 0).ex=false then(w,2)
 else if w.c.num=10 then
  (if(B2 w 0).name=⟨#[]⟩∨GY w 0=true then(w,21)else if C1 w (B2 w 0).dir 2=false then(w,13)
  else G8 w (FB w.s.spc.files (B2 w 0).dir (B2 w 0).name))
 else
  (if(B2 w 0).name=⟨#[]⟩then(w,16)else if GY w 0=false then(w,20)
  else if Ff w (AM w.s.spc.files (B2 w 0).dir (B2 w 0).name).1=true then(w,16)else if C1 w (B2 w 0).dir 2=false then(w,13)
  else G8 w (Eb w.s.spc.files (B2 w 0).dir (B2 w 0).name))
def Gb(w:Wrk)(R:DP)(x:A9):Wrk×Int:=
 if R.2.2≠0 then(w,R.2.2)else if 0<(R.2.1.length:Int)then(GZ (Fg (BN w R).1 0 3) 1 x,0)else((BN w R).1,0)
def Df(w:Wrk):Wrk×Int:=
 if(B2 w 0).ex=false then(w,2)else if(B2 w 0).name=⟨#[]⟩∨(B2 w 1).name=⟨#[]⟩then(w,16)
 else if(B2 w 1).slash=true∧GY w 0=false then(w,20)else if(B2 w 0).dir.1≠(B2 w 1).dir.1 then(w,18)
 else if C1 w (B2 w 0).dir 2=false∨C1 w (B2 w 1).dir 2=false then(w,13)
 else if(AM w.s.spc.files (B2 w 1).dir (B2 w 1).name).2=0∧(AM w.s.spc.files (B2 w 1).dir (B2 w 1).name).1≠(AM w.s.spc.files (B2 w 0).dir (B2 w 0).name).1∧AX w.s.spc.files (AM w.s.spc.files (B2 w 1).dir (B2 w 1).name).1=true∧Ff w (AM w.s.spc.files (B2 w 1).dir (B2 w 1).name).1=true then(w,16)
 else Gb w (EK w.s.spc.files (B2 w 0).dir (B2 w 0).name (B2 w 1).dir (B2 w 1).name) (AM w.s.spc.files (B2 w 0).dir (B2 w 0).name).1
def Hk(w:Wrk)(R:AZ×Int):Wrk×Int:=BN w (R.1,[],R.2)
def EX(w:Wrk):Wrk×Int:=
 if(B2 w 0).ex=false then(w,2)
 else if w.c.num=14 then
  (if w.p.euid≠0∧w.p.euid≠(Aa w.s.spc.files (B2 w 0).file).uid then(w,1)
  else Hk w (EJ w.s.spc.files (B2 w 0).file w.c.a0 (Aa w.s.spc.files (B2 w 0).file).uid (Aa w.s.spc.files (B2 w 0).file).gid))
 else if w.p.euid≠0 then(w,1)else Hk w (EJ w.s.spc.files (B2 w 0).file (Aa w.s.spc.files (B2 w 0).file).mode w.c.a0 w.c.a1)
def Hl(w:Wrk)(R:Spc×Int):Wrk×Int:=if R.2=0 then({w with s:=⟨R.1,w.s.tab⟩},0)else(w,R.2)
def D9(w:Wrk):Wrk×Int:=
 if(B2 w 0).ex=false then(w,2)
 else if w.c.num=1 then(if GY w 0=true∨C1 w (B2 w 0).file 1=false then(w,13)else C2 w (Gz w.s.tab w.p.pid (B2 w 0).path (B2 w 0).name))
 else if w.c.num=16 then(if GY w 0=false then(w,20)else if C1 w (B2 w 0).file 1=false then(w,13)else C2 w (Gy w.s.tab w.p.pid (B2 w 0).file))
 else if w.c.num=17 then(if GY w 0=false then(w,20)else Hl w (DN w.s.spc w.c.a0 (B2 w 0).file))
 else if GY w 0=true then(w,21)else if C1 w (B2 w 0).file 2=false then(w,13)else(w,0)
def LN(t:AE):Nod:=⟨0,3,511,0,0,0,t,[]⟩
def Mw(mode:Int):Nod:=⟨0,2,mode,0,0,0,⟨#[]⟩,[]⟩
def EY(w:Wrk):Wrk×Int:=
 if(B2 w 0).ex=true then(w,17)else if(B2 w 0).slash=true∧w.c.num=9 then(w,2)else if C1 w (B2 w 0).dir 2=false then(w,13)
 else if w.c.num=9 then CO w 0 (LN (GX w.c))else CO w 0 (Mw w.c.a0)
def LO(t:Tab)(dev:Int):Bool:=t.ps.any fun p=>decide (p.cwd.1=dev)||p.opens.any fun d=>decide (d.file.1=dev)
def Hm(w:Wrk)(R:Spc×Int):Wrk×Int:=if R.2=0 then({w with s:=⟨R.1,w.s.tab⟩,r:={w.r with gone:=w.c.a0}},0)else(w,R.2)
def Et(w:Wrk):Wrk×Int:=
 if w.p.euid≠0 then(w,1)else if w.c.a0=0∨Bl w.s.spc w.c.a0=false then(w,22)else if LO w.s.tab w.c.a0=true then(w,16)
 else Hm w (FC w.s.spc w.c.a0)
def LP(w:Wrk)(n:Int):Wrk:={w with r:={w.r with exit:=n,child:=n}}
def Dt(w:Wrk):Wrk×Int:=
 if w.c.num=0 then C2 (LP w (Ed w.s.tab w.p.pid).2.1) ((Ed w.s.tab w.p.pid).1,(Ed w.s.tab w.p.pid).2.2)
 else if w.c.num=2 then C2 w (Fb w.s.tab w.p.pid)
 else if w.c.num=3 then C2 w (Fc w.s.tab w.p.pid w.c.a0)
 else if w.c.num=4 then C2 w (Fd w.s.tab w.p.pid w.c.a0)
 else if w.c.num=5 then C2 w (EV w.s.tab w.p.pid w.c.a0)
 else if w.c.num=7 then C2 w (GW w.s.tab w.p.pid w.c.a0)
 else if w.c.num=18 then Et w
 else if w.c.num=19 then(if w.c.a0<0∨65535<w.c.a0∨GX w.c=⟨#[]⟩then(w,22)else if w.c.a0=0 then(w,111)else(w,0))
 else if w.c.a1<0∨64<w.c.a1 then(w,22)else C2 w (FO w.s.tab w.p.pid w.c.a0 (decide (w.c.a1≠0)))
def B9(w:Wrk):Wrk×Int:=
 if w.c.num=6 then C8 w else if w.c.num=8 then EM w else if w.c.num=10∨w.c.num=12 then De w else if w.c.num=13 then Df w
 else if w.c.num=14∨w.c.num=15 then EX w else if w.c.num=1∨w.c.num=16∨w.c.num=17∨w.c.num=21 then D9 w
 else if w.c.num=9∨w.c.num=11 then EY w else Dt w
def E0(s:Syst)(p:Prc)(c:Cal):List Itm×List Fnd×Int:=Hj s.spc p.cwd (Cr c) (c.paths.zip (CB c)) (Ce p c)
def EZ(s:Syst)(pid:Int)(c:Cal):Wrk:=⟨s,AU s.tab pid,c,(E0 s (AU s.tab pid) c).2.1,{DW with items:=(E0 s (AU s.tab pid) c).1}⟩
def Gd(n:Int):Syst×Int:=if(ER n).2≠0 then(⟨⟨[],[]⟩,DH⟩,(ER n).2)else(⟨⟨(ER n).1,[]⟩,LH (0,1)⟩,0)
def FF(d:Dsc):List AV:=[.v (.int .i64 d.fd), .v (.int .i64 d.file.1), .v (.int .i64 d.file.2), .v (.int .i64 d.flags)]
def Av(p:Prc):List AV:=[.v (.int .i64 p.pid), .v (.int .i64 p.ppid), .v (.int .i64 p.uid), .v (.int .i64 p.euid), .v (.int .i64 p.gid), .v (.int .i64 p.egid), .v (.int .i64 p.auid), .v (.int .i64 p.ses), .v (.int .i64 p.cwd.1), .v (.int .i64 p.cwd.2), .v (.string p.comm), .v (.string p.exe), .sl 4 (p.opens.map FF) none, .v (.bool p.audited)]
def At(t:Tab):List AV:=[.v (.int .i64 t.next), .v (.int .i64 t.nextS), .sl 14 (t.ps.map Av) none]
def Bg(s:Syst):List AV:=[.sl 2 (s.spc.files.map Bn) none, .sl 3 (s.spc.mounts.map Co) none, .v (.int .i64 s.tab.next), .v (.int .i64 s.tab.nextS), .sl 14 (s.tab.ps.map Av) none]
def D5(s:AE):List AV:=[.v (.string s)]
def D0(c:Cal):List AV:=[.v (.int .i64 c.num), .v (.int .i64 c.a0), .v (.int .i64 c.a1), .v (.int .i64 c.a2), .v (.int .i64 c.a3), .sl 1 (c.paths.map D5) none, .sl 1 (c.args.map D5) none]
def Bt(y:Itm):List AV:=[.v (.string y.given), .v (.string y.path), .v (.int .i64 y.dir.1), .v (.int .i64 y.dir.2), .v (.string y.name), .v (.int .i64 y.file.1), .v (.int .i64 y.file.2), .v (.int .i64 y.role), .v (.int .i64 y.kind), .v (.int .i64 y.mode), .v (.int .i64 y.uid), .v (.int .i64 y.gid), .v (.int .i64 y.perm)]
def E9(r:Res):List AV:=[.v (.int .i64 r.exit), .v (.int .i64 r.child), .v (.int .i64 r.gone), .sl 13 (r.items.map Bt) none, .sl 7 (r.changes.map CK) none]
def Cs(w:Wrk)(fnd its:AV):List AV:=
 [.sl 2 (w.s.spc.files.map Bn) none, .sl 3 (w.s.spc.mounts.map Co) none, .v (.int .i64 w.s.tab.next), .v (.int .i64 w.s.tab.nextS), .sl 14 (w.s.tab.ps.map Av) none,
 .v (.int .i64 w.p.pid), .v (.int .i64 w.p.ppid), .v (.int .i64 w.p.uid), .v (.int .i64 w.p.euid), .v (.int .i64 w.p.gid), .v (.int .i64 w.p.egid), .v (.int .i64 w.p.auid), .v (.int .i64 w.p.ses), .v (.int .i64 w.p.cwd.1), .v (.int .i64 w.p.cwd.2), .v (.string w.p.comm), .v (.string w.p.exe), .sl 4 (w.p.opens.map FF) none, .v (.bool w.p.audited),
 .v (.int .i64 w.c.num), .v (.int .i64 w.c.a0), .v (.int .i64 w.c.a1), .v (.int .i64 w.c.a2), .v (.int .i64 w.c.a3), .sl 1 (w.c.paths.map D5) none, .sl 1 (w.c.args.map D5) none,fnd,
 .v (.int .i64 w.r.exit), .v (.int .i64 w.r.child), .v (.int .i64 w.r.gone),its, .sl 7 (w.r.changes.map CK) none]
structure TabB(t:Tab):Prop where
 few:t.ps.length≤16
 opens:∀p∈t.ps,p.opens.length≤8
 next:t.next≤1073741824
 nextS:t.nextS≤1073741824
structure RowF(sz:Nat){α:Type}(F:α→List AV):Prop where
 len:∀x,(F x).length=sz
 flat:∀x,∀y∈F x,(∃v,y= .v v)∨∃s r,y= .sl s r none
 pos:0<sz
def LB(sz:Nat){α:Type}(F:α→List AV)(l:List α)(cap:Nat):List AV:=CG sz cap (l.map F)
section
variable {α:Type}{sz:Nat}{F:α→List AV}(hF:RowF sz F)
include hF
theorem KS(l:List α):∀r∈l.map F,r.length=sz:=by
 intro r hr
 obtain⟨x,_,rfl⟩:=List.mem_map.1 hr
 exact hF.len x
theorem Mx{l:List α}{cap:Nat}(h:l.length≤cap):(LB sz F l cap).length=cap * sz:=Pn (KS hF l) (by simpa using h)
theorem bV{g:AV→AV}(hv:∀x,g (.v x)= .v x)(hs:∀sz rows,g (.sl sz rows none)= .sl sz rows none)(x:α):(F x).map g=F x:=by
 conv=>rhs;rw[←List.map_id (F x)]
 apply List.map_congr_left
 intro y hy
 rcases hF.flat x y hy with⟨v,rfl⟩|⟨s,r,rfl⟩
 ·exact hv v
 exact hs s r
theorem R5{g:AV→AV}(hany:g .any= .any)(hv:∀x,g (.v x)= .v x)(hs:∀sz rows,g (.sl sz rows none)= .sl sz rows none)(l:List α)(cap:Nat):(LB sz F l cap).map g=LB sz F l cap:=by
 unfold LB
 rw[ML g hany,List.map_map]
 congr 1
 apply List.map_congr_left
 intro x _
 exact bV hF hv hs x
theorem Cg(g:Nat→Option Nat)(l:List α)(cap:Nat):DG g (LB sz F l cap)=LB sz F l cap:=by
 rw[MJ];exact R5 hF rfl (fun _=>rfl) (fun _ _=>rfl) l cap
theorem Ge(g:Nat→Option Nat)(l:List α)(cap:Nat):FU g (LB sz F l cap)=LB sz F l cap:=by
 rw[O3];exact R5 hF rfl (fun _=>rfl) (fun _ _=>rfl) l cap
theorem bW(g:Nat→Option (List AV))(l:List α)(cap:Nat):GL g (LB sz F l cap)=LB sz F l cap:=by
 rw[MK];exact R5 hF rfl (fun _=>rfl) (fun _ _=>rfl) l cap
theorem bY{n m:Nat}(x:α):Ab n m (F x)=true:=by
 refine Pz.2 fun y hy=>?_
 rcases hF.flat x y hy with⟨v,rfl⟩|⟨s,r,rfl⟩<;>rfl
theorem BZ{n m:Nat}{l:List α}{cap:Nat}:Ab n m (LB sz F l cap)=true:=by
 refine Q0 fun r hr=>?_
 obtain⟨x,_,rfl⟩:=List.mem_map.1 hr
 exact bY hF x
theorem bZ{n:Nat}{bx:List (List AV)}{k j:Nat}{l:List α}{cap:Nat}(hn:n≤j)(hj:bx[j]?=some (LB sz F l cap)):DS n bx (k+1) j=some (LB sz F l cap):=by
 have:Nat.blt j n=false:=by rw[←Bool.not_eq_true,Nat.blt_eq];omega
 simp only[DS,this,hj,Option.map_some,bW hF]
theorem KT{n:Nat}{bx:List (List AV)}{k j:Nat}{l:List α}{cap cap0:Nat}(hn:Nat.ble n j=true)(hj:bx[j]?=some (LB sz F l cap))(hc:l.length≤cap):El n (DS n bx (k+1)) (.bs j 0 sz l.length cap0)= .sl sz (l.map F) none:=
 U5 (BT hn) (bZ hF (BT hn) hj) (KS hF l) (by simp) (by simpa using hc)
theorem cA{l:List α}{cap i k:Nat}{x:α}{y:AV}(h:l[i]?=some x)(hx:(F x)[k]?=some y):(LB sz F l cap)[0+i * sz+k]?=some y:=MN (KS hF l) (by rw[List.getElem?_map,h];rfl) hx
theorem JG{l:List α}{cap i k:Nat}{x x':α}{cs:List AV}(h:l[i]?=some x)(hs:SetAt (F x) k cs (F x'))(hne:cs≠[]):SetAt (LB sz F l cap) (0+i * sz+k) cs (LB sz F (l.set i x') cap):=by
 have key:=Q3 (cap:=cap) (KS hF l) (by rw[List.getElem?_map,h];rfl) hs hne
 rw[←List.map_set]at key
 exact key
theorem Uu{l:List α}{cap i:Nat}{x x':α}(h:l[i]?=some x):SetAt (LB sz F l cap) (0+i * sz) (F x') (LB sz F (l.set i x') cap):=by
 have hne:F x'≠[]:=fun e=>by have h1:=hF.len x';have h2:=hF.pos;rw[e]at h1;simp at h1;omega
 have hs:SetAt (F x) 0 (F x') (F x'):=by
  have:=SetAt.whole (xs:=F x') (l:=F x) (b:=[]) (by rw[hF.len,hF.len])
  simpa using this
 have key:=JG hF (cap:=cap) h hs hne
 simpa using key
theorem Uv(x:α)(cap:Nat):F x++List.replicate ((cap - 1) * sz) .any=LB sz F [x] cap:=by
 have _:=hF
 unfold LB CG
 simp
theorem R6(acc:List α)(x:α)(cap0 cap:Nat):((LB sz F acc cap0).drop 0).take (acc.length * sz)++F x++List.replicate ((cap - (acc.length+1)) * sz) .any=LB sz F (acc++[x]) cap:=by
 unfold LB
 rw[T7 (KS hF acc) (by simp),List.map_append]
 rfl
theorem R7{acc:List α}{x:α}{cap:Nat}{row:List AV}(hs:SetAt (LB sz F acc cap) (0+acc.length * sz) (F x) row)(hc:acc.length+1≤cap):row=LB sz F (acc++[x]) cap:=by
 have key:=T6 (rows:=acc.map F) (sz:=sz) (cap:=cap) (r:=F x) (row':=row) (KS hF acc) (hF.len x) hF.pos (by simpa using hc) (by rw[List.length_map];exact hs)
 rw[key]
 unfold LB
 rw[List.map_append]
 rfl
end
theorem DX:RowF 14 Av:=⟨fun _=>rfl,fun x y h=>by simp[Av]at h;rcases h with h|h|h|h|h|h|h|h|h|h|h|h|h|h<;>first|exact .inl ⟨_,h⟩|exact .inr ⟨_,_,h⟩,by decide⟩
theorem B1:RowF 13 Bt:=⟨fun _=>rfl,fun x y h=>by simp[Bt]at h;rcases h with h|h|h|h|h|h|h|h|h|h|h|h|h<;>exact .inl ⟨_,h⟩,by decide⟩
theorem C4{f:Nat→Option AV}{bx:List (List AV)}{tk:List (Nat×Nat×List (List AV))}{l:List (Nat×AV)}{N:Dim}(n m:Nat){bx':List (List AV)}{tk':List (Nat×Nat×List (List AV))}(hbp:Ag n m bx'=true)(hn:Nat.ble N.ni n=true:=by rfl)(hb:bx.take n=bx':=by rfl)(ht:tk.take m=tk':=by rfl)(hl:Sub n m f l:=by repeat (first|exact Sub.nil|refine Sub.cons _ _ _ rfl rfl ?_|refine Sub.any _ _ ?_|refine Sub.sl _ _ _ _ _ rfl ?_|refine Sub.slnil _ _ _ rfl ?_|(apply Sub.of;(focus exact rfl);(focus exact LeA.of_eq (vb (by simp[*])));(focus exact rfl)))):Weak N ⟨f,⟨bx,tk⟩⟩ ⟨look l,⟨bx',tk'⟩⟩:=Az n m hn hb ht hbp hl
def DA(bx:List (List AV))(g:Nat→Option Nat):List Nat→List (List AV)→List (List AV)
 |[],bc=>bx++bc.map (DG g)
 |i::is,[]=>DA bx g is []
 |i::is,r::bc=>DA (bx.set i (DG g r)) g is bc
theorem Uw{g:Nat→Option Nat}:∀(is:List Nat) (bx bc:List (List AV)),is.length≤bc.length→(DA bx g is bc).length=bx.length+(bc.length - is.length)
 |[],bx,bc,_=>by simp[DA]
 |i::is,bx,[],h=>by simp at h
 |i::is,bx,r::bc,h=>by
   unfold DA
   rw[Uw is _ bc (by simpa using h)]
   simp
theorem OU{g:Nat→Option Nat}:∀(is:List Nat) (bx bc:List (List AV)) (i:Nat),i∉is→i<bx.length→(DA bx g is bc)[i]?=bx[i]?
 |[],bx,bc,i,_,hi=>by unfold DA;rw[List.getElem?_append_left hi]
 |j::is,bx,[],i,h,hi=>by
   unfold DA
   exact OU is bx [] i (fun hm=>h (List.mem_cons_of_mem _ hm)) hi
 |j::is,bx,r::bc,i,h,hi=>by
   unfold DA
   rw[OU is _ bc i (fun hm=>h (List.mem_cons_of_mem _ hm)) (by simpa using hi),List.getElem?_set_ne (fun e=>h (by rw[e];exact List.mem_cons_self ..))]
theorem Ux{g:Nat→Option Nat}:∀(is:List Nat) (bx bc:List (List AV)) (k i:Nat) (row:List AV),is.Nodup→i<bx.length→is[k]?=some i→bc[k]?=some row→(DA bx g is bc)[i]?=some (DG g row)
 |[],_,_,_,_,_,_,_,h,_=>by simp at h
 |j::is,bx,[],k,i,row,_,_,_,h=>by simp at h
 |j::is,bx,r::bc,0,i,row,hn,hi,h1,h2=>by
   simp at h1 h2
   subst h1 h2
   unfold DA
   rw[OU is _ bc j (List.nodup_cons.1 hn).1 (by simpa using hi),List.getElem?_set_self hi]
 |j::is,bx,r::bc,k+1,i,row,hn,hi,h1,h2=>by
   unfold DA
   exact Ux is _ bc k i row (List.nodup_cons.1 hn).2 (by simpa using hi) (by simpa using h1) (by simpa using h2)
theorem Uy{g:Nat→Option Nat}:∀(is:List Nat) (bx bc:List (List AV)) (k:Nat) (row:List AV),bc[is.length+k]?=some row→(DA bx g is bc)[bx.length+k]?=some (DG g row)
 |[],bx,bc,k,row,h=>by
   unfold DA
   rw[List.getElem?_append_right (by omega),show bx.length+k - bx.length=k by omega,List.getElem?_map]
   simp at h
   rw[h];rfl
 |j::is,bx,[],k,row,h=>by simp at h
 |j::is,bx,r::bc,k,row,h=>by
   unfold DA
   have:=Uy (g:=g) is (bx.set j (DG g r)) bc k row (by simpa[Nat.add_right_comm]using h)
   simpa using this
theorem My{bx:List (List AV)}{is:List Nat}{bc:List (List AV)}(hn:is.Nodup)(hi:∀i∈is,i<bx.length)(hl:is.length≤bc.length):Back bx is bc (DA bx (DZ is bx.length) is bc):=by
 refine⟨Uw is bx bc hl,fun i row h1 h2=>?_,fun k i row h1 h2=>?_,fun k row h=>Uy is bx bc k row h⟩
 ·rw[OU is bx bc i h1 (Ar.1 h2).1];exact h2
 exact Ux is bx bc k i row hn (hi i (Au h1)) h1 h2
def Ct:List AV:=[.v (.int .i64 0), .v (.int .i64 0), .v (.slice none 0 0)]
def Cu(t:Tab)(x:AV):List AV:=[.v (.int .i64 t.next), .v (.int .i64 t.nextS),x]
def Dg(f:Prc→Prc)(l:List Prc)(j:Nat):List Prc:=(l.take j).map f++l.drop j
def Fh(p x:Prc):Prc:=if x.pid=p.pid then p else x
theorem Jn(f:Prc→Prc)(l:List Prc)(j:Nat):(Dg f l j).length=l.length:=by
 unfold Dg
 simp
 omega
theorem R8{f:Prc→Prc}{l:List Prc}{j:Nat}{x:Prc}(h:l[j]?=some x):(Dg f l j)[j]?=some x:=by
 have hl:=(Ar.1 h).1
 unfold Dg
 rw[List.getElem?_append_right (by simp;omega)]
 simp only[List.length_map,List.length_take,List.getElem?_drop]
 rw[show j+(j - min j l.length)=j by omega]
 exact h
theorem Uz{f:Prc→Prc}{l:List Prc}{j:Nat}{x:Prc}(h:l[j]?=some x):(Dg f l j).set j (f x)=Dg f l (j+1):=by
 obtain⟨hl,e⟩:=Ar.1 h
 unfold Dg
 rw[List.take_add_one,h,List.drop_eq_getElem_cons hl,List.set_append_right _ _ (by simp;omega)]
 simp only[List.length_map,List.length_take,List.map_append,List.append_assoc]
 rw[show j - min j l.length=0 by omega]
 rfl
theorem cB{f:Prc→Prc}{l:List Prc}{j:Nat}{x:Prc}(h:l[j]?=some x)(hf:f x=x):Dg f l j=Dg f l (j+1):=by
 rw[←Uz h,hf]
 have h2:=R8 (f:=f) h
 obtain⟨h3,h4⟩:=Ar.1 h2
 rw[←h4,List.set_getElem_self]
theorem cC(f:Prc→Prc)(l:List Prc):Dg f l l.length=l.map f:=by
 unfold Dg
 simp
theorem V0{t:Tab}{pid:Int}{p:Prc}(h:LJ t pid=some p):p∈t.ps:=List.mem_of_find?_eq_some h
theorem Fi{t:Tab}(ht:TabB t)(pid:Int):(AU t pid).opens.length≤8:=by
 unfold AU
 cases h:LJ t pid with
 |none=>exact Nat.zero_le _
 |some p=>exact ht.opens p (V0 h)
theorem Jo{t:Tab}{pid:Int}(h:Bz t pid=true):0<t.ps.length:=by
 unfold Bz at h
 obtain⟨p,hp⟩:=Option.isSome_iff_exists.1 h
 exact List.length_pos_of_mem (V0 hp)
theorem V1{bx:List (List AV)}{n:Nat}(hn:bx.length=n)(t:Tab)(cap:Nat):Back bx [] [At t,Cu t (.bs 3 0 14 t.ps.length cap),Cu t (.bs 3 0 14 t.ps.length cap),LB 14 Av t.ps cap] (bx++[At t,Cu t (.bs (n+3) 0 14 t.ps.length cap),Cu t (.bs (n+3) 0 14 t.ps.length cap),LB 14 Av t.ps cap]):=by
 subst hn
 have:=My (bx:=bx) (is:=[]) (bc:=[At t,Cu t (.bs 3 0 14 t.ps.length cap),Cu t (.bs 3 0 14 t.ps.length cap),LB 14 Av t.ps cap]) List.nodup_nil (by simp) (by simp)
 have e1:DG (DZ [] bx.length) (At t)=At t:=rfl
 have e2:DG (DZ [] bx.length) (Cu t (.bs 3 0 14 t.ps.length cap))=Cu t (.bs (bx.length+3) 0 14 t.ps.length cap):=by simp[DG,Cu,Ek,DZ]
 simpa[DA,Cg DX,e1,e2]using this
section
theorem Mz(p:Prc)(hp:p.opens.length≤1000):AFn Tryz.prog 107 [.agg (Av p)] (fun r=>r= .agg (Av p)):=by
 refine enter Tryz.func107 rfl rfl rfl rfl rfl 0 rfl ?_
 refine w_ (b_ (h:=AW (h:=e_ (w_ (f_ (h:=l_ (h:=?_)))))))
 first|refine A4 rfl (E3 rfl rfl rfl (by simp;omega) (by repeat constructor) ?_)|refine A4 rfl (Hv rfl rfl (by simp;omega) (by repeat constructor) ?_)
 refine f_ (h:=s_ (h:=e_ (w_ (l_ (h:=s_ (h:=e_ (A6 (?_))))))))
 refine AB ?_
 rfl
theorem V2(t:Tab)(ht:TabB t):AFn Tryz.prog 108 [.agg (At t)] (fun r=>r= .agg (At t)):=by
 have hfew:=ht.few
 refine enter Tryz.func108 rfl rfl rfl rfl rfl 0 rfl ?_
 refine w_ (b_ (h:=AW (h:=e_ (w_ (f_ (h:=l_ (h:=f_ (h:=l_ (h:=AT (h:=AW (h:=s_ (h:=e_ (q_ (w_ (a_ (h:=e_ (Ao (?_))))))))))))))))))
 refine Kr 2 2 61 14 rfl rfl (by repeat constructor) (by repeat constructor) (by repeat constructor) ?_
 refine Ba (fun m s=>∃j:Nat,j≤t.ps.length∧m=t.ps.length - j∧s=⟨look [(1, .bp 0 0),(2, .bp 1 0),(3, .bp 2 0),(4, .v (.int .i64 (j:Int)))],⟨[At t,Ct,Cu t (.sl 14 ((t.ps.take j).map Av) (some 0))],[(61,14,(t.ps.take j).map Av)]⟩⟩) (t.ps.length) ((wk 3 1)) (⟨0,Nat.zero_le _,rfl,rfl⟩) ?_
 rintro m s ⟨j,hj,rfl,rfl⟩
 refine q_ (w_ (m_ (h:=f_ (h:=l_ (h:=n_ (h:=BJ (h:=e_ (?_))))))))
 refine A8 rfl (fun hb1=>?_) (fun hb1=>?_)
 ·have hc1:=bp hb1
  obtain⟨hlt,p,hy,hrow,e⟩:=CW Av hc1
  have hop:p.opens.length≤1000:=by have:=ht.opens p (Au hy);omega
  refine AG (q_ (Ao (BH ([(0,At t),(1,Ct),(2,Cu t (.sl 14 ((t.ps.take j).map Av) (some 0)))]) 11 (h:=AF 0 (h:=AJ 1 (h:=AF 2 (h:=AJ 3 (h:=AN 4 (h:=Di 5 (h:=AJ 6 (h:=?_)))))))))))
  refine c_ 7 rfl (AK (Mz p hop) ?_)
  rintro r rfl
  refine o_ (h:=GM 8 (h:=?_))
  refine c_ 9 rfl (E3 rfl rfl rfl (by simp;omega) (by repeat constructor) ?_)
  refine o_ (h:=AF 10 (h:=?_))
  refine B0 11 rfl (Aw rfl rfl rfl rfl rfl rfl (by repeat constructor) (by repeat constructor) ?_)
  refine o_ (h:=z_ (h:=Ay (t_ (AP (m_ (h:=B8 (h:=a_ (h:=AO (?_)))))))))
  refine AD ?_
  refine⟨_,_,?_,⟨j+1,by omega,rfl,rfl⟩,(by rw[e];exact Az 3 1 rfl rfl rfl rfl ((by repeat (first|exact Sub.nil|refine Sub.cons _ _ _ rfl rfl ?_|refine Sub.any _ _ ?_|refine Sub.sl _ _ _ _ _ rfl ?_|refine Sub.slnil _ _ _ rfl ?_))))⟩
  omega
 have hc1:=bp hb1
 have e:=Ck Av hj hc1
 subst e
 rw[List.take_length]
 refine BO (Aq (Aq (BQ (t_ (w_ (l_ (h:=s_ (h:=e_ (A6 (?_))))))))))
 refine AB ?_
 rfl
theorem V3(t:Tab)(ht:TabB t)(h0:0<t.ps.length):ACall Tryz.prog 108 [.agg (At t)] [] (fun r b tk=>tk=[]∧∃cap,t.ps.length≤cap∧r= .agg (Cu t (.bs 3 0 14 t.ps.length cap))∧b=[At t,Cu t (.bs 3 0 14 t.ps.length cap),Cu t (.bs 3 0 14 t.ps.length cap),LB 14 Av t.ps cap]):=by
 have hfew:=ht.few
 refine enter Tryz.func108 rfl rfl rfl rfl rfl 4 rfl ?_
 refine w_ (b_ (h:=AW (h:=e_ (w_ (f_ (h:=l_ (h:=f_ (h:=l_ (h:=AT (h:=AW (h:=s_ (h:=e_ (q_ (w_ (a_ (h:=e_ (Ao (?_))))))))))))))))))
 refine Ba (fun m s=>∃(j:Nat) (acc:List Prc),j≤t.ps.length∧m=t.ps.length - j∧t.ps.take j=acc∧((acc=[]∧s=⟨look [(1, .bp 0 0),(2, .bp 1 0),(3, .bp 2 0),(4, .v (.int .i64 (j:Int)))],⟨[At t,Ct,Cu t (.v (.slice none 0 0))],[]⟩⟩)∨(∃cap,acc.length≤cap∧s=⟨look [(1, .bp 0 0),(2, .bp 1 0),(3, .bp 2 0),(4, .v (.int .i64 (j:Int)))],⟨[At t,Ct,Cu t (.bs 3 0 14 acc.length cap),LB 14 Av acc cap],[]⟩⟩))) (t.ps.length) ((wk 3 0)) (⟨0,[],Nat.zero_le _,rfl,rfl, .inl ⟨rfl,rfl⟩⟩) ?_
 rintro m s ⟨j,acc,hj,rfl,hacc,⟨rfl,rfl⟩|⟨cap,hcp,rfl⟩⟩
 ·skip
  refine q_ (w_ (m_ (h:=f_ (h:=l_ (h:=n_ (h:=BJ (h:=e_ (?_))))))))
  refine A8 rfl (fun hb1=>?_) (fun hb1=>?_)
  ·have hc1:=bp hb1
   obtain⟨hlt,p,hy,hrow, -⟩:=CW Av hc1
   have hk:t.ps.take (j+1)=t.ps.take j++[p]:=by rw[List.take_add_one,hy];rfl
   have hop:p.opens.length≤1000:=by have:=ht.opens p (Au hy);omega
   refine AG (q_ (Ao (BH ([(0,At t),(1,Ct),(2,Cu t (.v (.slice none 0 0)))]) 11 (h:=AF 0 (h:=AJ 1 (h:=AF 2 (h:=AJ 3 (h:=AN 4 (h:=Di 5 (h:=AJ 6 (h:=?_)))))))))))
   refine c_ 7 rfl (AK (Mz p hop) ?_)
   rintro r rfl
   refine o_ (h:=GM 8 (h:=?_))
   refine c_ 9 rfl (M4 rfl rfl JA (by omega) (by omega) ?_)
   rintro cap2 k bx2 hcp hs
   rw[show CT (.agg (Av p))++List.replicate ((cap2 - 1) * 14) AV.any=LB 14 Av [p] cap2 from Uv DX p cap2]at hs
   obtain⟨rfl,rfl⟩:k=3∧bx2=[_,_,_,_]:=hs.eq
   refine o_ (h:=?_)
   refine AF 10 (h:=?_)
   refine B0 11 rfl (Aw rfl rfl rfl rfl rfl rfl (by repeat constructor) (by repeat constructor) ?_)
   refine o_ (h:=z_ (h:=Ay (t_ (AP (m_ (h:=B8 (h:=a_ (h:=AO (?_)))))))))
   refine AD ?_
   exact⟨t.ps.length - (j+1),_,by omega,⟨j+1,[p],by omega,rfl,(by rw[hk,hacc];rfl), .inr ⟨cap2,hcp,rfl⟩⟩,Az 4 0 rfl rfl rfl (by simp[Ag,Ab,Ac,BZ DX,At,Cu,Ct]) ((by repeat (first|exact Sub.nil|refine Sub.cons _ _ _ rfl rfl ?_|refine Sub.any _ _ ?_|refine Sub.sl _ _ _ _ _ rfl ?_|refine Sub.slnil _ _ _ rfl ?_)))⟩
  have hc1:=bp hb1
  exfalso
  have e:=Ck Av hj hc1
  rw[e,List.take_length]at hacc
  rw[hacc]at h0
  exact absurd h0 (by simp)
 skip
 refine q_ (w_ (m_ (h:=f_ (h:=l_ (h:=n_ (h:=BJ (h:=e_ (?_))))))))
 refine A8 rfl (fun hb2=>?_) (fun hb2=>?_)
 ·have hc2:=bp hb2
  obtain⟨hlt,p,hy,hrow, -⟩:=CW Av hc2
  have hk:t.ps.take (j+1)=t.ps.take j++[p]:=by rw[List.take_add_one,hy];rfl
  have hop:p.opens.length≤1000:=by have:=ht.opens p (Au hy);omega
  refine AG (q_ (Ao (BH ([(0,At t),(1,Ct),(2,Cu t (.bs 3 0 14 acc.length cap))]) 11 (h:=AF 0 (h:=AJ 1 (h:=AF 2 (h:=AJ 3 (h:=AN 4 (h:=Di 5 (h:=AJ 6 (h:=?_)))))))))))
  refine c_ 7 rfl (AK (Mz p hop) ?_)
  rintro r rfl
  refine o_ (h:=GM 8 (h:=?_))
  refine c_ 9 rfl (Ks rfl rfl rfl (by rw[Mx DX hcp];omega) JA (by omega) (by have:=congrArg List.length hacc;simp at this;omega) ?_ ?_)
  ·rintro hg row2 bx2 hs hb
   obtain rfl:=R7 DX hs hg
   obtain rfl:bx2=[_,_,_,_]:=hb.one.2
   refine o_ (h:=?_)
   refine AF 10 (h:=?_)
   refine B0 11 rfl (Aw rfl rfl rfl rfl rfl rfl (by repeat constructor) (by repeat constructor) ?_)
   refine o_ (h:=z_ (h:=Ay (t_ (AP (m_ (h:=B8 (h:=a_ (h:=AO (?_)))))))))
   refine AD ?_
   exact⟨t.ps.length - (j+1),_,by omega,⟨j+1,acc++[p],by omega,rfl,(by rw[hk,hacc]), .inr ⟨cap,by simpa using hg,by rw[List.length_append];rfl⟩⟩,Az 4 0 rfl rfl rfl (by simp[Ag,Ab,Ac,BZ DX,At,Cu,Ct]) ((by repeat (first|exact Sub.nil|refine Sub.cons _ _ _ rfl rfl ?_|refine Sub.any _ _ ?_|refine Sub.sl _ _ _ _ _ rfl ?_|refine Sub.slnil _ _ _ rfl ?_)))⟩
  rintro hg cap3 k bx2 hcp3 hs
  rw[show((LB 14 Av acc cap).drop 0).take (acc.length * 14)++CT (.agg (Av p))++List.replicate ((cap3 - (acc.length+1)) * 14) AV.any=LB 14 Av (acc++[p]) cap3 from R6 DX acc p cap cap3]at hs
  obtain⟨rfl,rfl⟩:k=4∧bx2=[_,_,_,_,_]:=hs.eq
  refine o_ (h:=?_)
  refine AF 10 (h:=?_)
  refine B0 11 rfl (Aw rfl rfl rfl rfl rfl rfl (by repeat constructor) (by repeat constructor) ?_)
  refine o_ (h:=z_ (h:=Ay (t_ (AP (m_ (h:=B8 (h:=a_ (h:=AO (?_)))))))))
  refine AD ?_
  first|exact⟨t.ps.length - (j+1),_,by omega,⟨j+1,acc++[p],by omega,rfl,(by rw[hk,hacc]), .inr ⟨cap,by simpa using hg,by rw[List.length_append];rfl⟩⟩,Az 4 0 rfl rfl rfl (by simp[Ag,Ab,Ac,BZ DX,At,Cu,Ct]) ((by repeat (first|exact Sub.nil|refine Sub.cons _ _ _ rfl rfl ?_|refine Sub.any _ _ ?_|refine Sub.sl _ _ _ _ _ rfl ?_|refine Sub.slnil _ _ _ rfl ?_)))⟩|exact⟨t.ps.length - (j+1),_,by omega,⟨j+1,acc++[p],by omega,rfl,(by rw[hk,hacc]), .inr ⟨cap3,by simpa using hcp3,by rw[List.length_append];rfl⟩⟩,E4 [0,1,2,4] (fun i hi=>absurd hi (Nat.not_lt_zero i)) (by decide) (.cons _ _ _ _ _ rfl rfl (.cons _ _ _ _ _ rfl rfl (.cons _ _ _ _ _ rfl rfl (.cons _ _ _ _ _ rfl (Ge DX _ _ _) .nil)))) (by repeat (first|exact SubK.nil|refine SubK.cons _ _ _ _ rfl (LeA.refl _) ?_))⟩
 have hc2:=bp hb2
 have e:=Ck Av hj hc2
 refine BO (Aq (Aq (BQ (t_ (w_ (l_ (h:=s_ (h:=e_ (A6 (?_))))))))))
 rw[e,List.take_length]at hacc
 subst hacc
 refine Aj (r:= .agg (Cu t (.bs 3 0 14 t.ps.length cap))) none (h4:=(by simp[Ag,Ab,Ac,BZ DX,At,Cu])) (h5:=(LeA.refl _)) (h6:=⟨rfl,cap,hcp,rfl,rfl⟩)
theorem Fj(t:Tab)(pid:Int)(ht:TabB t):AFn Tryz.prog 63 [.agg (At t), .v (.int .i64 pid)] (fun r=>r= .tup [.agg (Av (AU t pid)), .v (.bool (Bz t pid))]):=by
 have hfew:=ht.few
 refine enter Tryz.func63 rfl rfl rfl rfl rfl 0 rfl ?_
 refine w_ (b_ (h:=AW (h:=a_ (h:=e_ (q_ (w_ (a_ (h:=e_ (Ao (?_))))))))))
 refine Ba (fun m s=>∃j:Nat,j≤t.ps.length∧m=t.ps.length - j∧(∀i y,i<j→t.ps[i]?=some y→decide (y.pid=pid)=false)∧s=⟨look [(1, .v (.int .i64 pid)),(2, .bp 0 0),(4, .bp 1 0),(6, .v (.int .i64 (j:Int)))],⟨[At t,[.v (.int .i64 0), .v (.int .i64 0), .v (.int .i64 0), .v (.int .i64 0), .v (.int .i64 0), .v (.int .i64 0), .v (.int .i64 0), .v (.int .i64 0), .v (.int .i64 0), .v (.int .i64 0), .v (.string ⟨#[]⟩), .v (.string ⟨#[]⟩), .v (.slice none 0 0), .v (.bool false)]],[]⟩⟩) (t.ps.length) ((wk 2 0)) (⟨0,Nat.zero_le _,rfl,fun i y hi=>by omega,rfl⟩) ?_
 rintro m s ⟨j,hj,rfl,ha,rfl⟩
 refine q_ (w_ (m_ (h:=f_ (h:=l_ (h:=n_ (h:=BJ (h:=e_ (?_))))))))
 refine A8 rfl (fun hb1=>?_) (fun hb1=>?_)
 ·have hc1:=bp hb1
  obtain⟨hlt,p,hy,hrow, -⟩:=CW Av hc1
  have hop:p.opens.length≤1000:=by have:=ht.opens p (Au hy);omega
  refine AG (q_ (Ao (w_ (f_ (h:=l_ (h:=m_ (h:=i_ (h:=f_ (h:=l_ (h:=m_ (h:=AQ (h:=e_ (?_)))))))))))))
  refine A8 rfl (fun hb2=>?_) (fun hb2=>?_)
  ·have hc2:=bp hb2
   have hg:LJ t pid=some p:=HU hy (decide_eq_true hc2) ha
   refine w_ (f_ (h:=l_ (h:=m_ (h:=i_ (h:=l_ (h:=?_))))))
   refine A4 rfl (AK (Mz p hop) ?_)
   rintro r rfl
   refine s_ (h:=a_ (h:=e_ (A6 (AR (A7 (A7 (AR (A7 (?_)))))))))
   refine AB ?_
   rw[AU,Bz,hg];rfl
  have hc2:=bp hb2
  refine BB (Ay (t_ (AP (m_ (h:=B8 (h:=a_ (h:=AO (?_))))))))
  refine AD ?_
  refine⟨_,_,?_,⟨j+1,by omega,rfl,Dw hy ha (decide_eq_false hc2),rfl⟩,(wk 2 0)⟩
  omega
 have hc1:=bp hb1
 have e:=Ck Av hj hc1
 subst e
 have hg:LJ t pid=none:=Ha ha
 refine BO (Aq (Aq (BQ (t_ (w_ (AT (h:=s_ (h:=a_ (h:=e_ (A6 (?_)))))))))))
 refine Aj (r:= .tup [.agg (Av (AU t pid)), .v (.bool (Bz t pid))]) none (h5:=?_) (h6:=⟨rfl,rfl,rfl⟩)
 rw[AU,Bz,hg]
 exact(by repeat (first|exact LeA.refl _|exact LeA.nil _|exact LeL.refl _|refine LeA.agg ?_|refine LeA.tup ?_|exact LeL.nil|refine LeL.cons ?_ ?_|exact LeA.any _))
theorem KU(t:Tab)(p:Prc)(ht:TabB t)(h0:0<t.ps.length)(hp:p.opens.length≤1000):AFn Tryz.prog 188 [.agg (At t), .agg (Av p)] (fun r=>r= .agg (At (FN t p))):=by
 have hfew:=ht.few
 refine enter Tryz.func188 rfl rfl rfl rfl rfl 0 rfl ?_
 refine w_ (b_ (h:=b_ (h:=AW (h:=e_ (?_)))))
 refine B5 (fun s=>∃cap,t.ps.length≤cap∧s=⟨look [(3, .bp 1 0),(4, .bp 2 0),(5, .bp 3 0)],⟨[At t,Av p,Ct,Cu t (.bs 4 0 14 (Dg (Fh p) t.ps 0).length cap),LB 14 Av (Dg (Fh p) t.ps 0) cap],[]⟩⟩) ?_ ?_
 ·skip
  refine AP (l_ (h:=?_))
  refine A4 rfl (BV [] rfl (.cons _ _ _ _ _ rfl (LeA.refl _) .nil) (by decide) .nil (V3 t ht h0) ?_)
  rintro r bc tc ⟨rfl,cap,hcap,rfl,rfl⟩
  refine⟨rfl,_,(V1 (n:=3) rfl t cap:Back _ [] _ [_,_,_,_,_,_,_]),?_⟩
  refine AW (h:=s_ (h:=AO (?_)))
  refine AD ?_
  exact⟨_,⟨cap,hcap,rfl⟩,E4 [0,1,2,7,6] (fun i hi=>absurd hi (Nat.not_lt_zero i)) (by decide) (.cons _ _ _ _ _ rfl rfl (.cons _ _ _ _ _ rfl rfl (.cons _ _ _ _ _ rfl rfl (.cons _ _ _ _ _ rfl (by rw[Jn];rfl) (.cons _ _ _ _ _ rfl (Ge DX _ _ _) .nil))))) (by repeat (first|exact SubK.nil|refine SubK.cons _ _ _ _ rfl (LeA.refl _) ?_))⟩
 rintro s ⟨cap,hcap,rfl⟩
 refine B5 (fun s=>s=⟨look [(4, .bp 2 0),(5, .bp 3 0)],⟨[At t,Av p,Ct,At (FN t p)],[]⟩⟩) ?_ ?_
 ·skip
  refine w_ (a_ (h:=e_ (Ao (?_))))
  refine Ba (fun m s=>∃j:Nat,j≤t.ps.length∧m=t.ps.length - j∧s=⟨look [(3, .bp 1 0),(4, .bp 2 0),(5, .bp 3 0),(6, .v (.int .i64 (j:Int)))],⟨[At t,Av p,Ct,Cu t (.bs 4 0 14 (Dg (Fh p) t.ps j).length cap),LB 14 Av (Dg (Fh p) t.ps j) cap],[]⟩⟩) (t.ps.length) (Bc 5 0 (by simp[Ag,Ab,Ac,BZ DX,At,Cu,Ct,Av])) (⟨0,Nat.zero_le _,rfl,rfl⟩) ?_
  rintro m s ⟨j,hj,rfl,rfl⟩
  refine q_ (w_ (m_ (h:=f_ (h:=l_ (h:=?_)))))
  refine A4 rfl (PQ rfl ?_)
  refine BJ (h:=e_ (?_))
  refine A8 rfl (fun hb1=>?_) (fun hb1=>?_)
  ·have hc1:=bp hb1
   have hlt:j<t.ps.length:=by rw[Jn]at hc1;omega
   obtain⟨x,hy⟩:∃x,t.ps[j]?=some x:=⟨_,B3 hlt⟩
   have hl1:j<(Dg (Fh p) t.ps j).length:=by rw[Jn];exact hlt
   refine AG (q_ (Ao (q_ (DT 9 (h:=AF 0 (h:=AJ 1 (h:=AN 2 (h:=?_))))))))
   refine FL (i:=3) rfl (DF (m:=j) rfl rfl rfl hl1 ⟨rfl,rfl⟩) ?_
   refine AF 4 (h:=?_)
   refine FL (i:=5) rfl (D4 rfl rfl (cA DX (R8 hy) rfl) ⟨rfl,rfl⟩) ?_
   refine AF 6 (h:=AJ 7 (h:=Hz 8 (h:=z_ (h:=t_ (?_)))))
   refine A8 rfl (fun hb2=>?_) (fun hb2=>?_)
   ·have hc2:=bp hb2
    have hu:(Dg (Fh p) t.ps j).set j p=Dg (Fh p) t.ps (j+1):=by rw[←Uz hy,Fh,if_pos hc2]
    refine AP (f_ (h:=l_ (h:=m_ (h:=l_ (h:=?_)))))
    refine A4 rfl (DF (m:=j) rfl rfl rfl hl1 ?_)
    refine K0 (Aw rfl rfl rfl rfl rfl rfl (Uu DX (x':=p) (R8 hy)) (by repeat constructor) ?_)
    refine AO (Ay (t_ (AP (m_ (h:=B8 (h:=a_ (h:=AO (?_))))))))
    refine AD ?_
    exact⟨t.ps.length - (j+1),_,by omega,⟨j+1,by omega,rfl,rfl⟩,(by first|(rw[hu,show(Dg (Fh p) t.ps j).length=(Dg (Fh p) t.ps (j+1)).length by rw[Jn,Jn]];exact Bc 5 0 (by simp[Ag,Ab,Ac,BZ DX,At,Cu,Ct,Av]))|(rw[hu];exact Bc 5 0 (by simp[Ag,Ab,Ac,BZ DX,At,Cu,Ct,Av])))⟩
   have hc2:=bp hb2
   have hu:Dg (Fh p) t.ps j=Dg (Fh p) t.ps (j+1):=cB hy (if_neg hc2)
   refine BB (Ay (t_ (AP (m_ (h:=B8 (h:=a_ (h:=AO (?_))))))))
   refine AD ?_
   exact⟨t.ps.length - (j+1),_,by omega,⟨j+1,by omega,rfl,rfl⟩,(by first|(rw[hu,show(Dg (Fh p) t.ps j).length=(Dg (Fh p) t.ps (j+1)).length by rw[Jn,Jn]];exact Bc 5 0 (by simp[Ag,Ab,Ac,BZ DX,At,Cu,Ct,Av]))|(rw[hu];exact Bc 5 0 (by simp[Ag,Ab,Ac,BZ DX,At,Cu,Ct,Av])))⟩
  have hc1:=bp hb1
  obtain rfl:j=t.ps.length:=by rw[Jn]at hc1;omega
  rw[cC]
  refine BO (Aq (Aq (BQ (?_))))
  refine AD ?_
  exact⟨_,rfl,Em 4 1 rfl (congrArg (fun x=>[At t,Av p,Ct,[.v (.int .i64 t.next), .v (.int .i64 t.nextS),x]]) (KT DX rfl rfl (by rw[List.length_map];exact hcap))) (.cons _ _ _ _ rfl (LeA.refl _) (.cons _ _ _ _ rfl (LeA.refl _) .nil))⟩
 rintro s rfl
 refine w_ (l_ (h:=s_ (h:=e_ (A6 (?_)))))
 refine AB ?_
 rfl
end
end Go.Proofs.YtbglbmnhgbgelaaGreatDoor
