/-
  Part 11 of the proof of WatchChangesP: what the statement's proof uses of the texts in wip/tpl.
-/
import Derived.Lib.AppendZerosOnto
import Derived.Test.YtbglbmnhgbgelaaGreatDoorQc10
set_option maxRecDepth 10000
set_option maxHeartbeats 4000000
set_option linter.unusedVariables false
set_option linter.unusedSimpArgs false
namespace Go.Proofs.YtbglbmnhgbgelaaGreatDoor
open Go.RowKit
def CY(s:AB):List AV:=[.v (.string s)]
theorem T6{P:Program}{ev:Operand→Option AV}{h:AH}{R:AV→AH→Prop}{d:Option Tmp}{ty:TypeId}{pos:String}{af:Array Edge}{gd:Option (Nat×Bool)}{T:TypeId}{x lo hi:Operand}{s:ByteArray}{a k:Nat}{i j:Int}(hu:P.underlying T=some .string)
    (hx:ev x=some (.v (.string s))) (hl:ev lo=some (.v (.int .i64 i))) (hh:ev hi=some (.v (.int .i64 j))) (hi':i=(a:Int)) (hj:j=(k:Int)) (h1:a≤k) (h2:k≤s.size) (hR:R (.v (.string (s.extract a k))) h):AStep P ⟨d, .slice T x (some lo) (some hi) none,ty,pos,af,gd⟩ ev h R:=by
 refine Ce (fun _ G w ec _ he=>?_) hR
 have k1:=he x (by simp[Op.operands]) _ hx
 have k2:=he lo (by simp[Op.operands]) _ hl
 have k3:=he hi (by simp[Op.operands]) _ hh
 simp only[rep]at k1 k2 k3
 subst hi' hj
 refine⟨.string (s.extract a k),?_,by simp only[rep]⟩
 simp[execOp,k1,k2,k3,Instr.sliceAt,Instr.slice,Instr.sliceBounds,Instr.sliceBound,asIntOf,run_underlying hu,h1,h2]
def Ch(s:AB):Bool:=decide (s.data.toList.head?=some 47)
def B3(s:AB):Bool:=decide (s.data.toList.getLast?=some 47)
theorem N3{s:AB}(h:0<s.size):Ch s=decide (((s[0]'h).toNat:Int)=47):=by
 unfold Ch
 rw[Wt s h,Bool.eq_iff_iff];simp
theorem N4{s:AB}(h:0<s.size):B3 s=decide (((s[s.size - 1]'(by omega)).toNat:Int)=47):=by
 unfold B3
 rw[Wu s h,Bool.eq_iff_iff];simp
theorem PX{s:AB}(h:¬0<s.size):Ch s=false:=by
 have:s.data.toList=[]:=List.eq_nil_of_length_eq_zero (by rw[←Lib.size_eq];omega)
 unfold Ch
 rw[this];rfl
theorem PY{s:AB}(h:¬0<s.size):B3 s=false:=by
 have:s.data.toList=[]:=List.eq_nil_of_length_eq_zero (by rw[←Lib.size_eq];omega)
 unfold B3
 rw[this];rfl
theorem T7{s:AB}{k:Nat}(h:k<s.size)(h47:((s[k]'h).toNat:Int)=47):s.data.toList[k]?=some 47:=by
 rw[Lib.data_getElem? s k h]
 congr 1
 refine UInt8.toNat_inj.1 ?_
 show _=47
 omega
theorem T8{s:AB}{f k:Nat}{ps:List AB}(hI:DY s.data.toList f k (Bv ps))(h:k=s.size∨s.data.toList[k]?=some 47):DY s.data.toList (k+1) (k+1) (Bv ps++one_ ((s.data.toList.drop f).take (k - f))):=by
 rcases h with h|h
 ·rw[Lib.size_eq]at h
  subst h
  exact Wp hI
 exact Wo hI h
theorem T9{s:AB}{f k:Nat}{ps:List AB}(hI:DY s.data.toList f k (Bv ps))(hk:k≤s.size)(h:k=s.size∨s.data.toList[k]?=some 47)(hf:f<k):DY s.data.toList (k+1) (k+1) (Bv (ps++[s.extract f k])):=Wv (T8 hI h) (Wr (Ws s hf hk))
theorem TA{s:AB}{f k:Nat}{ps:List AB}(hI:DY s.data.toList f k (Bv ps))(h:k=s.size∨s.data.toList[k]?=some 47)(hf:¬f<k):DY s.data.toList (k+1) (k+1) (Bv ps):=Ww (T8 hI h) (by omega)
theorem Ye{s:AB}{f k:Nat}{ps:List AB}(hI:DY s.data.toList f k (Bv ps))(h:k<s.size)(h47:¬((s[k]'h).toNat:Int)=47):DY s.data.toList f (k+1) (Bv ps):=Wn hI (Lib.data_getElem? s k h) (fun e=>h47 (by rw[e];rfl))
theorem TB(ps:List AB):ps.length≤(Cn (Bv ps)).length:=by
 induction ps with
 |nil=>simp
 |cons p ps ih=>
   have:Bv (p::ps)=p.data.toList::Bv ps:=rfl
   rw[this,FU]
   simp
   omega
theorem PZ{s:AB}{ps:List AB}(h:Bv ps=Ba s.data.toList){i:Nat}{x:AB}(hx:ps[i]?=some x):x.size≤s.size:=by
 rw[Lib.size_eq,Lib.size_eq s]
 refine X3 ?_
 rw[←h]
 exact List.mem_map.2 ⟨x,Ak hx,rfl⟩
theorem Yf{ps:List AB}{j:Nat}{x t:AB}(hx:ps[j]?=some x)(h:t.data.toList=Cn ((Bv ps).take j)):(t++(⟨#[47]⟩++x)).data.toList=Cn ((Bv ps).take (j+1)):=by
 have e:(Bv ps)[j]?=some x.data.toList:=by unfold Bv;rw[List.getElem?_map,hx];rfl
 rw[List.take_add_one,e,Ok,←h]
 simp[Cn]
theorem LZ{a b:AB}(h:a.data.toList=b.data.toList):a=b:=ByteArray.ext (Array.toList_inj.1 h)
theorem Yg{s:AB}{ps:List AB}(h:Bv ps=Ba s.data.toList){i:Nat}{x:AB}(hx:ps[i]?=some x)(hn:D5 x=false):DG s.data.toList=false:=by
 rw[←On]
 unfold L7
 rw[←h]
 have:(Bv ps).all DX=false:=List.all_eq_false.2 ⟨x.data.toList,List.mem_map.2 ⟨x,Ak hx,rfl⟩,by rw[←Mm,hn];simp⟩
 rw[this,Bool.false_and]
theorem Yh{s t1:AB}{ps:List AB}(h:Bv ps=Ba s.data.toList)(ha:∀(i:Nat) (y:AB),i<ps.length→ps[i]?=some y→D5 y=true)(ht:t1.data.toList=Cn ((Bv ps).take ps.length))(h3:¬s=⟨#[47]⟩)(h0:0<ps.length):DG s.data.toList=decide (s=t1):=by
 have hl:(Bv ps).length=ps.length:=by simp[Bv]
 rw[List.take_of_length_le (by omega)]at ht
 rw[←On]
 unfold L7
 rw[←h,←ht]
 have h1:(Bv ps).all DX=true:=List.all_eq_true.2 fun y hy=>by
  obtain⟨z,hz,rfl⟩:=List.mem_map.1 hy
  obtain⟨i,hi⟩:=List.getElem?_of_mem hz
  rw[←Mm]
  exact ha i z (Ac.1 hi).1 hi
 have h2:decide (s.data.toList=[47])=false:=decide_eq_false fun e=>h3 (LZ e)
 have h4:Bv ps≠[]:=fun e=>by rw[e]at hl;simp at hl;omega
 rw[h1,h2,decide_eq_true h4]
 simp only[Bool.true_and,Bool.false_or]
 rw[Bool.eq_iff_iff,decide_eq_true_iff,decide_eq_true_iff]
 exact⟨fun e=>LZ e,fun e=>by rw[e]⟩
theorem Yi{s:AB}{ps:List AB}(h:Bv ps=Ba s.data.toList)(h3:¬s=⟨#[47]⟩)(h0:ps.length=0):DG s.data.toList=false:=by
 have e:Bv ps=[]:=by rw[List.eq_nil_of_length_eq_zero h0];rfl
 rw[←On]
 unfold L7
 rw[←h,e]
 have h2:decide (s.data.toList=[47])=false:=decide_eq_false fun e=>h3 (LZ e)
 rw[h2]
 simp
section
theorem Pa(s:AB)(hs:s.size≤100000):AFn Tryz.prog 98 [.v (.string s)] (fun r=>∃ps:List AB,Bv ps=Ba s.data.toList∧r= .tup [.sl 1 (ps.map CY) none, .v (.bool (Ch s)), .v (.bool (B3 s))]):=by
 have hsz:=Lib.size_eq s
 refine enter Tryz.func98 rfl rfl rfl rfl rfl 0 rfl ?_
 refine w_ (a_ (h:=a_ (h:=a_ (h:=e_ (w_ (a_ (h:=e_ (w_ (a_ (h:=e_ (q_ (w_ (a_ (h:=e_ (Al (?_))))))))))))))))
 refine Qc 5 9 1 rfl (by repeat constructor) ?_
 refine Bd (fun m t=>∃(f k:Nat) (ps:List AB),k≤s.size+1∧f≤k∧ps.length≤k∧m=s.size+1 - k∧DY s.data.toList f k (Bv ps)∧t=⟨look [(0, .v (.string s)),(5, .sl 1 (ps.map CY) (some 0)),(6, .v (.int .i64 (f:Int))),(7, .v (.int .i64 (k:Int)))],⟨[],[(9,1,ps.map CY)]⟩⟩) (s.size+1) ((wk 0 1)) (⟨0,0,[],by omega,by omega,by simp,rfl,Wq _,rfl⟩) ?_
 rintro m t ⟨f,k,ps,hk,hfk,hpl,rfl,hI,rfl⟩
 refine q_ (w_ (m_ (h:=m_ (h:=n_ (h:=Km (h:=e_ (?_)))))))
 refine A7 rfl (fun hb1=>?_) (fun hb1=>?_)
 ·have hc1:=bp hb1
  refine AM (q_ (Al (w_ (m_ (h:=m_ (h:=n_ (h:=AW (h:=m_ (h:=?_)))))))))
  refine Ar false rfl rfl (fun hb2=>?_) (fun hb2=>?_)
  ·have hc2:=bp hb2
   refine A3 (h:=A3 (h:=A3 (h:=A3 (h:=AX (h:=e_ (C1 (h:=q_ (w_ (m_ (h:=m_ (h:=CC (h:=e_ (?_)))))))))))))
   refine A7 rfl (fun hb3=>?_) (fun hb3=>?_)
   ·have hc3:=bp hb3
    have hnx:=T9 hI (by omega) (.inl (by omega)) (by omega)
    refine AP (m_ (h:=m_ (h:=m_ (h:=m_ (h:=?_)))))
    refine A4 rfl (T6 (a:=f) (k:=k) Tryz.underlying9 rfl rfl rfl rfl rfl (by omega) (by omega) ?_)
    refine Bg (h:=?_)
    refine A4 rfl (EM rfl rfl rfl (by simp;omega) (by repeat constructor) ?_)
    refine a_ (h:=e_ (AP (m_ (h:=B2 (h:=a_ (h:=AO (Ay (t_ (AP (m_ (h:=B2 (h:=a_ (h:=AO (?_))))))))))))))
    refine AE ?_
    refine⟨_,_,?_,⟨_,k+1,_,by omega,by omega,(by(try simp only[List.length_append,List.length_cons,List.length_nil]);omega),rfl,hnx,rfl⟩,(by(try simp only[List.map_append,List.map_cons,List.map_nil]);exact As 0 1 rfl rfl rfl rfl ((by repeat (first|exact Sub.nil|refine Sub.cons _ _ _ rfl rfl ?_|refine Sub.any _ _ ?_|refine Sub.sl _ _ _ _ _ rfl ?_|refine Sub.slnil _ _ _ rfl ?_))))⟩
    omega
   have hc3:=bp hb3
   have hnx:=TA hI (.inl (by omega)) (by omega)
   refine AM (AP (m_ (h:=B2 (h:=a_ (h:=AO (Ay (t_ (AP (m_ (h:=B2 (h:=a_ (h:=AO (?_)))))))))))))
   refine AE ?_
   refine⟨_,_,?_,⟨_,k+1,_,by omega,by omega,(by(try simp only[List.length_append,List.length_cons,List.length_nil]);omega),rfl,hnx,rfl⟩,(by(try simp only[List.map_append,List.map_cons,List.map_nil]);exact As 0 1 rfl rfl rfl rfl ((by repeat (first|exact Sub.nil|refine Sub.cons _ _ _ rfl rfl ?_|refine Sub.any _ _ ?_|refine Sub.sl _ _ _ _ _ rfl ?_|refine Sub.slnil _ _ _ rfl ?_))))⟩
   omega
  have hc2:=bp hb2
  refine m_ (h:=m_ (h:=?_))
  refine B0 (GW (n:=k) Tryz.underlying9 rfl rfl rfl (by omega) ?_)
  refine AW (h:=Af (h:=e_ (?_)))
  refine A7 rfl (fun hb4=>?_) (fun hb4=>?_)
  ·have hc4:=bp hb4
   refine q_ (w_ (m_ (h:=m_ (h:=CC (h:=e_ (?_))))))
   refine A7 rfl (fun hb5=>?_) (fun hb5=>?_)
   ·have hc5:=bp hb5
    have hnx:=T9 hI (by omega) (.inr (T7 (by omega) hc4)) (by omega)
    refine AP (m_ (h:=m_ (h:=m_ (h:=m_ (h:=?_)))))
    refine A4 rfl (T6 (a:=f) (k:=k) Tryz.underlying9 rfl rfl rfl rfl rfl (by omega) (by omega) ?_)
    refine Bg (h:=?_)
    refine A4 rfl (EM rfl rfl rfl (by simp;omega) (by repeat constructor) ?_)
    refine a_ (h:=e_ (AP (m_ (h:=B2 (h:=a_ (h:=AO (Ay (t_ (AP (m_ (h:=B2 (h:=a_ (h:=AO (?_))))))))))))))
    refine AE ?_
    refine⟨_,_,?_,⟨_,k+1,_,by omega,by omega,(by(try simp only[List.length_append,List.length_cons,List.length_nil]);omega),rfl,hnx,rfl⟩,(by(try simp only[List.map_append,List.map_cons,List.map_nil]);exact As 0 1 rfl rfl rfl rfl ((by repeat (first|exact Sub.nil|refine Sub.cons _ _ _ rfl rfl ?_|refine Sub.any _ _ ?_|refine Sub.sl _ _ _ _ _ rfl ?_|refine Sub.slnil _ _ _ rfl ?_))))⟩
    omega
   have hc5:=bp hb5
   have hnx:=TA hI (.inr (T7 (by omega) hc4)) (by omega)
   refine AM (AP (m_ (h:=B2 (h:=a_ (h:=AO (Ay (t_ (AP (m_ (h:=B2 (h:=a_ (h:=AO (?_)))))))))))))
   refine AE ?_
   refine⟨_,_,?_,⟨_,k+1,_,by omega,by omega,(by(try simp only[List.length_append,List.length_cons,List.length_nil]);omega),rfl,hnx,rfl⟩,(by(try simp only[List.map_append,List.map_cons,List.map_nil]);exact As 0 1 rfl rfl rfl rfl ((by repeat (first|exact Sub.nil|refine Sub.cons _ _ _ rfl rfl ?_|refine Sub.any _ _ ?_|refine Sub.sl _ _ _ _ _ rfl ?_|refine Sub.slnil _ _ _ rfl ?_))))⟩
   omega
  have hc4:=bp hb4
  have hnx:=Ye hI (by omega) hc4
  refine B4 (Ay (t_ (AP (m_ (h:=B2 (h:=a_ (h:=AO (?_))))))))
  refine AE ?_
  refine⟨_,_,?_,⟨_,k+1,_,by omega,by omega,(by(try simp only[List.length_append,List.length_cons,List.length_nil]);omega),rfl,hnx,rfl⟩,(by(try simp only[List.map_append,List.map_cons,List.map_nil]);exact As 0 1 rfl rfl rfl rfl ((by repeat (first|exact Sub.nil|refine Sub.cons _ _ _ rfl rfl ?_|refine Sub.any _ _ ?_|refine Sub.sl _ _ _ _ _ rfl ?_|refine Sub.slnil _ _ _ rfl ?_))))⟩
  omega
 have hc1:=bp hb1
 refine BK (Aj (Aj (BL (t_ (q_ (DV 23 (h:=AN 0 (h:=AN 1 (h:=Jd 2 (h:=OB 3 (h:=AN 4 (h:=?_))))))))))))
 refine Gq (j:=4) rfl (fun hb6=>?_) (fun hb6=>?_)
 ·have hc6:=bp hb6
  refine AN 5 (h:=?_)
  refine F0 (i:=6) rfl (GW (n:=0) Tryz.underlying9 rfl rfl rfl (by omega) ⟨rfl,rfl⟩) ?_
  refine GS 7 (h:=Gx 8 (h:=AN 9 (h:=Jd 10 (h:=OB 11 (h:=AN 12 (h:=?_))))))
  refine Gq (j:=12) rfl (fun hb7=>?_) (fun hb7=>?_)
  ·have hc7:=bp hb7
   refine AN 13 (h:=AN 14 (h:=Jd 15 (h:=OA 16 (h:=?_))))
   refine F0 (i:=17) rfl (GW (n:=s.size - 1) Tryz.underlying9 rfl rfl (by omega) (by omega) ⟨rfl,rfl⟩) ?_
   refine GS 18 (h:=Gx 19 (h:=B6 20 (h:=B6 21 (h:=B6 22 (h:=z_ (h:=t_ (A6 (?_))))))))
   refine AD ?_
   refine⟨ps,Ml hI (by omega),?_⟩
   (rw[N3 (by omega),N4 (by omega)];rfl)
  have hc7:=bp hb7
  refine BW 13 (h:=BW 14 (h:=BW 15 (h:=BW 16 (h:=BW 17 (h:=BW 18 (h:=FP 19 (h:=B6 20 (h:=B6 21 (h:=B6 22 (h:=z_ (h:=t_ (A6 (?_)))))))))))))
  refine AD ?_
  refine⟨ps,Ml hI (by omega),?_⟩
  first|(rw[N3 (by omega),N4 (by omega)];rfl)|(rw[PX (by omega),PY (by omega)];rfl)|(exfalso;omega)
 have hc6:=bp hb6
 refine BW 5 (h:=BW 6 (h:=BW 7 (h:=FP 8 (h:=AN 9 (h:=Jd 10 (h:=OB 11 (h:=AN 12 (h:=?_))))))))
 refine Gq (j:=12) rfl (fun hb8=>?_) (fun hb8=>?_)
 ·have hc8:=bp hb8
  refine AN 13 (h:=AN 14 (h:=Jd 15 (h:=OA 16 (h:=?_))))
  refine F0 (i:=17) rfl (GW (n:=s.size - 1) Tryz.underlying9 rfl rfl (by omega) (by omega) ⟨rfl,rfl⟩) ?_
  refine GS 18 (h:=Gx 19 (h:=B6 20 (h:=B6 21 (h:=B6 22 (h:=z_ (h:=t_ (A6 (?_))))))))
  refine AD ?_
  refine⟨ps,Ml hI (by omega),?_⟩
  first|(rw[N3 (by omega),N4 (by omega)];rfl)|(rw[PX (by omega),PY (by omega)];rfl)|(exfalso;omega)
 have hc8:=bp hb8
 refine BW 13 (h:=BW 14 (h:=BW 15 (h:=BW 16 (h:=BW 17 (h:=BW 18 (h:=FP 19 (h:=B6 20 (h:=B6 21 (h:=B6 22 (h:=z_ (h:=t_ (A6 (?_)))))))))))))
 refine AD ?_
 refine⟨ps,Ml hI (by omega),?_⟩
 first|(rw[N3 (by omega),N4 (by omega)];rfl)|(rw[PX (by omega),PY (by omega)];rfl)
theorem TC(s:AB)(hs:s.size≤50000):AFn Tryz.prog 55 [.v (.string s)] (fun r=>r= .v (.bool (DG s.data.toList))):=by
 have hsz:=Lib.size_eq s
 refine enter Tryz.func55 rfl rfl rfl rfl rfl 0 rfl ?_
 refine w_ (a_ (h:=e_ (w_ (m_ (h:=?_)))))
 refine A4 rfl (AK (Pa s (by omega)) ?_)
 rintro r ⟨ps,hps,rfl⟩
 have hpl:(ps.map CY).length=ps.length:=by simp
 have hfl:=Oq s.data.toList
 rw[←hps]at hfl
 have hpm:=TB ps
 refine m_ (h:=x_ (h:=x_ (h:=x_ (h:=a_ (h:=a_ (h:=a_ (h:=e_ (w_ (a_ (h:=e_ (q_ (w_ (a_ (h:=e_ (Al (?_))))))))))))))))
 refine Bd (fun m t=>∃(j:Nat) (t1:AB),j≤ps.length∧m=ps.length - j∧(∀i y,i<j→ps[i]?=some y→D5 y=true)∧t1.data.toList=Cn ((Bv ps).take j)∧t=⟨look [(0, .v (.string s)),(3, .sl 1 (ps.map CY) none),(6, .v (.string t1)),(7, .v (.int .i64 (j:Int)))],⟨[],[]⟩⟩) (ps.length) ((wk 0 0)) (⟨0,⟨#[]⟩,by omega,rfl,fun i y hi=>by omega,rfl,rfl⟩) ?_
 rintro m t ⟨j,t1,hj,rfl,ha,ht1,rfl⟩
 refine q_ (w_ (m_ (h:=m_ (h:=n_ (h:=BH (h:=e_ (?_)))))))
 refine A7 rfl (fun hb1=>?_) (fun hb1=>?_)
 ·have hc1:=bp hb1
  obtain⟨hlt,x,hy,hrow, -⟩:=CX CY hc1
  have ht2:t1.size≤s.size+1:=by rw[Lib.size_eq,ht1];exact Nat.le_trans (X0 _ _) (by omega)
  refine AM (q_ (Al (q_ (w_ (m_ (h:=m_ (h:=?_)))))))
  refine A4 rfl (Ck (n:=j) rfl rfl rfl hrow ?_)
  refine l_ (h:=?_)
  refine A4 rfl (AK (OF x (by have:=PZ hps hy;omega)) ?_)
  rintro r rfl
  refine BR (h:=e_ (?_))
  refine A7 rfl (fun hb2=>?_) (fun hb2=>?_)
  ·have hc2:=bp hb2
   refine w_ (a_ (h:=e_ (A6 (A9 (Ag (A9 (A9 (Ag (A9 (?_))))))))))
   refine AD ?_
   exact vb (Yg hps hy hc2).symm
  have hc2:=bp hb2
  refine AM (AP (m_ (h:=m_ (h:=m_ (h:=?_)))))
  refine A4 rfl (Ck (n:=j) rfl rfl rfl hrow ?_)
  refine l_ (h:=?_)
  refine A4 rfl (EA rfl rfl (by have:=PZ hps hy;show 1+x.size≤_;omega) ?_)
  refine A4 rfl (EA rfl rfl (by have:=PZ hps hy;rw[ByteArray.size_append];show t1.size+(1+x.size)≤_;omega) ?_)
  refine a_ (h:=AO (Ay (t_ (AP (m_ (h:=B2 (h:=a_ (h:=AO (?_)))))))))
  refine AE ?_
  refine⟨_,_,?_,⟨j+1,t1++(⟨#[47]⟩++x),by omega,rfl,EQ hy ha hc2,Yf hy ht1,rfl⟩,(wk 0 0)⟩
  omega
 have hc1:=bp hb1
 refine BK (Aj (Aj (BL (t_ (w_ (m_ (h:=AW (h:=m_ (h:=?_)))))))))
 refine Ar false rfl rfl (fun hb3=>?_) (fun hb3=>?_)
 ·have hc3:=bp hb3
  refine A3 (h:=A3 (h:=A3 (h:=A3 (h:=EO (h:=EO (h:=EO (h:=A3 (h:=AX (h:=a_ (h:=e_ (A6 (?_))))))))))))
  refine AD ?_
  exact vb (by rw[hc3];rfl)
 have hc3:=bp hb3
 refine m_ (h:=n_ (h:=CC (h:=m_ (h:=?_))))
 refine Ar true rfl rfl (fun hb4=>?_) (fun hb4=>?_)
 ·have hc4:=bp hb4
  refine m_ (h:=m_ (h:=AW (h:=AX (h:=Af (h:=a_ (h:=e_ (A6 (?_))))))))
  refine AD ?_
  have e:=Cl CY hj hc1
  subst e
  exact vb (Yh hps ha ht1 hc3 (by omega)).symm
 have hc4:=bp hb4
 refine A3 (h:=A3 (h:=A3 (h:=Af (h:=Af (h:=a_ (h:=e_ (A6 (?_))))))))
 refine AD ?_
 have e:=Cl CY hj hc1
 subst e
 exact vb (Yi hps hc3 (by omega)).symm
end
theorem TD{f:AR}{a:A8}(h:Ai f a=true):(AT f a).ino=a.2:=by
 obtain⟨q,d,m,_,_,_,h4,h5,_⟩:=JJ (f:=f) (a:=a) (by rw[h];simp)
 rw[h5,h4]
theorem Pb{s:Spc}{d:Int}(h:(BZ s d).isSome=true):BZ s d=some ((BZ s d).getD (0,0)):=by
 cases ho:BZ s d with
 |none=>rw[ho]at h;cases h
 |some o=>rfl
theorem Yj{s:Spc}{d:Int}(h:(BZ s d).isSome=false):BZ s d=none:=by
 cases ho:BZ s d with
 |none=>rfl
 |some o=>rw[ho]at h;cases h
theorem N5{s:Spc}{a:A8}(k:Nat)(h:Ai s.files a=false):D8 s (k+1) a=(0,0):=by unfold D8;rw[h];rfl
theorem TE{s:Spc}{a:A8}(k:Nat)(h:Ai s.files a=true)(h1:¬a.2=1):D8 s (k+1) a=(a.1,(AT s.files a).parent):=by unfold D8;rw[if_pos h,if_pos h1]
theorem TF{s:Spc}{a:A8}(k:Nat)(h:Ai s.files a=true)(h1:a.2=1)(ho:(BZ s a.1).isSome=true):D8 s (k+1) a=D8 s k ((BZ s a.1).getD (0,0)):=by
 conv=>lhs;unfold D8
 rw[if_pos h,if_neg (by simpa using h1),Pb ho]
 rfl
theorem TG{s:Spc}{a:A8}(k:Nat)(h:Ai s.files a=true)(h1:a.2=1)(ho:(BZ s a.1).isSome=false):D8 s (k+1) a=a:=by
 conv=>lhs;unfold D8
 rw[if_pos h,if_neg (by simpa using h1),Yj ho]
section
theorem TH{s:Spc}(hs:SpcB s)(hv:SpcV s)(a:A8)
    (hrec:Ai s.files a=true→∀b,Cf s a=some b→AFn Tryz.prog 102 [.agg (Ap s), .agg (AA b)] (fun r=>r= .tup [.v (.string (BS s b).1), .v (.bool (BS s b).2)])):
    AFn Tryz.prog 102 [.agg (Ap s), .agg (AA a)] (fun r=>r= .tup [.v (.string (BS s a).1), .v (.bool (BS s a).2)]):=by
 have hnm:=PR hv.files a
 have hwz:=PW hv
 refine enter Tryz.func102 rfl rfl rfl rfl rfl 0 rfl ?_
 refine w_ (b_ (h:=b_ (h:=a_ (h:=a_ (h:=e_ (q_ (w_ (f_ (h:=l_ (h:=l_ (h:=?_)))))))))))
 refine A4 rfl (AK (Fl s.files a hs.files) ?_)
 rintro r rfl
 refine BR (h:=m_ (h:=?_))
 refine Ar false rfl rfl (fun hb1=>?_) (fun hb1=>?_)
 ·have hc1:=bp hb1
  refine A3 (h:=A3 (h:=A3 (h:=A3 (h:=A3 (h:=AX (h:=e_ (C1 (h:=w_ (a_ (h:=a_ (h:=e_ (A6 (A9 (?_))))))))))))))
  refine AD ?_
  (rw[Jz hv (by simp_all)];rfl)
 have hc1:=bp hb1
 refine l_ (h:=f_ (h:=l_ (h:=?_)))
 refine B0 (AK (OJ s a.1 hs) ?_)
 rintro r rfl
 refine BR (h:=Af (h:=e_ (?_)))
 refine A7 rfl (fun hb2=>?_) (fun hb2=>?_)
 ·have hc2:=bp hb2
  refine w_ (a_ (h:=a_ (h:=e_ (A6 (A9 (?_))))))
  refine AD ?_
  (rw[Jz hv (by simp_all)];rfl)
 have hc2:=bp hb2
 refine AM (q_ (w_ (f_ (h:=l_ (h:=AW (h:=e_ (?_)))))))
 refine A7 rfl (fun hb3=>?_) (fun hb3=>?_)
 ·have hc3:=bp hb3
  refine q_ (w_ (l_ (h:=f_ (h:=l_ (h:=?_)))))
  refine A4 rfl (AK (OH s a.1 hs) ?_)
  rintro r rfl
  refine m_ (h:=x_ (h:=x_ (h:=AY (h:=s_ (h:=a_ (h:=e_ (w_ (m_ (h:=e_ (?_))))))))))
  refine A7 rfl (fun hb4=>?_) (fun hb4=>?_)
  ·have hc4:=bp hb4
   have hst:Cf s a=some ((BZ s a.1).getD (0,0)):=by unfold Cf;rw[if_neg (by simpa using hc3)];exact Pb hc4
   obtain⟨hw1,hw2⟩:=Sy hv hc1 hc2 (fun e=>by rw[e,PV hv]at hc4;cases hc4) hst
   rw[if_pos hc3]at hw1
   refine w_ (l_ (h:=l_ (h:=?_)))
   refine A4 rfl (AK (hrec hc1 _ hst) ?_)
   rintro r rfl
   skip
   refine x_ (h:=x_ (h:=a_ (h:=a_ (h:=e_ (A6 (A9 (A9 (?_))))))))
   refine AD ?_
   first|(rw[Jz hv (by simp_all)];rfl)|(rw[hw1];first|rfl|(rw[←hw2];rfl))
  have hc4:=bp hb4
  have h00:a=(0,1):=by
   refine Prod.ext ?_ hc3
   have:=hc2
   unfold Bu at this
   rw[hc4,Bool.false_or]at this
   exact of_decide_eq_true this
  refine AM (w_ (a_ (h:=a_ (h:=e_ (A6 (A9 (?_)))))))
  refine AD ?_
  first|(rw[Jz hv (by simp_all)];rfl)|(rw[hw1];first|rfl|(rw[←hw2];rfl))|(rw[h00,YU hv (by rw[←h00];exact hc1)];rfl)
 have hc3:=bp hb3
 have hst:Cf s a=some (a.1,(AT s.files a).parent):=if_pos hc3
 obtain⟨hw1,hw2⟩:=Sy hv hc1 hc2 (fun e=>hc3 (by rw[e])) hst
 rw[if_neg hc3]at hw1
 refine AM (w_ (f_ (h:=l_ (h:=l_ (h:=?_)))))
 refine A4 rfl (AK (DW s.files a hs.files) ?_)
 rintro r rfl
 refine m_ (h:=x_ (h:=x_ (h:=AY (h:=s_ (h:=a_ (h:=e_ (w_ (l_ (h:=f_ (h:=l_ (h:=f_ (h:=l_ (h:=AU (h:=?_))))))))))))))
 refine A4 rfl (AK (hrec hc1 _ hst) ?_)
 rintro r rfl
 skip
 refine m_ (h:=x_ (h:=x_ (h:=a_ (h:=a_ (h:=e_ (w_ (m_ (h:=f_ (h:=l_ (h:=l_ (h:=?_)))))))))))
 refine A4 rfl (AK (Yd s a hs) ?_)
 rintro r rfl
 refine A4 rfl (AK (T5 (BS s (a.1,(AT s.files a).parent)).1 (Bq s a) (by have:=hwz (a.1,(AT s.files a).parent);omega) (by omega)) ?_)
 rintro r rfl
 refine m_ (h:=a_ (h:=a_ (h:=e_ (A6 (?_)))))
 refine AD ?_
 first|(rw[Jz hv (by simp_all)];rfl)|(rw[hw1];first|rfl|(rw[←hw2];rfl))
theorem Yk{s:Spc}(hs:SpcB s)(hv:SpcV s)(a:A8):AFn Tryz.prog 102 [.agg (Ap s), .agg (AA a)] (fun r=>r= .tup [.v (.string (BS s a).1), .v (.bool (BS s a).2)]):=by
 have key:∀(k:Nat) (a:A8),ends s k a→AFn Tryz.prog 102 [.agg (Ap s), .agg (AA a)] (fun r=>r= .tup [.v (.string (BS s a).1), .v (.bool (BS s a).2)]):=by
  intro k
  induction k with
  |zero=>intro a h;exact TH hs hv a fun hd=>by rw[show Ai s.files a=false from h]at hd;cases hd
  |succ k ih=>intro a h;exact TH hs hv a fun hd b hb=>ih b (h.resolve_left (by rw[hd];simp) b hb)
 exact key _ a (GG hv a)
theorem Yl{s:Spc}(hs:SpcB s)(a:A8)(p:Nat)(hrec:(BZ s a.1).isSome=true→AFn Tryz.prog 101 [.agg (Ap s), .agg (AA ((BZ s a.1).getD (0,0)))] (fun r=>r= .agg (AA (D8 s p ((BZ s a.1).getD (0,0)))))):
    AFn Tryz.prog 101 [.agg (Ap s), .agg (AA a)] (fun r=>r= .agg (AA (D8 s (p+1) a))):=by
 have hde:=FR s.files a
 refine enter Tryz.func101 rfl rfl rfl rfl rfl 0 rfl ?_
 refine w_ (b_ (h:=b_ (h:=AY (h:=e_ (w_ (f_ (h:=l_ (h:=l_ (h:=?_)))))))))
 refine A4 rfl (AK (DW s.files a hs.files) ?_)
 rintro r rfl
 refine m_ (h:=x_ (h:=x_ (h:=AY (h:=s_ (h:=a_ (h:=e_ (q_ (w_ (m_ (h:=BR (h:=m_ (h:=?_))))))))))))
 refine Ar false rfl rfl (fun hb1=>?_) (fun hb1=>?_)
 ·have hc1:=bp hb1
  refine A3 (h:=A3 (h:=A3 (h:=AX (h:=e_ (C1 (h:=w_ (AU (h:=s_ (h:=e_ (A6 (A9 (?_))))))))))))
  refine AD ?_
  rw[N5 p (by rw[hde,hc1];rfl)]
  rfl
 have hc1:=bp hb1
 refine f_ (h:=l_ (h:=BN (h:=Af (h:=e_ (?_)))))
 refine A7 rfl (fun hb2=>?_) (fun hb2=>?_)
 ·have hc2:=bp hb2
  refine w_ (AU (h:=s_ (h:=e_ (A6 (A9 (?_))))))
  refine AD ?_
  rw[N5 p (by rw[hde,decide_eq_false hc2,Bool.and_false])]
  rfl
 have hc2:=bp hb2
 refine AM (q_ (w_ (f_ (h:=l_ (h:=BN (h:=e_ (?_)))))))
 refine A7 rfl (fun hb3=>?_) (fun hb3=>?_)
 ·have hc3:=bp hb3
  refine w_ (f_ (h:=l_ (h:=f_ (h:=l_ (h:=AU (h:=s_ (h:=e_ (A6 (A9 (?_))))))))))
  refine AD ?_
  rw[TE p (by rw[hde,hc1,decide_eq_true hc2];rfl) hc3]
  rfl
 have hc3:=bp hb3
 refine AM (q_ (w_ (l_ (h:=f_ (h:=l_ (h:=?_))))))
 refine A4 rfl (AK (OH s a.1 hs) ?_)
 rintro r rfl
 refine m_ (h:=x_ (h:=x_ (h:=AY (h:=s_ (h:=a_ (h:=e_ (w_ (m_ (h:=e_ (?_))))))))))
 refine A7 rfl (fun hb4=>?_) (fun hb4=>?_)
 ·have hc4:=bp hb4
  refine w_ (l_ (h:=l_ (h:=?_)))
  refine A4 rfl (AK (hrec hc4) ?_)
  rintro r rfl
  refine s_ (h:=e_ (A6 (A9 (?_))))
  refine AD ?_
  rw[TF p (by rw[hde,hc1,decide_eq_true hc2];rfl) hc3 hc4]
  rfl
 have hc4:=bp hb4
 refine AM (w_ (l_ (h:=s_ (h:=e_ (A6 (?_))))))
 refine AD ?_
 rw[TG p (by rw[hde,hc1,decide_eq_true hc2];rfl) hc3 hc4]
 rfl
theorem Ym{s:Spc}(hs:SpcB s)(hv:SpcV s):∀(p:Nat) (a:A8),Hh s a.1<p→AFn Tryz.prog 101 [.agg (Ap s), .agg (AA a)] (fun r=>r= .agg (AA (D8 s p a))):=by
 intro p
 induction p with
 |zero=>intro a h;omega
 |succ p ih=>intro a hp;exact Yl hs a p fun ho=>ih _ (by have:=Sg hv (Pb ho);omega)
theorem Yn{s:Spc}(hs:SpcB s)(hv:SpcV s)(a:A8):AFn Tryz.prog 135 [.agg (Ap s), .agg (AA a)] (fun r=>r= .agg (AA (D8 s (s.mounts.length+1) a))):=by
 have hfew:=hs.few
 have hml:(s.mounts.map Cm).length=s.mounts.length:=by simp
 refine enter Tryz.func135 rfl rfl rfl rfl rfl 0 rfl ?_
 refine w_ (b_ (h:=b_ (h:=AY (h:=e_ (q_ (w_ (f_ (h:=l_ (h:=n_ (h:=B2 (h:=m_ (h:=e_ (Al (?_))))))))))))))
 refine Bd (fun m t=>∃(j:Nat) (b:A8),j≤s.mounts.length+1∧m=s.mounts.length+1 - j∧D8 s (s.mounts.length+1 - j) b=D8 s (s.mounts.length+1) a∧t=⟨look [(2, .bp 0 0),(3, .bp 1 0),(4, .bp 2 0),(11, .v (.int .i64 (((s.mounts.map Cm).length:Int)+1))),(12, .v (.int .i64 (j:Int)))],⟨[Ap s,AA b,[.v (.int .i64 0), .v (.int .i64 0)]],[]⟩⟩) (s.mounts.length+1) ((wk 3 0)) (⟨0,a,by omega,rfl,rfl,rfl⟩) ?_
 rintro m t ⟨j,b,hj,rfl,hit,rfl⟩
 have hde:=FR s.files b
 refine w_ (BH (h:=e_ (q_ (?_))))
 refine A7 rfl (fun hb1=>?_) (fun hb1=>?_)
 ·have hc1:=bp hb1
  obtain⟨k,hk⟩:∃k,s.mounts.length+1 - j=k+1:=⟨s.mounts.length - j,by omega⟩
  rw[hk]at hit
  refine AM (q_ (Al (w_ (f_ (h:=l_ (h:=l_ (h:=?_)))))))
  refine A4 rfl (AK (G9 s.files b hs.files) ?_)
  rintro r rfl
  refine m_ (h:=x_ (h:=x_ (h:=AY (h:=s_ (h:=a_ (h:=e_ (q_ (w_ (m_ (h:=BR (h:=m_ (h:=?_))))))))))))
  refine Ar false rfl rfl (fun hb2=>?_) (fun hb2=>?_)
  ·have hc2:=bp hb2
   refine A3 (h:=A3 (h:=A3 (h:=AX (h:=e_ (C1 (h:=w_ (AU (h:=s_ (h:=e_ (A6 (A9 (Ag (A9 (A9 (Ag (A9 (?_)))))))))))))))))
   refine AD ?_
   rw[←hit,N5 k (by rw[hde,hc2];rfl)]
   rfl
  have hc2:=bp hb2
  refine f_ (h:=l_ (h:=BN (h:=Af (h:=e_ (?_)))))
  refine A7 rfl (fun hb3=>?_) (fun hb3=>?_)
  ·have hc3:=bp hb3
   refine w_ (AU (h:=s_ (h:=e_ (A6 (A9 (Ag (A9 (A9 (Ag (A9 (?_)))))))))))
   refine AD ?_
   rw[←hit,N5 k (by rw[hde,decide_eq_false hc3,Bool.and_false])]
   rfl
  have hc3:=bp hb3
  refine AM (q_ (w_ (f_ (h:=l_ (h:=BN (h:=e_ (?_)))))))
  refine A7 rfl (fun hb4=>?_) (fun hb4=>?_)
  ·have hc4:=bp hb4
   have hdd:Ai s.files b=true:=by rw[hde,hc2,decide_eq_true hc3];rfl
   have hb1:¬b.2=1:=by rw[←TD hdd];exact hc4
   refine w_ (f_ (h:=l_ (h:=f_ (h:=l_ (h:=AU (h:=s_ (h:=e_ (A6 (A9 (Ag (A9 (A9 (Ag (A9 (?_)))))))))))))))
   refine AD ?_
   rw[←hit,TE k hdd hb1]
   rfl
  have hc4:=bp hb4
  have hdd:Ai s.files b=true:=by rw[hde,hc2,decide_eq_true hc3];rfl
  have hb1:b.2=1:=by rw[←TD hdd];exact hc4
  refine AM (w_ (l_ (h:=f_ (h:=l_ (h:=?_)))))
  refine A4 rfl (AK (OK s b.1 hs) ?_)
  rintro r rfl
  refine m_ (h:=x_ (h:=x_ (h:=AY (h:=s_ (h:=a_ (h:=e_ (q_ (w_ (m_ (h:=BR (h:=m_ (h:=?_))))))))))))
  refine Ar false rfl rfl (fun hb5=>?_) (fun hb5=>?_)
  ·have hc5:=bp hb5
   refine A3 (h:=A3 (h:=A3 (h:=AX (h:=e_ (C1 (h:=w_ (l_ (h:=s_ (h:=e_ (A6 (A9 (Ag (A9 (A9 (Ag (A9 (?_)))))))))))))))))
   refine AD ?_
   rw[←hit,TG k hdd hb1 hc5]
   rfl
  have hc5:=bp hb5
  refine f_ (h:=l_ (h:=AW (h:=Af (h:=e_ (?_)))))
  refine A7 rfl (fun hb6=>?_) (fun hb6=>?_)
  ·have hc6:=bp hb6
   refine w_ (l_ (h:=s_ (h:=e_ (A6 (A9 (Ag (A9 (A9 (Ag (A9 (?_)))))))))))
   refine AD ?_
   exfalso
   rw[hc6,PV hv]at hc5
   cases hc5
  have hc6:=bp hb6
  refine AM (AP (l_ (h:=s_ (h:=AO (Ay (t_ (AP (B2 (h:=m_ (h:=AO (?_)))))))))))
  refine AE ?_
  refine⟨_,_,?_,⟨j+1,((BZ s b.1).getD (0,0)),by omega,rfl,(by rw[←hit,TF k hdd hb1 hc5,show s.mounts.length+1 - (j+1)=k by omega]),rfl⟩,(wk 3 0)⟩
  omega
 have hc1:=bp hb1
 refine BK (Aj (Aj (BL (t_ (w_ (l_ (h:=s_ (h:=e_ (A6 (?_))))))))))
 refine AD ?_
 have ej:s.mounts.length+1 - j=0:=by omega
 rw[ej]at hit
 rw[←hit]
 rfl
end
end Go.Proofs.YtbglbmnhgbgelaaGreatDoor
namespace Go.Proofs.YtbglbmnhgbgelaaGreatDoor
section
variable {s:Spc}(hv:SpcV s)
include hv
omit hv in
theorem Pc{a:A8}(h:(BS s a).2=true):Ai s.files a=true∧Bu s a.1=true:=by
 unfold BS at h
 split at h
 ·rename_i c;exact⟨c.1,c.2.1⟩
 cases h
theorem TJ{d:Int}(h0:0≤d)(h1:d<(s.files.length:Int)):Ai s.files (d,1)=true:=by
 obtain⟨q,rfl⟩:=Int.eq_ofNat_of_zero_le h0
 have hq:s.files[q]?=some s.files[q]:=BA (by omega)
 obtain⟨r,rest,hr,h2,h3,_⟩:=(hv.files.vd _ (Ak hq)).root
 exact(JG (PT hv hq (by rw[hr];exact List.mem_cons_self ..) h2)).2 h3
end
end Go.Proofs.YtbglbmnhgbgelaaGreatDoor
namespace Go.Proofs.YtbglbmnhgbgelaaGreatDoor
structure Fnd where
 dir:A8
 name:AB
 file:A8
 ex:Bool
 slash:Bool
 path:AB
def Cx:Fnd:=⟨(0,0),⟨#[]⟩,(0,0),false,false,⟨#[]⟩⟩
def Au(x:Fnd):List AV:=[.v (.int .i64 x.dir.1), .v (.int .i64 x.dir.2), .v (.string x.name), .v (.int .i64 x.file.1), .v (.int .i64 x.file.2), .v (.bool x.ex), .v (.bool x.slash), .v (.string x.path)]
def CP(s:AB):List AB:=(Ba s.data.toList).map fun l=>⟨l.toArray⟩
theorem TK(s:AB):Bv (CP s)=Ba s.data.toList:=by
 unfold Bv CP
 rw[List.map_map]
 have:((fun x:AB=>x.data.toList) ∘ fun l:Bs=>(⟨l.toArray⟩:AB))=id:=by funext l;simp
 rw[this,List.map_id]
theorem TL:∀{a b:List AB},Bv a=Bv b→a=b
 |[],[],_=>rfl
 |[],_::_,h=>by simp[Bv]at h
 |_::_,[],h=>by simp[Bv]at h
 |x::a,y::b,h=>by
   simp only[Bv,List.map_cons,List.cons.injEq]at h
   rw[LZ h.1,TL (a:=a) (b:=b) h.2]
theorem Pd{s:AB}{ps:List AB}(h:Bv ps=Ba s.data.toList):ps=CP s:=TL (h.trans (TK s).symm)
theorem K0(s:AB):(CP s).length≤s.size+1:=by
 have h1:=TB (CP s)
 have h2:=Oq s.data.toList
 rw[←TK]at h2
 rw[Lib.size_eq]
 omega
def DK(s:Spc):A8:=CS s s.mounts.length (0,1)
structure Lk where
 ps:List AB
 dir:A8
 name:AB
 file:A8
 ex:Bool
 links:Nat
abbrev N6:AB:=⟨#[46]⟩
abbrev La:AB:=⟨#[46,46]⟩
def CE(s:Spc)(fl:Bool)(p:AB)(ps:List AB)(a:A8)(lk:Nat):Int ⊕ Lk:=
 if Ai s.files a=false then .inl 20
 else if 12<p.size then .inl 36
 else if p=N6 then .inr ⟨ps,a,⟨#[]⟩,a,true,lk⟩
 else if p=La then .inr ⟨ps,CS s s.mounts.length (D8 s (s.mounts.length+1) a),⟨#[]⟩,CS s s.mounts.length (D8 s (s.mounts.length+1) a),true,lk⟩
 else if(AG s.files a p).2≠0 then(if ps≠[]∨D5 p=false then .inl 2 else .inr ⟨[],a,p,(0,0),false,lk⟩)
 else if(AT s.files (AG s.files a p).1).kind=3∧(ps≠[]∨fl=true)then
  (if lk=8 then .inl 40 else
    .inr ⟨CP (AT s.files (AG s.files a p).1).target++ps,if Ch (AT s.files (AG s.files a p).1).target=true then DK s else a,⟨#[]⟩,if Ch (AT s.files (AG s.files a p).1).target=true then DK s else a,true,lk+1⟩)
 else .inr ⟨ps,a,p,CS s s.mounts.length (AG s.files a p).1,true,lk⟩
def N7:Lk:=⟨[],(0,0),⟨#[]⟩,(0,0),false,0⟩
def Ft(s:Spc)(fl:Bool):Nat→Lk→Int×Lk
 |0,σ=>(0,σ)
 |k+1,σ=>match σ.ps with
   |[]=>(0,σ)
   |p::ps=>match CE s fl p ps σ.file σ.links with
     | .inl e=>(e,N7)
     | .inr τ=>Ft s fl k τ
def E3(σ:Lk):Nat:=(8 - σ.links) * 200+σ.ps.length
section
variable {s:Spc}(hv:FlsV s.files)
include hv
theorem Pe{fl:Bool}{p:AB}{ps:List AB}{a:A8}{lk:Nat}{τ:Lk}(h8:lk≤8)(h:CE s fl p ps a lk= .inr τ):τ.links≤8∧E3 τ<(8 - lk) * 200+(ps.length+1):=by
 unfold CE at h
 split at h
 ·cases h
 split at h
 ·cases h
 split at h
 ·injection h with h;subst h;exact⟨h8,by unfold E3;simp only;omega⟩
 split at h
 ·injection h with h;subst h;exact⟨h8,by unfold E3;simp only;omega⟩
 split at h
 ·split at h
  ·cases h
  injection h with h;subst h;exact⟨h8,by unfold E3;simp only[List.length_nil];omega⟩
 split at h
 ·split at h
  ·cases h
  rename_i h9
  injection h with h
  subst h
  have ht:=LS hv (AG s.files a p).1
  have hl:=K0 (AT s.files (AG s.files a p).1).target
  refine⟨by simp only;omega,?_⟩
  unfold E3
  simp only[List.length_append]
  have:(8 - lk) * 200=(8 - (lk+1)) * 200+200:=by
   rw[show 8 - lk=(8 - (lk+1))+1 by omega,Nat.add_mul]
  omega
 injection h with h;subst h;exact⟨h8,by unfold E3;simp only;omega⟩
theorem Yo(fl:Bool):∀(k k':Nat) (σ:Lk),σ.links≤8→E3 σ≤k→E3 σ≤k'→Ft s fl k σ=Ft s fl k' σ:=by
 intro k
 induction k with
 |zero=>
   intro k' σ h8 h h'
   have he:σ.ps=[]:=by
    unfold E3 at h
    exact List.eq_nil_of_length_eq_zero (by omega)
   cases k' with
   |zero=>rfl
   |succ k'=>unfold Ft;rw[he]
 |succ k ih=>
   intro k' σ h8 h h'
   cases hps:σ.ps with
   |nil=>cases k'<;>(unfold Ft;rw[hps])
   |cons p ps=>
     have hm:E3 σ=(8 - σ.links) * 200+(ps.length+1):=by unfold E3;rw[hps];rfl
     cases k' with
     |zero=>rw[hm]at h';omega
     |succ k'=>
       unfold Ft
       rw[hps]
       simp only
       cases hs:CE s fl p ps σ.file σ.links with
       |inl e=>rfl
       |inr τ=>
         simp only
         obtain⟨h1,h2⟩:=Pe hv h8 hs
         exact ih k' τ h1 (by omega) (by omega)
end
def DL(s:Spc)(fl:Bool)(σ:Lk):Int×Lk:=Ft s fl (E3 σ) σ
theorem Pg{s:Spc}{fl:Bool}{σ:Lk}(h:σ.ps=[]):DL s fl σ=(0,σ):=by
 unfold DL
 cases E3 σ with
 |zero=>rfl
 |succ k=>unfold Ft;rw[h]
theorem TM{s:Spc}(hv:FlsV s.files){fl:Bool}{σ:Lk}{p:AB}{ps:List AB}(h8:σ.links≤8)(h:σ.ps=p::ps):DL s fl σ=match CE s fl p ps σ.file σ.links with
    | .inl e=>(e,N7)
    | .inr τ=>DL s fl τ:=by
 have hm:E3 σ=((8 - σ.links) * 200+ps.length)+1:=by unfold E3;rw[h];rfl
 unfold DL
 rw[hm]
 conv=>lhs;unfold Ft
 rw[h]
 simp only
 cases hs:CE s fl p ps σ.file σ.links with
 |inl e=>rfl
 |inr τ=>
   simp only
   obtain⟨h1,h2⟩:=Pe hv h8 hs
   exact Yo hv fl _ _ τ h1 (by omega) (Nat.le_refl _)
def Fu(s:Spc)(sl:Bool)(τ:Lk):Fnd:=⟨τ.dir,τ.name,τ.file,τ.ex,sl,if(BS s τ.dir).2=true then(if τ.name=⟨#[]⟩then(BS s τ.dir).1 else Co (BS s τ.dir).1 τ.name)else⟨#[]⟩⟩
def FB(ps:List AB)(a:A8):Lk:=⟨ps,a,⟨#[]⟩,a,true,0⟩
def BU(s:Spc)(start:A8)(p:AB)(fl:Bool):Fnd×Int:=
 if p=⟨#[]⟩then(Cx,2)else if 128<p.size then(Cx,36)
 else if Ai s.files (if Ch p=true then DK s else start)=false then(Cx,2)
 else if(DL s (fl||B3 p) (FB (CP p) (if Ch p=true then DK s else start))).1≠0 then(Cx,(DL s (fl||B3 p) (FB (CP p) (if Ch p=true then DK s else start))).1)
 else if B3 p=true∧(DL s (fl||B3 p) (FB (CP p) (if Ch p=true then DK s else start))).2.ex=true∧Ai s.files (DL s (fl||B3 p) (FB (CP p) (if Ch p=true then DK s else start))).2.file=false then(Cx,20)
 else(Fu s (B3 p) (DL s (fl||B3 p) (FB (CP p) (if Ch p=true then DK s else start))).2,0)
end Go.Proofs.YtbglbmnhgbgelaaGreatDoor
namespace Go.Proofs.YtbglbmnhgbgelaaGreatDoor
open Go.RowKit
structure Dsc where
 fd:Int
 file:A8
 flags:Int
structure Prc where
 pid:Int
 ppid:Int
 uid:Int
 euid:Int
 gid:Int
 egid:Int
 auid:Int
 ses:Int
 cwd:A8
 comm:AB
 exe:AB
 opens:List Dsc
 audited:Bool
structure Tab where
 next:Int
 nextS:Int
 ps:List Prc
structure Syst where
 spc:Spc
 tab:Tab
structure Cal where
 num:Int
 a0:Int
 a1:Int
 a2:Int
 a3:Int
 paths:List AB
 args:List AB
structure Res where
 exit:Int
 child:Int
 gone:Int
 items:List Itm
 changes:List CR
structure Wrk where
 s:Syst
 p:Prc
 c:Cal
 found:List Fnd
 r:Res
def Yp:Prc:=⟨0,0,0,0,0,0,0,0,(0,0),⟨#[]⟩,⟨#[]⟩,[],false⟩
def Cz:Tab:=⟨0,0,[]⟩
def FC:Res:=⟨0,0,0,[],[]⟩
def Ph(cwd:A8):Tab:=⟨2,1,[⟨1,0,0,0,0,0,4294967295,4294967295,cwd,⟨#[105,110,105,116]⟩,⟨#[47,105,110,105,116]⟩,[],true⟩]⟩
def K1(t:Tab)(pid:Int):Option Prc:=t.ps.find? fun p=>decide (p.pid=pid)
def Da(t:Tab)(pid:Int):Bool:=(K1 t pid).isSome
def Ax(t:Tab)(pid:Int):Prc:=(K1 t pid).getD Yp
def Fv(t:Tab)(p:Prc):Tab:=⟨t.next,t.nextS,t.ps.map fun x=>if x.pid=p.pid then p else x⟩
def Pi(t:Tab)(pid:Int):Tab×Int×Int:=
 if Da t pid=false then(Cz,0,3)else if 16≤(t.ps.length:Int)∨t.next=1073741824 then(Cz,0,11)
 else(⟨t.next+1,t.nextS,t.ps++[{Ax t pid with pid:=t.next,ppid:=pid}]⟩,t.next,0)
def Yq(pid:Int)(p:Prc):Prc:=if p.ppid=pid then{p with ppid:=1}else p
def TN(t:Tab)(pid:Int):Tab×Int:=
 if Da t pid=false then(Cz,3)else if pid=1 then(Cz,1)
 else(⟨t.next,t.nextS,(t.ps.filter fun p=>decide (p.pid≠pid)).map (Yq pid)⟩,0)
def Hj(priv:Bool)(real eff n:Int):Int×Int×Int:=if priv=true then(n,n,0)else if n=real∨n=eff then(real,n,0)else(0,0,1)
def Pj(n:Int):Bool:=decide (0≤n)&&decide (n<4294967295)
def Yr(t:Tab)(pid u:Int):Tab×Int:=
 if Da t pid=false then(Cz,3)else if Pj u=false then(Cz,22)
 else if(Hj (decide ((Ax t pid).euid=0)) (Ax t pid).uid (Ax t pid).euid u).2.2≠0 then(Cz,(Hj (decide ((Ax t pid).euid=0)) (Ax t pid).uid (Ax t pid).euid u).2.2)
 else(Fv t {Ax t pid with uid:=(Hj (decide ((Ax t pid).euid=0)) (Ax t pid).uid (Ax t pid).euid u).1,euid:=(Hj (decide ((Ax t pid).euid=0)) (Ax t pid).uid (Ax t pid).euid u).2.1},0)
def Ys(t:Tab)(pid u:Int):Tab×Int:=
 if Da t pid=false then(Cz,3)else if Pj u=false then(Cz,22)
 else if(Hj (decide ((Ax t pid).euid=0)) (Ax t pid).gid (Ax t pid).egid u).2.2≠0 then(Cz,(Hj (decide ((Ax t pid).euid=0)) (Ax t pid).gid (Ax t pid).egid u).2.2)
 else(Fv t {Ax t pid with gid:=(Hj (decide ((Ax t pid).euid=0)) (Ax t pid).gid (Ax t pid).egid u).1,egid:=(Hj (decide ((Ax t pid).euid=0)) (Ax t pid).gid (Ax t pid).egid u).2.1},0)
def Yt(t:Tab)(pid auid:Int):Tab×Int:=
 if Da t pid=false then(Cz,3)else if Pj auid=false then(Cz,22)
 else if(Ax t pid).auid≠4294967295∧(Ax t pid).euid≠0 then(Cz,1)else if t.nextS=1073741824 then(Cz,11)
 else(⟨t.next,t.nextS+1,(Fv t {Ax t pid with auid:=auid,ses:=t.nextS}).ps⟩,0)
def Dm:Nat→List Dsc→Nat
 |k,[]=>k
 |k,d::r=>if d.fd=(k:Int)then Dm (k+1) r else k
def K4(l:List Dsc)(fd:Nat)(x:Dsc):List Dsc:=l.take fd++x::l.drop fd
def EJ(t:Tab)(pid:Int)(a:A8)(flags:Int):Tab×Int×Int:=
 if Da t pid=false then(Cz,0,3)else if 8≤((Ax t pid).opens.length:Int)then(Cz,0,24)
 else(Fv t {Ax t pid with opens:=K4 (Ax t pid).opens (Dm 0 (Ax t pid).opens) ⟨(Dm 0 (Ax t pid).opens:Nat),a,flags⟩},(Dm 0 (Ax t pid).opens:Nat),0)
def Yu(t:Tab)(pid fd:Int):Tab×Int:=
 if Da t pid=false then(Cz,3)else if(((Ax t pid).opens.filter fun d=>decide (d.fd≠fd)).length:Int)=((Ax t pid).opens.length:Int)then(Cz,9)
 else(Fv t {Ax t pid with opens:=(Ax t pid).opens.filter fun d=>decide (d.fd≠fd)},0)
def Yv(t:Tab)(pid:Int)(dir:A8):Tab×Int:=if Da t pid=false then(Cz,3)else(Fv t {Ax t pid with cwd:=dir},0)
def Yw(t:Tab)(pid:Int)(exe comm:AB):Tab×Int:=if Da t pid=false then(Cz,3)else(Fv t {Ax t pid with exe:=exe,comm:=comm},0)
def Yx(t:Tab)(pid target:Int)(ends:Bool):Tab×Int:=
 if Da t pid=false then(Cz,3)else if Da t target=false then(Cz,3)
 else if target=1∨(Ax t pid).euid≠0∧(Ax t pid).euid≠(Ax t target).uid then(Cz,1)
 else if ends=true then TN t target else(t,0)
def JL:List (AB×Int×Int×Int×Int):=[(⟨#[102,111,114,107]⟩,0,0,0,0),
 (⟨#[101,120,101,99,118,101]⟩,0,1,0,4),
 (⟨#[101,120,105,116]⟩,1,0,0,0),
 (⟨#[115,101,116,117,105,100]⟩,1,0,0,0),
 (⟨#[115,101,116,103,105,100]⟩,1,0,0,0),
 (⟨#[108,111,103,105,110]⟩,1,0,0,0),
 (⟨#[111,112,101,110]⟩,2,1,0,0),
 (⟨#[99,108,111,115,101]⟩,1,0,0,0),
 (⟨#[108,105,110,107]⟩,0,2,0,0),
 (⟨#[115,121,109,108,105,110,107]⟩,0,1,1,1),
 (⟨#[117,110,108,105,110,107]⟩,0,1,0,0),
 (⟨#[109,107,100,105,114]⟩,1,1,0,0),
 (⟨#[114,109,100,105,114]⟩,0,1,0,0),
 (⟨#[114,101,110,97,109,101]⟩,0,2,0,0),
 (⟨#[99,104,109,111,100]⟩,1,1,0,0),
 (⟨#[99,104,111,119,110]⟩,2,1,0,0),
 (⟨#[99,104,100,105,114]⟩,0,1,0,0),
 (⟨#[109,111,117,110,116]⟩,1,1,0,0),
 (⟨#[117,109,111,117,110,116]⟩,1,0,0,0),
 (⟨#[99,111,110,110,101,99,116]⟩,1,0,1,1),
 (⟨#[107,105,108,108]⟩,2,0,0,0),
 (⟨#[116,114,117,110,99,97,116,101]⟩,1,1,0,0)]
def DQ(n:Int):AB×Int×Int×Int×Int:=if n<0∨22≤n then(⟨#[]⟩,0,0,0,0)else(JL[n.toNat]?).getD (⟨#[]⟩,0,0,0,0)
def K5(c:Cal):List Int:=[c.a0,c.a1,c.a2,c.a3]
def BT(c:Cal):Int:=
 if(DQ c.num).1=⟨#[]⟩then 100 else if(((K5 c).drop (DQ c.num).2.1.toNat).any fun x=>decide (x≠0))=true then 101
 else if(c.paths.length:Int)≠(DQ c.num).2.2.1∨(c.args.length:Int)<(DQ c.num).2.2.2.1∨(DQ c.num).2.2.2.2<(c.args.length:Int)then 101
 else if(c.paths.any fun p=>decide (128<p.size))=true then 102 else if(c.args.any fun p=>decide (64<p.size))=true then 102 else 0
def EK(n:Nod)(euid egid:Int):Int:=
 if euid=n.uid then Ff .i64 (MD .i64 n.mode 6) 7 else if egid=n.gid then Ff .i64 (MD .i64 n.mode 3) 7 else Ff .i64 n.mode 7
def E4(n:Nod)(euid egid want:Int):Bool:=
 if want<0∨7<want then false
 else if euid=0 then decide (Ff .i64 want 1=0)||decide (n.kind=2)||decide (Ff .i64 n.mode 73≠0)
 else decide (Ff .i64 (EK n euid egid) want=want)
def Bi(a f:Int):Bool:=decide (Ff .i64 a f≠0)
def CK(c:Cal):List Int:=
 if c.num=1 then[1]else if c.num=6 then[(if Bi c.a0 1=true then 4 else 0)+(if Bi c.a0 22=true then 2 else 0)]
 else if c.num=8 then[8,2]else if c.num=13 then[2,2]else if c.num=14∨c.num=15∨c.num=17 then[8]else if c.num=16 then[4]else[2]
def CU(c:Cal):Bool:=
 if c.num=6 then decide (Ff .i64 c.a0 32=0)else decide (c.num=1∨c.num=14∨c.num=15∨c.num=16∨c.num=17∨c.num=21)
def Lb(n:Int):Bool:=decide (0≤n)&&decide (n≤511)
def K6(c:Cal):AB:=c.args.headD ⟨#[]⟩
def Cy(p:Prc)(c:Cal):Int:=
 if c.num=6 then(if c.a0<0∨63<c.a0∨Ff .i64 c.a0 3=0∨Lb c.a1=false then 22 else if 8≤(p.opens.length:Int)then 24 else 0)
 else if c.num=9 then(if K6 c=⟨#[]⟩then 2 else if(K6 c).data.toList.any (fun b=>decide (b=0))=true then 22 else 0)
 else if c.num=11∨c.num=14 then(if Lb c.a0=false then 22 else 0)
 else if c.num=15 then(if c.a0<0∨4294967295<c.a0∨c.a1<0∨4294967295<c.a1 then 22 else 0)
 else if c.num=17 then(if p.euid≠0 then 1 else 0)
 else if c.num=21 then(if c.a0<0 then 22 else 0)else 0
def Lc(s:Spc)(given:AB)(perm:Int)(f:Fnd):Itm:=
 ⟨given,f.path,f.dir,f.name,f.file,1,(AT s.files f.file).kind,(AT s.files f.file).mode,(AT s.files f.file).uid,(AT s.files f.file).gid,perm⟩
def Et(given:AB)(perm:Int):Itm:=⟨given,⟨#[]⟩,(0,0),⟨#[]⟩,(0,0),1,0,0,0,0,perm⟩
def EV(s:Spc)(cwd:A8)(fl:Bool)(x:List Itm×List Fnd×Int)(g:AB×Int):List Itm×List Fnd×Int:=
 if x.2.2=0 then
  (if(BU s cwd g.1 fl).2=0 then(x.1++[Lc s g.1 g.2 (BU s cwd g.1 fl).1],x.2.1++[(BU s cwd g.1 fl).1],0)else(x.1++[Et g.1 g.2],x.2.1++[(BU s cwd g.1 fl).1],(BU s cwd g.1 fl).2))
 else(x.1++[Et g.1 g.2],x.2.1++[Cx],x.2.2)
def Gb(s:Spc)(cwd:A8)(fl:Bool)(l:List (AB×Int))(e:Int):List Itm×List Fnd×Int:=l.foldl (EV s cwd fl) ([],[],e)
def At(w:Wrk)(i:Nat):Fnd:=(w.found[i]?).getD Cx
def D9(w:Wrk)(a:A8)(want:Int):Bool:=E4 (AT w.s.spc.files a) w.p.euid w.p.egid want
def Gd(w:Wrk)(i:Nat):Bool:=Ai w.s.spc.files (At w i).file
def Ge(w:Wrk)(a:A8):Bool:=(Bo w.s.spc a).isSome||w.s.tab.ps.any fun p=>decide (p.cwd=a)
def Bk(w:Wrk)(R:Dh):Wrk×Int:=if R.2.2=0 then({w with s:=⟨⟨R.1,w.s.spc.mounts⟩,w.s.tab⟩,r:={w.r with changes:=R.2.1}},0)else(w,R.2.2)
def DR(w:Wrk)(R:Tab×Int):Wrk×Int:=if R.2=0 then({w with s:=⟨w.s.spc,R.1⟩},0)else(w,R.2)
def TO(n:Nod)(a:A8)(x:Itm):Itm:={x with role:=2,file:=a,kind:=n.kind,mode:=n.mode,uid:=n.uid,gid:=n.gid}
def GH(w:Wrk)(i:Nat)(a:A8):Wrk:={w with r:={w.r with items:=w.r.items.modify i (TO (AT w.s.spc.files a) a)}}
def Yy:CR:=((0,0),⟨#[]⟩,(0,0),(0,0))
def TP(l:List CR):A8:=(l.headD Yy).2.2.2
def Ld(w:Wrk)(n:Nod):Nod:={n with uid:=w.p.euid,gid:=w.p.egid}
def Dn(w:Wrk)(i:Nat)(n:Nod):Dh:=Dl w.s.spc.files (At w i).dir (At w i).name (Ld w n)
def Cc(w:Wrk)(i:Nat)(n:Nod):Wrk×Int:=
 if(Dn w i n).2.2=0 then(GH (Bk w (Dn w i n)).1 i (TP (Dn w i n).2.1),0)else(w,(Dn w i n).2.2)
def Eu(w:Wrk)(i:Nat)(role:Int):Wrk:={w with r:={w.r with items:=w.r.items.modify i fun x=>{x with role:=role}}}
def TQ(w:Wrk)(n:Int):Wrk:={w with r:={w.r with exit:=n}}
def Fa(mode:Int):Nod:=⟨0,1,mode,0,0,0,⟨#[]⟩,[]⟩
def Gf(w:Wrk)(a:A8):Wrk×Int:=DR (TQ w (EJ w.s.tab w.p.pid a w.c.a0).2.1) ((EJ w.s.tab w.p.pid a w.c.a0).1,(EJ w.s.tab w.p.pid a w.c.a0).2.2)
def Gg(a:Int):Int:=(if Bi a 1=true then 4 else 0)+(if Bi a 18=true then 2 else 0)
def C5(w:Wrk):Wrk×Int:=
 if(At w 0).ex=true then
  (if Bi w.c.a0 4=true∧Bi w.c.a0 8=true then(w,17)
  else if(AT w.s.spc.files (At w 0).file).kind=3 then(w,40)
  else if(AT w.s.spc.files (At w 0).file).kind=2∧Bi w.c.a0 22=true then(w,21)
  else if D9 w (At w 0).file (Gg w.c.a0)=false then(w,13)
  else Gf w (At w 0).file)
 else
  (if Bi w.c.a0 4=false then(w,2)else if(At w 0).slash=true then(w,21)else if D9 w (At w 0).dir 2=false then(w,13)
  else if(Cc w 0 (Fa w.c.a1)).2≠0 then Cc w 0 (Fa w.c.a1)
  else Gf (Cc w 0 (Fa w.c.a1)).1 (TP (Cc w 0 (Fa w.c.a1)).1.r.changes))
def Yz(w:Wrk):Wrk×Int:=
 if(At w 0).ex=false then(w,2)else if Gd w 0=true then(w,1)else if(At w 1).ex=true then(w,17)else if(At w 1).slash=true then(w,2)
 else if(At w 0).file.1≠(At w 1).dir.1 then(w,18)else if D9 w (At w 1).dir 2=false then(w,13)
 else if(Dv w.s.spc.files (At w 1).dir (At w 1).name (At w 0).file).2.2≠0 then(w,(Dv w.s.spc.files (At w 1).dir (At w 1).name (At w 0).file).2.2)
 else(GH (Bk w (Dv w.s.spc.files (At w 1).dir (At w 1).name (At w 0).file)).1 1 (At w 0).file,0)
def TR(w:Wrk)(R:Dh):Wrk×Int:=if R.2.2≠0 then(w,R.2.2)else(Eu (Bk w R).1 0 3,0)
def Z0(w:Wrk):Wrk×Int:=
 if(At w 0).ex=false then(w,2)
 else if w.c.num=10 then
  (if(At w 0).name=⟨#[]⟩∨Gd w 0=true then(w,21)else if D9 w (At w 0).dir 2=false then(w,13)
  else TR w (FX w.s.spc.files (At w 0).dir (At w 0).name))
 else
  (if(At w 0).name=⟨#[]⟩then(w,16)else if Gd w 0=false then(w,20)
  else if Ge w (AG w.s.spc.files (At w 0).dir (At w 0).name).1=true then(w,16)else if D9 w (At w 0).dir 2=false then(w,13)
  else TR w (Er w.s.spc.files (At w 0).dir (At w 0).name))
def GJ(w:Wrk)(R:Dh)(x:A8):Wrk×Int:=
 if R.2.2≠0 then(w,R.2.2)else if 0<(R.2.1.length:Int)then(GH (Eu (Bk w R).1 0 3) 1 x,0)else((Bk w R).1,0)
def Dp(w:Wrk):Wrk×Int:=
 if(At w 0).ex=false then(w,2)else if(At w 0).name=⟨#[]⟩∨(At w 1).name=⟨#[]⟩then(w,16)
 else if(At w 1).slash=true∧Gd w 0=false then(w,20)else if(At w 0).dir.1≠(At w 1).dir.1 then(w,18)
 else if D9 w (At w 0).dir 2=false∨D9 w (At w 1).dir 2=false then(w,13)
 else if(AG w.s.spc.files (At w 1).dir (At w 1).name).2=0∧(AG w.s.spc.files (At w 1).dir (At w 1).name).1≠(AG w.s.spc.files (At w 0).dir (At w 0).name).1∧Ai w.s.spc.files (AG w.s.spc.files (At w 1).dir (At w 1).name).1=true∧Ge w (AG w.s.spc.files (At w 1).dir (At w 1).name).1=true then(w,16)
 else GJ w (EG w.s.spc.files (At w 0).dir (At w 0).name (At w 1).dir (At w 1).name) (AG w.s.spc.files (At w 0).dir (At w 0).name).1
def TS(w:Wrk)(R:AR×Int):Wrk×Int:=Bk w (R.1,[],R.2)
def Z1(w:Wrk):Wrk×Int:=
 if(At w 0).ex=false then(w,2)
 else if w.c.num=14 then
  (if w.p.euid≠0∧w.p.euid≠(AT w.s.spc.files (At w 0).file).uid then(w,1)
  else TS w (FY w.s.spc.files (At w 0).file w.c.a0 (AT w.s.spc.files (At w 0).file).uid (AT w.s.spc.files (At w 0).file).gid))
 else if w.p.euid≠0 then(w,1)else TS w (FY w.s.spc.files (At w 0).file (AT w.s.spc.files (At w 0).file).mode w.c.a0 w.c.a1)
def Z2(w:Wrk)(R:Spc×Int):Wrk×Int:=if R.2=0 then({w with s:=⟨R.1,w.s.tab⟩},0)else(w,R.2)
def Z3(w:Wrk):Wrk×Int:=
 if(At w 0).ex=false then(w,2)
 else if w.c.num=1 then(if Gd w 0=true∨D9 w (At w 0).file 1=false then(w,13)else DR w (Yw w.s.tab w.p.pid (At w 0).path (At w 0).name))
 else if w.c.num=16 then(if Gd w 0=false then(w,20)else if D9 w (At w 0).file 1=false then(w,13)else DR w (Yv w.s.tab w.p.pid (At w 0).file))
 else if w.c.num=17 then(if Gd w 0=false then(w,20)else Z2 w (Cp w.s.spc w.c.a0 (At w 0).file))
 else if Gd w 0=true then(w,21)else if D9 w (At w 0).file 2=false then(w,13)else(w,0)
def Z4(t:AB):Nod:=⟨0,3,511,0,0,0,t,[]⟩
def Z5(mode:Int):Nod:=⟨0,2,mode,0,0,0,⟨#[]⟩,[]⟩
def Z6(w:Wrk):Wrk×Int:=
 if(At w 0).ex=true then(w,17)else if(At w 0).slash=true∧w.c.num=9 then(w,2)else if D9 w (At w 0).dir 2=false then(w,13)
 else if w.c.num=9 then Cc w 0 (Z4 (K6 w.c))else Cc w 0 (Z5 w.c.a0)
def Z7(t:Tab)(dev:Int):Bool:=t.ps.any fun p=>decide (p.cwd.1=dev)||p.opens.any fun d=>decide (d.file.1=dev)
def Z8(w:Wrk)(R:Spc×Int):Wrk×Int:=if R.2=0 then({w with s:=⟨R.1,w.s.tab⟩,r:={w.r with gone:=w.c.a0}},0)else(w,R.2)
def Z9(w:Wrk):Wrk×Int:=
 if w.p.euid≠0 then(w,1)else if w.c.a0=0∨Bu w.s.spc w.c.a0=false then(w,22)else if Z7 w.s.tab w.c.a0=true then(w,16)
 else Z8 w (Xm w.s.spc w.c.a0)
def ZA(w:Wrk)(n:Int):Wrk:={w with r:={w.r with exit:=n,child:=n}}
def ZB(w:Wrk):Wrk×Int:=
 if w.c.num=0 then DR (ZA w (Pi w.s.tab w.p.pid).2.1) ((Pi w.s.tab w.p.pid).1,(Pi w.s.tab w.p.pid).2.2)
 else if w.c.num=2 then DR w (TN w.s.tab w.p.pid)
 else if w.c.num=3 then DR w (Yr w.s.tab w.p.pid w.c.a0)
 else if w.c.num=4 then DR w (Ys w.s.tab w.p.pid w.c.a0)
 else if w.c.num=5 then DR w (Yt w.s.tab w.p.pid w.c.a0)
 else if w.c.num=7 then DR w (Yu w.s.tab w.p.pid w.c.a0)
 else if w.c.num=18 then Z9 w
 else if w.c.num=19 then(if w.c.a0<0∨65535<w.c.a0∨K6 w.c=⟨#[]⟩then(w,22)else if w.c.a0=0 then(w,111)else(w,0))
 else if w.c.a1<0∨64<w.c.a1 then(w,22)else DR w (Yx w.s.tab w.p.pid w.c.a0 (decide (w.c.a1≠0)))
def D0(w:Wrk):Wrk×Int:=
 if w.c.num=6 then C5 w else if w.c.num=8 then Yz w else if w.c.num=10∨w.c.num=12 then Z0 w else if w.c.num=13 then Dp w
 else if w.c.num=14∨w.c.num=15 then Z1 w else if w.c.num=1∨w.c.num=16∨w.c.num=17∨w.c.num=21 then Z3 w
 else if w.c.num=9∨w.c.num=11 then Z6 w else ZB w
def Fb(s:Syst)(p:Prc)(c:Cal):List Itm×List Fnd×Int:=Gb s.spc p.cwd (CU c) (c.paths.zip (CK c)) (Cy p c)
def Ec(s:Syst)(pid:Int)(c:Cal):Wrk:=⟨s,Ax s.tab pid,c,(Fb s (Ax s.tab pid) c).2.1,{FC with items:=(Fb s (Ax s.tab pid) c).1}⟩
def GK(n:Int):Syst×Int:=if(Dz n).2≠0 then(⟨⟨[],[]⟩,Cz⟩,(Dz n).2)else(⟨⟨(Dz n).1,[]⟩,Ph (0,1)⟩,0)
def Hk(d:Dsc):List AV:=[.v (.int .i64 d.fd), .v (.int .i64 d.file.1), .v (.int .i64 d.file.2), .v (.int .i64 d.flags)]
def BV(p:Prc):List AV:=[.v (.int .i64 p.pid), .v (.int .i64 p.ppid), .v (.int .i64 p.uid), .v (.int .i64 p.euid), .v (.int .i64 p.gid), .v (.int .i64 p.egid), .v (.int .i64 p.auid), .v (.int .i64 p.ses), .v (.int .i64 p.cwd.1), .v (.int .i64 p.cwd.2), .v (.string p.comm), .v (.string p.exe), .sl 4 (p.opens.map Hk) none, .v (.bool p.audited)]
def Bw(t:Tab):List AV:=[.v (.int .i64 t.next), .v (.int .i64 t.nextS), .sl 14 (t.ps.map BV) none]
def D1(s:Syst):List AV:=[.sl 2 (s.spc.files.map BX) none, .sl 3 (s.spc.mounts.map Cm) none, .v (.int .i64 s.tab.next), .v (.int .i64 s.tab.nextS), .sl 14 (s.tab.ps.map BV) none]
def Ew(s:AB):List AV:=[.v (.string s)]
def EW(c:Cal):List AV:=[.v (.int .i64 c.num), .v (.int .i64 c.a0), .v (.int .i64 c.a1), .v (.int .i64 c.a2), .v (.int .i64 c.a3), .sl 1 (c.paths.map Ew) none, .sl 1 (c.args.map Ew) none]
def CL(y:Itm):List AV:=[.v (.string y.given), .v (.string y.path), .v (.int .i64 y.dir.1), .v (.int .i64 y.dir.2), .v (.string y.name), .v (.int .i64 y.file.1), .v (.int .i64 y.file.2), .v (.int .i64 y.role), .v (.int .i64 y.kind), .v (.int .i64 y.mode), .v (.int .i64 y.uid), .v (.int .i64 y.gid), .v (.int .i64 y.perm)]
def D2(r:Res):List AV:=[.v (.int .i64 r.exit), .v (.int .i64 r.child), .v (.int .i64 r.gone), .sl 13 (r.items.map CL) none, .sl 7 (r.changes.map BG) none]
def Ci(w:Wrk)(fnd its:AV):List AV:=
 [.sl 2 (w.s.spc.files.map BX) none, .sl 3 (w.s.spc.mounts.map Cm) none, .v (.int .i64 w.s.tab.next), .v (.int .i64 w.s.tab.nextS), .sl 14 (w.s.tab.ps.map BV) none,
 .v (.int .i64 w.p.pid), .v (.int .i64 w.p.ppid), .v (.int .i64 w.p.uid), .v (.int .i64 w.p.euid), .v (.int .i64 w.p.gid), .v (.int .i64 w.p.egid), .v (.int .i64 w.p.auid), .v (.int .i64 w.p.ses), .v (.int .i64 w.p.cwd.1), .v (.int .i64 w.p.cwd.2), .v (.string w.p.comm), .v (.string w.p.exe), .sl 4 (w.p.opens.map Hk) none, .v (.bool w.p.audited),
 .v (.int .i64 w.c.num), .v (.int .i64 w.c.a0), .v (.int .i64 w.c.a1), .v (.int .i64 w.c.a2), .v (.int .i64 w.c.a3), .sl 1 (w.c.paths.map Ew) none, .sl 1 (w.c.args.map Ew) none,fnd,
 .v (.int .i64 w.r.exit), .v (.int .i64 w.r.child), .v (.int .i64 w.r.gone),its, .sl 7 (w.r.changes.map BG) none]
structure TabB(t:Tab):Prop where
 few:t.ps.length≤16
 opens:∀p∈t.ps,p.opens.length≤8
 next:t.next≤1073741824
 nextS:t.nextS≤1073741824
structure RowF(sz:Nat){α:Type}(F:α→List AV):Prop where
 len:∀x,(F x).length=sz
 flat:∀x,∀y∈F x,(∃v,y= .v v)∨∃s r,y= .sl s r none
 pos:0<sz
def LB(sz:Nat){α:Type}(F:α→List AV)(l:List α)(cap:Nat):List AV:=C0 sz cap (l.map F)
section
variable {α:Type}{sz:Nat}{F:α→List AV}(hF:RowF sz F)
include hF
theorem JM(l:List α):∀r∈l.map F,r.length=sz:=by
 intro r hr
 obtain⟨x,_,rfl⟩:=List.mem_map.1 hr
 exact hF.len x
theorem Pk{l:List α}{cap:Nat}(h:l.length≤cap):(LB sz F l cap).length=cap * sz:=OR (JM hF l) (by simpa using h)
theorem ZC{g:AV→AV}(hv:∀x,g (.v x)= .v x)(hs:∀sz rows,g (.sl sz rows none)= .sl sz rows none)(x:α):(F x).map g=F x:=by
 conv=>rhs;rw[←List.map_id (F x)]
 apply List.map_congr_left
 intro y hy
 rcases hF.flat x y hy with⟨v,rfl⟩|⟨s,r,rfl⟩
 ·exact hv v
 exact hs s r
theorem Pl{g:AV→AV}(hany:g .any= .any)(hv:∀x,g (.v x)= .v x)(hs:∀sz rows,g (.sl sz rows none)= .sl sz rows none)(l:List α)(cap:Nat):(LB sz F l cap).map g=LB sz F l cap:=by
 unfold LB
 rw[Kz g hany,List.map_map]
 congr 1
 apply List.map_congr_left
 intro x _
 exact ZC hF hv hs x
theorem Fc(g:Nat→Option Nat)(l:List α)(cap:Nat):Cs g (LB sz F l cap)=LB sz F l cap:=by
 rw[Kx];exact Pl hF rfl (fun _=>rfl) (fun _ _=>rfl) l cap
theorem JN(g:Nat→Option Nat)(l:List α)(cap:Nat):El g (LB sz F l cap)=LB sz F l cap:=by
 rw[Mf];exact Pl hF rfl (fun _=>rfl) (fun _ _=>rfl) l cap
theorem ZD(g:Nat→Option (List AV))(l:List α)(cap:Nat):FO g (LB sz F l cap)=LB sz F l cap:=by
 rw[Ky];exact Pl hF rfl (fun _=>rfl) (fun _ _=>rfl) l cap
theorem ZE{n m:Nat}(x:α):Am n m (F x)=true:=by
 refine Oa.2 fun y hy=>?_
 rcases hF.flat x y hy with⟨v,rfl⟩|⟨s,r,rfl⟩<;>rfl
theorem Bh{n m:Nat}{l:List α}{cap:Nat}:Am n m (LB sz F l cap)=true:=by
 refine Ob fun r hr=>?_
 obtain⟨x,_,rfl⟩:=List.mem_map.1 hr
 exact ZE hF x
theorem ZF{n:Nat}{bx:List (List AV)}{k j:Nat}{l:List α}{cap:Nat}(hn:n≤j)(hj:bx[j]?=some (LB sz F l cap)):D4 n bx (k+1) j=some (LB sz F l cap):=by
 have:Nat.blt j n=false:=by rw[←Bool.not_eq_true,Nat.blt_eq];omega
 simp only[D4,this,hj,Option.map_some,ZD hF]
theorem Pm{n:Nat}{bx:List (List AV)}{k j:Nat}{l:List α}{cap cap0:Nat}(hn:Nat.ble n j=true)(hj:bx[j]?=some (LB sz F l cap))(hc:l.length≤cap):EC n (D4 n bx (k+1)) (.bs j 0 sz l.length cap0)= .sl sz (l.map F) none:=
 SW (BD hn) (ZF hF (BD hn) hj) (JM hF l) (by simp) (by simpa using hc)
theorem ZG{l:List α}{cap i k:Nat}{x:α}{y:AV}(h:l[i]?=some x)(hx:(F x)[k]?=some y):(LB sz F l cap)[0+i * sz+k]?=some y:=L3 (JM hF l) (by rw[List.getElem?_map,h];rfl) hx
theorem Hl{l:List α}{cap i k:Nat}{x x':α}{cs:List AV}(h:l[i]?=some x)(hs:SetAt (F x) k cs (F x'))(hne:cs≠[]):SetAt (LB sz F l cap) (0+i * sz+k) cs (LB sz F (l.set i x') cap):=by
 have key:=Oe (cap:=cap) (JM hF l) (by rw[List.getElem?_map,h];rfl) hs hne
 rw[←List.map_set]at key
 exact key
theorem TT{l:List α}{cap i:Nat}{x x':α}(h:l[i]?=some x):SetAt (LB sz F l cap) (0+i * sz) (F x') (LB sz F (l.set i x') cap):=by
 have hne:F x'≠[]:=fun e=>by have h1:=hF.len x';have h2:=hF.pos;rw[e]at h1;simp at h1;omega
 have hs:SetAt (F x) 0 (F x') (F x'):=by
  have:=SetAt.whole (xs:=F x') (l:=F x) (b:=[]) (by rw[hF.len,hF.len])
  simpa using this
 have key:=Hl hF (cap:=cap) h hs hne
 simpa using key
theorem TU(x:α)(cap:Nat):F x++List.replicate ((cap - 1) * sz) .any=LB sz F [x] cap:=by
 have _:=hF
 unfold LB C0
 simp
theorem TV(acc:List α)(x:α)(cap0 cap:Nat):((LB sz F acc cap0).drop 0).take (acc.length * sz)++F x++List.replicate ((cap - (acc.length+1)) * sz) .any=LB sz F (acc++[x]) cap:=by
 unfold LB
 rw[RS (JM hF acc) (by simp),List.map_append]
 rfl
theorem TW{acc:List α}{x:α}{cap:Nat}{row:List AV}(hs:SetAt (LB sz F acc cap) (0+acc.length * sz) (F x) row)(hc:acc.length+1≤cap):row=LB sz F (acc++[x]) cap:=by
 have key:=RR (rows:=acc.map F) (sz:=sz) (cap:=cap) (r:=F x) (row':=row) (JM hF acc) (hF.len x) hF.pos (by simpa using hc) (by rw[List.length_map];exact hs)
 rw[key]
 unfold LB
 rw[List.map_append]
 rfl
end
theorem Dw:RowF 14 BV:=⟨fun _=>rfl,fun x y h=>by simp[BV]at h;rcases h with h|h|h|h|h|h|h|h|h|h|h|h|h|h<;>first|exact .inl ⟨_,h⟩|exact .inr ⟨_,_,h⟩,by decide⟩
theorem BB:RowF 13 CL:=⟨fun _=>rfl,fun x y h=>by simp[CL]at h;rcases h with h|h|h|h|h|h|h|h|h|h|h|h|h<;>exact .inl ⟨_,h⟩,by decide⟩
theorem C6{f:Nat→Option AV}{bx:List (List AV)}{tk:List (Nat×Nat×List (List AV))}{l:List (Nat×AV)}{N:Dim}(n m:Nat){bx':List (List AV)}{tk':List (Nat×Nat×List (List AV))}(hbp:Aq n m bx'=true)(hn:Nat.ble N.ni n=true:=by rfl)(hb:bx.take n=bx':=by rfl)(ht:tk.take m=tk':=by rfl)(hl:Sub n m f l:=by repeat (first|exact Sub.nil|refine Sub.cons _ _ _ rfl rfl ?_|refine Sub.any _ _ ?_|refine Sub.sl _ _ _ _ _ rfl ?_|refine Sub.slnil _ _ _ rfl ?_|(apply Sub.of;(focus exact rfl);(focus exact LeA.of_eq (vb (by simp[*])));(focus exact rfl)))):Weak N ⟨f,⟨bx,tk⟩⟩ ⟨look l,⟨bx',tk'⟩⟩:=As n m hn hb ht hbp hl
def DA(bx:List (List AV))(g:Nat→Option Nat):List Nat→List (List AV)→List (List AV)
 |[],bc=>bx++bc.map (Cs g)
 |i::is,[]=>DA bx g is []
 |i::is,r::bc=>DA (bx.set i (Cs g r)) g is bc
theorem TX{g:Nat→Option Nat}:∀(is:List Nat) (bx bc:List (List AV)),is.length≤bc.length→(DA bx g is bc).length=bx.length+(bc.length - is.length)
 |[],bx,bc,_=>by simp[DA]
 |i::is,bx,[],h=>by simp at h
 |i::is,bx,r::bc,h=>by
   unfold DA
   rw[TX is _ bc (by simpa using h)]
   simp
theorem N8{g:Nat→Option Nat}:∀(is:List Nat) (bx bc:List (List AV)) (i:Nat),i∉is→i<bx.length→(DA bx g is bc)[i]?=bx[i]?
 |[],bx,bc,i,_,hi=>by unfold DA;rw[List.getElem?_append_left hi]
 |j::is,bx,[],i,h,hi=>by
   unfold DA
   exact N8 is bx [] i (fun hm=>h (List.mem_cons_of_mem _ hm)) hi
 |j::is,bx,r::bc,i,h,hi=>by
   unfold DA
   rw[N8 is _ bc i (fun hm=>h (List.mem_cons_of_mem _ hm)) (by simpa using hi),List.getElem?_set_ne (fun e=>h (by rw[e];exact List.mem_cons_self ..))]
theorem TY{g:Nat→Option Nat}:∀(is:List Nat) (bx bc:List (List AV)) (k i:Nat) (row:List AV),is.Nodup→i<bx.length→is[k]?=some i→bc[k]?=some row→(DA bx g is bc)[i]?=some (Cs g row)
 |[],_,_,_,_,_,_,_,h,_=>by simp at h
 |j::is,bx,[],k,i,row,_,_,_,h=>by simp at h
 |j::is,bx,r::bc,0,i,row,hn,hi,h1,h2=>by
   simp at h1 h2
   subst h1 h2
   unfold DA
   rw[N8 is _ bc j (List.nodup_cons.1 hn).1 (by simpa using hi),List.getElem?_set_self hi]
 |j::is,bx,r::bc,k+1,i,row,hn,hi,h1,h2=>by
   unfold DA
   exact TY is _ bc k i row (List.nodup_cons.1 hn).2 (by simpa using hi) (by simpa using h1) (by simpa using h2)
theorem TZ{g:Nat→Option Nat}:∀(is:List Nat) (bx bc:List (List AV)) (k:Nat) (row:List AV),bc[is.length+k]?=some row→(DA bx g is bc)[bx.length+k]?=some (Cs g row)
 |[],bx,bc,k,row,h=>by
   unfold DA
   rw[List.getElem?_append_right (by omega),show bx.length+k - bx.length=k by omega,List.getElem?_map]
   simp at h
   rw[h];rfl
 |j::is,bx,[],k,row,h=>by simp at h
 |j::is,bx,r::bc,k,row,h=>by
   unfold DA
   have:=TZ (g:=g) is (bx.set j (Cs g r)) bc k row (by simpa[Nat.add_right_comm]using h)
   simpa using this
theorem Pn{bx:List (List AV)}{is:List Nat}{bc:List (List AV)}(hn:is.Nodup)(hi:∀i∈is,i<bx.length)(hl:is.length≤bc.length):Back bx is bc (DA bx (DU is bx.length) is bc):=by
 refine⟨TX is bx bc hl,fun i row h1 h2=>?_,fun k i row h1 h2=>?_,fun k row h=>TZ is bx bc k row h⟩
 ·rw[N8 is bx bc i h1 (Ac.1 h2).1];exact h2
 exact TY is bx bc k i row hn (hi i (Ak h1)) h1 h2
def Db:List AV:=[.v (.int .i64 0), .v (.int .i64 0), .v (.slice none 0 0)]
def Cj(t:Tab)(x:AV):List AV:=[.v (.int .i64 t.next), .v (.int .i64 t.nextS),x]
def DC(f:Prc→Prc)(l:List Prc)(j:Nat):List Prc:=(l.take j).map f++l.drop j
def Ex(p x:Prc):Prc:=if x.pid=p.pid then p else x
theorem Hm(f:Prc→Prc)(l:List Prc)(j:Nat):(DC f l j).length=l.length:=by
 unfold DC
 simp
 omega
theorem Po{f:Prc→Prc}{l:List Prc}{j:Nat}{x:Prc}(h:l[j]?=some x):(DC f l j)[j]?=some x:=by
 have hl:=(Ac.1 h).1
 unfold DC
 rw[List.getElem?_append_right (by simp;omega)]
 simp only[List.length_map,List.length_take,List.getElem?_drop]
 rw[show j+(j - min j l.length)=j by omega]
 exact h
theorem Ta{f:Prc→Prc}{l:List Prc}{j:Nat}{x:Prc}(h:l[j]?=some x):(DC f l j).set j (f x)=DC f l (j+1):=by
 obtain⟨hl,e⟩:=Ac.1 h
 unfold DC
 rw[List.take_add_one,h,List.drop_eq_getElem_cons hl,List.set_append_right _ _ (by simp;omega)]
 simp only[List.length_map,List.length_take,List.map_append,List.append_assoc]
 rw[show j - min j l.length=0 by omega]
 rfl
theorem ZH{f:Prc→Prc}{l:List Prc}{j:Nat}{x:Prc}(h:l[j]?=some x)(hf:f x=x):DC f l j=DC f l (j+1):=by
 rw[←Ta h,hf]
 have h2:=Po (f:=f) h
 obtain⟨h3,h4⟩:=Ac.1 h2
 rw[←h4,List.set_getElem_self]
theorem ZJ(f:Prc→Prc)(l:List Prc):DC f l l.length=l.map f:=by
 unfold DC
 simp
theorem Tc{t:Tab}{pid:Int}{p:Prc}(h:K1 t pid=some p):p∈t.ps:=List.mem_of_find?_eq_some h
theorem ZK{t:Tab}(ht:TabB t)(pid:Int):(Ax t pid).opens.length≤8:=by
 unfold Ax
 cases h:K1 t pid with
 |none=>exact Nat.zero_le _
 |some p=>exact ht.opens p (Tc h)
theorem ZL{t:Tab}{pid:Int}(h:Da t pid=true):0<t.ps.length:=by
 unfold Da at h
 obtain⟨p,hp⟩:=Option.isSome_iff_exists.1 h
 exact List.length_pos_of_mem (Tc hp)
theorem ZM{bx:List (List AV)}{n:Nat}(hn:bx.length=n)(t:Tab)(cap:Nat):Back bx [] [Bw t,Cj t (.bs 3 0 14 t.ps.length cap),Cj t (.bs 3 0 14 t.ps.length cap),LB 14 BV t.ps cap] (bx++[Bw t,Cj t (.bs (n+3) 0 14 t.ps.length cap),Cj t (.bs (n+3) 0 14 t.ps.length cap),LB 14 BV t.ps cap]):=by
 subst hn
 have:=Pn (bx:=bx) (is:=[]) (bc:=[Bw t,Cj t (.bs 3 0 14 t.ps.length cap),Cj t (.bs 3 0 14 t.ps.length cap),LB 14 BV t.ps cap]) List.nodup_nil (by simp) (by simp)
 have e1:Cs (DU [] bx.length) (Bw t)=Bw t:=rfl
 have e2:Cs (DU [] bx.length) (Cj t (.bs 3 0 14 t.ps.length cap))=Cj t (.bs (bx.length+3) 0 14 t.ps.length cap):=by simp[Cs,Cj,EB,DU]
 simpa[DA,Fc Dw,e1,e2]using this
section
theorem N9(p:Prc)(hp:p.opens.length≤1000):AFn Tryz.prog 107 [.agg (BV p)] (fun r=>r= .agg (BV p)):=by
 refine enter Tryz.func107 rfl rfl rfl rfl rfl 0 rfl ?_
 refine w_ (b_ (h:=AY (h:=e_ (w_ (f_ (h:=l_ (h:=?_)))))))
 first|refine A4 rfl (EM rfl rfl rfl (by simp;omega) (by repeat constructor) ?_)|refine A4 rfl (GQ rfl rfl (by simp;omega) (by repeat constructor) ?_)
 refine f_ (h:=s_ (h:=e_ (w_ (l_ (h:=s_ (h:=e_ (A6 (?_))))))))
 refine AD ?_
 rfl
theorem ZN(t:Tab)(ht:TabB t):AFn Tryz.prog 108 [.agg (Bw t)] (fun r=>r= .agg (Bw t)):=by
 have hfew:=ht.few
 refine enter Tryz.func108 rfl rfl rfl rfl rfl 0 rfl ?_
 refine w_ (b_ (h:=AY (h:=e_ (w_ (f_ (h:=l_ (h:=f_ (h:=l_ (h:=AU (h:=AY (h:=s_ (h:=e_ (q_ (w_ (a_ (h:=e_ (Al (?_))))))))))))))))))
 refine O0 2 2 61 14 rfl rfl (by repeat constructor) (by repeat constructor) (by repeat constructor) ?_
 refine Bd (fun m s=>∃j:Nat,j≤t.ps.length∧m=t.ps.length - j∧s=⟨look [(1, .bp 0 0),(2, .bp 1 0),(3, .bp 2 0),(4, .v (.int .i64 (j:Int)))],⟨[Bw t,Db,Cj t (.sl 14 ((t.ps.take j).map BV) (some 0))],[(61,14,(t.ps.take j).map BV)]⟩⟩) (t.ps.length) ((wk 3 1)) (⟨0,Nat.zero_le _,rfl,rfl⟩) ?_
 rintro m s ⟨j,hj,rfl,rfl⟩
 refine q_ (w_ (m_ (h:=f_ (h:=l_ (h:=n_ (h:=BH (h:=e_ (?_))))))))
 refine A7 rfl (fun hb1=>?_) (fun hb1=>?_)
 ·have hc1:=bp hb1
  obtain⟨hlt,p,hy,hrow,e⟩:=CX BV hc1
  have hop:p.opens.length≤1000:=by have:=ht.opens p (Ak hy);omega
  refine AM (q_ (Al (BM ([(0,Bw t),(1,Db),(2,Cj t (.sl 14 ((t.ps.take j).map BV) (some 0)))]) 11 (h:=AJ 0 (h:=AF 1 (h:=AJ 2 (h:=AF 3 (h:=AN 4 (h:=DN 5 (h:=AF 6 (h:=?_)))))))))))
  refine c_ 7 rfl (AK (N9 p hop) ?_)
  rintro r rfl
  refine o_ (h:=Je 8 (h:=?_))
  refine c_ 9 rfl (EM rfl rfl rfl (by simp;omega) (by repeat constructor) ?_)
  refine o_ (h:=AJ 10 (h:=?_))
  refine Az 11 rfl (Av rfl rfl rfl rfl rfl rfl (by repeat constructor) (by repeat constructor) ?_)
  refine o_ (h:=z_ (h:=Ay (t_ (AP (m_ (h:=B2 (h:=a_ (h:=AO (?_)))))))))
  refine AE ?_
  refine⟨_,_,?_,⟨j+1,by omega,rfl,rfl⟩,(by rw[e];exact As 3 1 rfl rfl rfl rfl ((by repeat (first|exact Sub.nil|refine Sub.cons _ _ _ rfl rfl ?_|refine Sub.any _ _ ?_|refine Sub.sl _ _ _ _ _ rfl ?_|refine Sub.slnil _ _ _ rfl ?_))))⟩
  omega
 have hc1:=bp hb1
 have e:=Cl BV hj hc1
 subst e
 rw[List.take_length]
 refine BK (Aj (Aj (BL (t_ (w_ (l_ (h:=s_ (h:=e_ (A6 (?_))))))))))
 refine AD ?_
 rfl
theorem ZO(t:Tab)(ht:TabB t)(h0:0<t.ps.length):ACall Tryz.prog 108 [.agg (Bw t)] [] (fun r b tk=>tk=[]∧∃cap,t.ps.length≤cap∧r= .agg (Cj t (.bs 3 0 14 t.ps.length cap))∧b=[Bw t,Cj t (.bs 3 0 14 t.ps.length cap),Cj t (.bs 3 0 14 t.ps.length cap),LB 14 BV t.ps cap]):=by
 have hfew:=ht.few
 refine enter Tryz.func108 rfl rfl rfl rfl rfl 4 rfl ?_
 refine w_ (b_ (h:=AY (h:=e_ (w_ (f_ (h:=l_ (h:=f_ (h:=l_ (h:=AU (h:=AY (h:=s_ (h:=e_ (q_ (w_ (a_ (h:=e_ (Al (?_))))))))))))))))))
 refine Bd (fun m s=>∃(j:Nat) (acc:List Prc),j≤t.ps.length∧m=t.ps.length - j∧t.ps.take j=acc∧((acc=[]∧s=⟨look [(1, .bp 0 0),(2, .bp 1 0),(3, .bp 2 0),(4, .v (.int .i64 (j:Int)))],⟨[Bw t,Db,Cj t (.v (.slice none 0 0))],[]⟩⟩)∨(∃cap,acc.length≤cap∧s=⟨look [(1, .bp 0 0),(2, .bp 1 0),(3, .bp 2 0),(4, .v (.int .i64 (j:Int)))],⟨[Bw t,Db,Cj t (.bs 3 0 14 acc.length cap),LB 14 BV acc cap],[]⟩⟩))) (t.ps.length) ((wk 3 0)) (⟨0,[],Nat.zero_le _,rfl,rfl, .inl ⟨rfl,rfl⟩⟩) ?_
 rintro m s ⟨j,acc,hj,rfl,hacc,⟨rfl,rfl⟩|⟨cap,hcp,rfl⟩⟩
 ·skip
  refine q_ (w_ (m_ (h:=f_ (h:=l_ (h:=n_ (h:=BH (h:=e_ (?_))))))))
  refine A7 rfl (fun hb1=>?_) (fun hb1=>?_)
  ·have hc1:=bp hb1
   obtain⟨hlt,p,hy,hrow, -⟩:=CX BV hc1
   have hk:t.ps.take (j+1)=t.ps.take j++[p]:=by rw[List.take_add_one,hy];rfl
   have hop:p.opens.length≤1000:=by have:=ht.opens p (Ak hy);omega
   refine AM (q_ (Al (BM ([(0,Bw t),(1,Db),(2,Cj t (.v (.slice none 0 0)))]) 11 (h:=AJ 0 (h:=AF 1 (h:=AJ 2 (h:=AF 3 (h:=AN 4 (h:=DN 5 (h:=AF 6 (h:=?_)))))))))))
   refine c_ 7 rfl (AK (N9 p hop) ?_)
   rintro r rfl
   refine o_ (h:=Je 8 (h:=?_))
   refine c_ 9 rfl (MS rfl rfl HQ (by omega) (by omega) ?_)
   rintro cap2 k bx2 hcp hs
   rw[show CA (.agg (BV p))++List.replicate ((cap2 - 1) * 14) AV.any=LB 14 BV [p] cap2 from TU Dw p cap2]at hs
   obtain⟨rfl,rfl⟩:k=3∧bx2=[_,_,_,_]:=hs.eq
   refine o_ (h:=?_)
   refine AJ 10 (h:=?_)
   refine Az 11 rfl (Av rfl rfl rfl rfl rfl rfl (by repeat constructor) (by repeat constructor) ?_)
   refine o_ (h:=z_ (h:=Ay (t_ (AP (m_ (h:=B2 (h:=a_ (h:=AO (?_)))))))))
   refine AE ?_
   exact⟨t.ps.length - (j+1),_,by omega,⟨j+1,[p],by omega,rfl,(by rw[hk,hacc];rfl), .inr ⟨cap2,hcp,rfl⟩⟩,As 4 0 rfl rfl rfl (by simp[Aq,Am,Ao,Bh Dw,Bw,Cj,Db]) ((by repeat (first|exact Sub.nil|refine Sub.cons _ _ _ rfl rfl ?_|refine Sub.any _ _ ?_|refine Sub.sl _ _ _ _ _ rfl ?_|refine Sub.slnil _ _ _ rfl ?_)))⟩
  have hc1:=bp hb1
  exfalso
  have e:=Cl BV hj hc1
  rw[e,List.take_length]at hacc
  rw[hacc]at h0
  exact absurd h0 (by simp)
 skip
 refine q_ (w_ (m_ (h:=f_ (h:=l_ (h:=n_ (h:=BH (h:=e_ (?_))))))))
 refine A7 rfl (fun hb2=>?_) (fun hb2=>?_)
 ·have hc2:=bp hb2
  obtain⟨hlt,p,hy,hrow, -⟩:=CX BV hc2
  have hk:t.ps.take (j+1)=t.ps.take j++[p]:=by rw[List.take_add_one,hy];rfl
  have hop:p.opens.length≤1000:=by have:=ht.opens p (Ak hy);omega
  refine AM (q_ (Al (BM ([(0,Bw t),(1,Db),(2,Cj t (.bs 3 0 14 acc.length cap))]) 11 (h:=AJ 0 (h:=AF 1 (h:=AJ 2 (h:=AF 3 (h:=AN 4 (h:=DN 5 (h:=AF 6 (h:=?_)))))))))))
  refine c_ 7 rfl (AK (N9 p hop) ?_)
  rintro r rfl
  refine o_ (h:=Je 8 (h:=?_))
  refine c_ 9 rfl (Kg rfl rfl rfl (by rw[Pk Dw hcp];omega) HQ (by omega) (by have:=congrArg List.length hacc;simp at this;omega) ?_ ?_)
  ·rintro hg row2 bx2 hs hb
   obtain rfl:=TW Dw hs hg
   obtain rfl:bx2=[_,_,_,_]:=hb.one.2
   refine o_ (h:=?_)
   refine AJ 10 (h:=?_)
   refine Az 11 rfl (Av rfl rfl rfl rfl rfl rfl (by repeat constructor) (by repeat constructor) ?_)
   refine o_ (h:=z_ (h:=Ay (t_ (AP (m_ (h:=B2 (h:=a_ (h:=AO (?_)))))))))
   refine AE ?_
   exact⟨t.ps.length - (j+1),_,by omega,⟨j+1,acc++[p],by omega,rfl,(by rw[hk,hacc]), .inr ⟨cap,by simpa using hg,by rw[List.length_append];rfl⟩⟩,As 4 0 rfl rfl rfl (by simp[Aq,Am,Ao,Bh Dw,Bw,Cj,Db]) ((by repeat (first|exact Sub.nil|refine Sub.cons _ _ _ rfl rfl ?_|refine Sub.any _ _ ?_|refine Sub.sl _ _ _ _ _ rfl ?_|refine Sub.slnil _ _ _ rfl ?_)))⟩
  rintro hg cap3 k bx2 hcp3 hs
  rw[show((LB 14 BV acc cap).drop 0).take (acc.length * 14)++CA (.agg (BV p))++List.replicate ((cap3 - (acc.length+1)) * 14) AV.any=LB 14 BV (acc++[p]) cap3 from TV Dw acc p cap cap3]at hs
  obtain⟨rfl,rfl⟩:k=4∧bx2=[_,_,_,_,_]:=hs.eq
  refine o_ (h:=?_)
  refine AJ 10 (h:=?_)
  refine Az 11 rfl (Av rfl rfl rfl rfl rfl rfl (by repeat constructor) (by repeat constructor) ?_)
  refine o_ (h:=z_ (h:=Ay (t_ (AP (m_ (h:=B2 (h:=a_ (h:=AO (?_)))))))))
  refine AE ?_
  first|exact⟨t.ps.length - (j+1),_,by omega,⟨j+1,acc++[p],by omega,rfl,(by rw[hk,hacc]), .inr ⟨cap,by simpa using hg,by rw[List.length_append];rfl⟩⟩,As 4 0 rfl rfl rfl (by simp[Aq,Am,Ao,Bh Dw,Bw,Cj,Db]) ((by repeat (first|exact Sub.nil|refine Sub.cons _ _ _ rfl rfl ?_|refine Sub.any _ _ ?_|refine Sub.sl _ _ _ _ _ rfl ?_|refine Sub.slnil _ _ _ rfl ?_)))⟩|exact⟨t.ps.length - (j+1),_,by omega,⟨j+1,acc++[p],by omega,rfl,(by rw[hk,hacc]), .inr ⟨cap3,by simpa using hcp3,by rw[List.length_append];rfl⟩⟩,Em [0,1,2,4] (fun i hi=>absurd hi (Nat.not_lt_zero i)) (by decide) (.cons _ _ _ _ _ rfl rfl (.cons _ _ _ _ _ rfl rfl (.cons _ _ _ _ _ rfl rfl (.cons _ _ _ _ _ rfl (JN Dw _ _ _) .nil)))) (by repeat (first|exact SubK.nil|refine SubK.cons _ _ _ _ rfl (LeA.refl _) ?_))⟩
 have hc2:=bp hb2
 have e:=Cl BV hj hc2
 refine BK (Aj (Aj (BL (t_ (w_ (l_ (h:=s_ (h:=e_ (A6 (?_))))))))))
 rw[e,List.take_length]at hacc
 subst hacc
 refine Aw (r:= .agg (Cj t (.bs 3 0 14 t.ps.length cap))) none (h4:=(by simp[Aq,Am,Ao,Bh Dw,Bw,Cj])) (h5:=(LeA.refl _)) (h6:=⟨rfl,cap,hcp,rfl,rfl⟩)
theorem Td(t:Tab)(pid:Int)(ht:TabB t):AFn Tryz.prog 63 [.agg (Bw t), .v (.int .i64 pid)] (fun r=>r= .tup [.agg (BV (Ax t pid)), .v (.bool (Da t pid))]):=by
 have hfew:=ht.few
 refine enter Tryz.func63 rfl rfl rfl rfl rfl 0 rfl ?_
 refine w_ (b_ (h:=AY (h:=a_ (h:=e_ (q_ (w_ (a_ (h:=e_ (Al (?_))))))))))
 refine Bd (fun m s=>∃j:Nat,j≤t.ps.length∧m=t.ps.length - j∧(∀i y,i<j→t.ps[i]?=some y→decide (y.pid=pid)=false)∧s=⟨look [(1, .v (.int .i64 pid)),(2, .bp 0 0),(4, .bp 1 0),(6, .v (.int .i64 (j:Int)))],⟨[Bw t,[.v (.int .i64 0), .v (.int .i64 0), .v (.int .i64 0), .v (.int .i64 0), .v (.int .i64 0), .v (.int .i64 0), .v (.int .i64 0), .v (.int .i64 0), .v (.int .i64 0), .v (.int .i64 0), .v (.string ⟨#[]⟩), .v (.string ⟨#[]⟩), .v (.slice none 0 0), .v (.bool false)]],[]⟩⟩) (t.ps.length) ((wk 2 0)) (⟨0,Nat.zero_le _,rfl,fun i y hi=>by omega,rfl⟩) ?_
 rintro m s ⟨j,hj,rfl,ha,rfl⟩
 refine q_ (w_ (m_ (h:=f_ (h:=l_ (h:=n_ (h:=BH (h:=e_ (?_))))))))
 refine A7 rfl (fun hb1=>?_) (fun hb1=>?_)
 ·have hc1:=bp hb1
  obtain⟨hlt,p,hy,hrow, -⟩:=CX BV hc1
  have hop:p.opens.length≤1000:=by have:=ht.opens p (Ak hy);omega
  refine AM (q_ (Al (w_ (f_ (h:=l_ (h:=m_ (h:=i_ (h:=f_ (h:=l_ (h:=m_ (h:=AW (h:=e_ (?_)))))))))))))
  refine A7 rfl (fun hb2=>?_) (fun hb2=>?_)
  ·have hc2:=bp hb2
   have hg:K1 t pid=some p:=G6 hy (decide_eq_true hc2) ha
   refine w_ (f_ (h:=l_ (h:=m_ (h:=i_ (h:=l_ (h:=?_))))))
   refine A4 rfl (AK (N9 p hop) ?_)
   rintro r rfl
   refine s_ (h:=a_ (h:=e_ (A6 (Ag (A9 (A9 (Ag (A9 (?_)))))))))
   refine AD ?_
   rw[Ax,Da,hg];rfl
  have hc2:=bp hb2
  refine B4 (Ay (t_ (AP (m_ (h:=B2 (h:=a_ (h:=AO (?_))))))))
  refine AE ?_
  refine⟨_,_,?_,⟨j+1,by omega,rfl,EQ hy ha (decide_eq_false hc2),rfl⟩,(wk 2 0)⟩
  omega
 have hc1:=bp hb1
 have e:=Cl BV hj hc1
 subst e
 have hg:K1 t pid=none:=G7 ha
 refine BK (Aj (Aj (BL (t_ (w_ (AU (h:=s_ (h:=a_ (h:=e_ (A6 (?_)))))))))))
 refine Aw (r:= .tup [.agg (BV (Ax t pid)), .v (.bool (Da t pid))]) none (h5:=?_) (h6:=⟨rfl,rfl,rfl⟩)
 rw[Ax,Da,hg]
 exact(by repeat (first|exact LeA.refl _|exact LeA.nil _|exact LeL.refl _|refine LeA.agg ?_|refine LeA.tup ?_|exact LeL.nil|refine LeL.cons ?_ ?_|exact LeA.any _))
theorem ZP(t:Tab)(p:Prc)(ht:TabB t)(h0:0<t.ps.length)(hp:p.opens.length≤1000):AFn Tryz.prog 188 [.agg (Bw t), .agg (BV p)] (fun r=>r= .agg (Bw (Fv t p))):=by
 have hfew:=ht.few
 refine enter Tryz.func188 rfl rfl rfl rfl rfl 0 rfl ?_
 refine w_ (b_ (h:=b_ (h:=AY (h:=e_ (?_)))))
 refine B8 (fun s=>∃cap,t.ps.length≤cap∧s=⟨look [(3, .bp 1 0),(4, .bp 2 0),(5, .bp 3 0)],⟨[Bw t,BV p,Db,Cj t (.bs 4 0 14 (DC (Ex p) t.ps 0).length cap),LB 14 BV (DC (Ex p) t.ps 0) cap],[]⟩⟩) ?_ ?_
 ·skip
  refine AP (l_ (h:=?_))
  refine A4 rfl (Ct [] rfl (.cons _ _ _ _ _ rfl (LeA.refl _) .nil) (by decide) .nil (ZO t ht h0) ?_)
  rintro r bc tc ⟨rfl,cap,hcap,rfl,rfl⟩
  refine⟨rfl,_,(ZM (n:=3) rfl t cap:Back _ [] _ [_,_,_,_,_,_,_]),?_⟩
  refine AY (h:=s_ (h:=AO (?_)))
  refine AE ?_
  exact⟨_,⟨cap,hcap,rfl⟩,Em [0,1,2,7,6] (fun i hi=>absurd hi (Nat.not_lt_zero i)) (by decide) (.cons _ _ _ _ _ rfl rfl (.cons _ _ _ _ _ rfl rfl (.cons _ _ _ _ _ rfl rfl (.cons _ _ _ _ _ rfl (by rw[Hm];rfl) (.cons _ _ _ _ _ rfl (JN Dw _ _ _) .nil))))) (by repeat (first|exact SubK.nil|refine SubK.cons _ _ _ _ rfl (LeA.refl _) ?_))⟩
 rintro s ⟨cap,hcap,rfl⟩
 refine B8 (fun s=>s=⟨look [(4, .bp 2 0),(5, .bp 3 0)],⟨[Bw t,BV p,Db,Bw (Fv t p)],[]⟩⟩) ?_ ?_
 ·skip
  refine w_ (a_ (h:=e_ (Al (?_))))
  refine Bd (fun m s=>∃j:Nat,j≤t.ps.length∧m=t.ps.length - j∧s=⟨look [(3, .bp 1 0),(4, .bp 2 0),(5, .bp 3 0),(6, .v (.int .i64 (j:Int)))],⟨[Bw t,BV p,Db,Cj t (.bs 4 0 14 (DC (Ex p) t.ps j).length cap),LB 14 BV (DC (Ex p) t.ps j) cap],[]⟩⟩) (t.ps.length) (Bl 5 0 (by simp[Aq,Am,Ao,Bh Dw,Bw,Cj,Db,BV])) (⟨0,Nat.zero_le _,rfl,rfl⟩) ?_
  rintro m s ⟨j,hj,rfl,rfl⟩
  refine q_ (w_ (m_ (h:=f_ (h:=l_ (h:=?_)))))
  refine A4 rfl (O1 rfl ?_)
  refine BH (h:=e_ (?_))
  refine A7 rfl (fun hb1=>?_) (fun hb1=>?_)
  ·have hc1:=bp hb1
   have hlt:j<t.ps.length:=by rw[Hm]at hc1;omega
   obtain⟨x,hy⟩:∃x,t.ps[j]?=some x:=⟨_,BA hlt⟩
   have hl1:j<(DC (Ex p) t.ps j).length:=by rw[Hm];exact hlt
   refine AM (q_ (Al (q_ (DV 9 (h:=AJ 0 (h:=AF 1 (h:=AN 2 (h:=?_))))))))
   refine F0 (i:=3) rfl (Cr (m:=j) rfl rfl rfl hl1 ⟨rfl,rfl⟩) ?_
   refine AJ 4 (h:=?_)
   refine F0 (i:=5) rfl (Ca rfl rfl (ZG Dw (Po hy) rfl) ⟨rfl,rfl⟩) ?_
   refine AJ 6 (h:=AF 7 (h:=GS 8 (h:=z_ (h:=t_ (?_)))))
   refine A7 rfl (fun hb2=>?_) (fun hb2=>?_)
   ·have hc2:=bp hb2
    have hu:(DC (Ex p) t.ps j).set j p=DC (Ex p) t.ps (j+1):=by rw[←Ta hy,Ex,if_pos hc2]
    refine AP (f_ (h:=l_ (h:=m_ (h:=l_ (h:=?_)))))
    refine A4 rfl (Cr (m:=j) rfl rfl rfl hl1 ?_)
    refine Kd (Av rfl rfl rfl rfl rfl rfl (TT Dw (x':=p) (Po hy)) (by repeat constructor) ?_)
    refine AO (Ay (t_ (AP (m_ (h:=B2 (h:=a_ (h:=AO (?_))))))))
    refine AE ?_
    exact⟨t.ps.length - (j+1),_,by omega,⟨j+1,by omega,rfl,rfl⟩,(by first|(rw[hu,show(DC (Ex p) t.ps j).length=(DC (Ex p) t.ps (j+1)).length by rw[Hm,Hm]];exact Bl 5 0 (by simp[Aq,Am,Ao,Bh Dw,Bw,Cj,Db,BV]))|(rw[hu];exact Bl 5 0 (by simp[Aq,Am,Ao,Bh Dw,Bw,Cj,Db,BV])))⟩
   have hc2:=bp hb2
   have hu:DC (Ex p) t.ps j=DC (Ex p) t.ps (j+1):=ZH hy (if_neg hc2)
   refine B4 (Ay (t_ (AP (m_ (h:=B2 (h:=a_ (h:=AO (?_))))))))
   refine AE ?_
   exact⟨t.ps.length - (j+1),_,by omega,⟨j+1,by omega,rfl,rfl⟩,(by first|(rw[hu,show(DC (Ex p) t.ps j).length=(DC (Ex p) t.ps (j+1)).length by rw[Hm,Hm]];exact Bl 5 0 (by simp[Aq,Am,Ao,Bh Dw,Bw,Cj,Db,BV]))|(rw[hu];exact Bl 5 0 (by simp[Aq,Am,Ao,Bh Dw,Bw,Cj,Db,BV])))⟩
  have hc1:=bp hb1
  obtain rfl:j=t.ps.length:=by rw[Hm]at hc1;omega
  rw[ZJ]
  refine BK (Aj (Aj (BL (?_))))
  refine AE ?_
  exact⟨_,rfl,F4 4 1 rfl (congrArg (fun x=>[Bw t,BV p,Db,[.v (.int .i64 t.next), .v (.int .i64 t.nextS),x]]) (Pm Dw rfl rfl (by rw[List.length_map];exact hcap))) (.cons _ _ _ _ rfl (LeA.refl _) (.cons _ _ _ _ rfl (LeA.refl _) .nil))⟩
 rintro s rfl
 refine w_ (l_ (h:=s_ (h:=e_ (A6 (?_)))))
 refine AD ?_
 rfl
end
end Go.Proofs.YtbglbmnhgbgelaaGreatDoor
