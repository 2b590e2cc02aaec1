/-
  Part 11 of the proof of WatchCurrentP: what the statement's proof uses of the texts in wip/tpl.
-/
import Derived.Lib.AppendZerosOnto
import Derived.Test.YtbglbmnhgbgelaaGreatDoorQb10
set_option maxRecDepth 10000
set_option maxHeartbeats 4000000
set_option linter.unusedVariables false
set_option linter.unusedSimpArgs false
namespace Go.Proofs.YtbglbmnhgbgelaaGreatDoor
open Go.RowKit
def CW(s:AD):List AV:=[.v (.string s)]
theorem T8{P:Program}{ev:Operand→Option AV}{h:AH}{R:AV→AH→Prop}{d:Option Tmp}{ty:TypeId}{pos:String}{af:Array Edge}{gd:Option (Nat×Bool)}{T:TypeId}{x lo hi:Operand}{s:ByteArray}{a k:Nat}{i j:Int}(hu:P.underlying T=some .string)
    (hx:ev x=some (.v (.string s))) (hl:ev lo=some (.v (.int .i64 i))) (hh:ev hi=some (.v (.int .i64 j))) (hi':i=(a:Int)) (hj:j=(k:Int)) (h1:a≤k) (h2:k≤s.size) (hR:R (.v (.string (s.extract a k))) h):AStep P ⟨d, .slice T x (some lo) (some hi) none,ty,pos,af,gd⟩ ev h R:=by
 refine Ce (fun _ G w ec _ he=>?_) hR
 have k1:=he x (by simp[Op.operands]) _ hx
 have k2:=he lo (by simp[Op.operands]) _ hl
 have k3:=he hi (by simp[Op.operands]) _ hh
 simp only[rep]at k1 k2 k3
 subst hi' hj
 refine⟨.string (s.extract a k),?_,by simp only[rep]⟩
 simp[execOp,k1,k2,k3,Instr.sliceAt,Instr.slice,Instr.sliceBounds,Instr.sliceBound,asIntOf,run_underlying hu,h1,h2]
def Ch(s:AD):Bool:=decide (s.data.toList.head?=some 47)
def B5(s:AD):Bool:=decide (s.data.toList.getLast?=some 47)
theorem N4{s:AD}(h:0<s.size):Ch s=decide (((s[0]'h).toNat:Int)=47):=by
 unfold Ch
 rw[Wt s h,Bool.eq_iff_iff];simp
theorem N5{s:AD}(h:0<s.size):B5 s=decide (((s[s.size - 1]'(by omega)).toNat:Int)=47):=by
 unfold B5
 rw[Wu s h,Bool.eq_iff_iff];simp
theorem PY{s:AD}(h:¬0<s.size):Ch s=false:=by
 have:s.data.toList=[]:=List.eq_nil_of_length_eq_zero (by rw[←Lib.size_eq];omega)
 unfold Ch
 rw[this];rfl
theorem PZ{s:AD}(h:¬0<s.size):B5 s=false:=by
 have:s.data.toList=[]:=List.eq_nil_of_length_eq_zero (by rw[←Lib.size_eq];omega)
 unfold B5
 rw[this];rfl
theorem T9{s:AD}{k:Nat}(h:k<s.size)(h47:((s[k]'h).toNat:Int)=47):s.data.toList[k]?=some 47:=by
 rw[Lib.data_getElem? s k h]
 congr 1
 refine UInt8.toNat_inj.1 ?_
 show _=47
 omega
theorem TA{s:AD}{f k:Nat}{ps:List AD}(hI:DY s.data.toList f k (Bu ps))(h:k=s.size∨s.data.toList[k]?=some 47):DY s.data.toList (k+1) (k+1) (Bu ps++one_ ((s.data.toList.drop f).take (k - f))):=by
 rcases h with h|h
 ·rw[Lib.size_eq]at h
  subst h
  exact Wp hI
 exact Wo hI h
theorem TB{s:AD}{f k:Nat}{ps:List AD}(hI:DY s.data.toList f k (Bu ps))(hk:k≤s.size)(h:k=s.size∨s.data.toList[k]?=some 47)(hf:f<k):DY s.data.toList (k+1) (k+1) (Bu (ps++[s.extract f k])):=Wv (TA hI h) (Wr (Ws s hf hk))
theorem TC{s:AD}{f k:Nat}{ps:List AD}(hI:DY s.data.toList f k (Bu ps))(h:k=s.size∨s.data.toList[k]?=some 47)(hf:¬f<k):DY s.data.toList (k+1) (k+1) (Bu ps):=Ww (TA hI h) (by omega)
theorem Yf{s:AD}{f k:Nat}{ps:List AD}(hI:DY s.data.toList f k (Bu ps))(h:k<s.size)(h47:¬((s[k]'h).toNat:Int)=47):DY s.data.toList f (k+1) (Bu ps):=Wn hI (Lib.data_getElem? s k h) (fun e=>h47 (by rw[e];rfl))
theorem TD(ps:List AD):ps.length≤(Cl (Bu ps)).length:=by
 induction ps with
 |nil=>simp
 |cons p ps ih=>
   have:Bu (p::ps)=p.data.toList::Bu ps:=rfl
   rw[this,FU]
   simp
   omega
theorem Pa{s:AD}{ps:List AD}(h:Bu ps=Ba s.data.toList){i:Nat}{x:AD}(hx:ps[i]?=some x):x.size≤s.size:=by
 rw[Lib.size_eq,Lib.size_eq s]
 refine X3 ?_
 rw[←h]
 exact List.mem_map.2 ⟨x,Am hx,rfl⟩
theorem Yg{ps:List AD}{j:Nat}{x t:AD}(hx:ps[j]?=some x)(h:t.data.toList=Cl ((Bu ps).take j)):(t++(⟨#[47]⟩++x)).data.toList=Cl ((Bu ps).take (j+1)):=by
 have e:(Bu ps)[j]?=some x.data.toList:=by unfold Bu;rw[List.getElem?_map,hx];rfl
 rw[List.take_add_one,e,Om,←h]
 simp[Cl]
theorem LZ{a b:AD}(h:a.data.toList=b.data.toList):a=b:=ByteArray.ext (Array.toList_inj.1 h)
theorem Yh{s:AD}{ps:List AD}(h:Bu ps=Ba s.data.toList){i:Nat}{x:AD}(hx:ps[i]?=some x)(hn:Cy x=false):DF s.data.toList=false:=by
 rw[←Oq]
 unfold L6
 rw[←h]
 have:(Bu ps).all DX=false:=List.all_eq_false.2 ⟨x.data.toList,List.mem_map.2 ⟨x,Am hx,rfl⟩,by rw[←Mn,hn];simp⟩
 rw[this,Bool.false_and]
theorem Yi{s t1:AD}{ps:List AD}(h:Bu ps=Ba s.data.toList)(ha:∀(i:Nat) (y:AD),i<ps.length→ps[i]?=some y→Cy y=true)(ht:t1.data.toList=Cl ((Bu ps).take ps.length))(h3:¬s=⟨#[47]⟩)(h0:0<ps.length):DF s.data.toList=decide (s=t1):=by
 have hl:(Bu ps).length=ps.length:=by simp[Bu]
 rw[List.take_of_length_le (by omega)]at ht
 rw[←Oq]
 unfold L6
 rw[←h,←ht]
 have h1:(Bu ps).all DX=true:=List.all_eq_true.2 fun y hy=>by
  obtain⟨z,hz,rfl⟩:=List.mem_map.1 hy
  obtain⟨i,hi⟩:=List.getElem?_of_mem hz
  rw[←Mn]
  exact ha i z (Af.1 hi).1 hi
 have h2:decide (s.data.toList=[47])=false:=decide_eq_false fun e=>h3 (LZ e)
 have h4:Bu ps≠[]:=fun e=>by rw[e]at hl;simp at hl;omega
 rw[h1,h2,decide_eq_true h4]
 simp only[Bool.true_and,Bool.false_or]
 rw[Bool.eq_iff_iff,decide_eq_true_iff,decide_eq_true_iff]
 exact⟨fun e=>LZ e,fun e=>by rw[e]⟩
theorem Yj{s:AD}{ps:List AD}(h:Bu ps=Ba s.data.toList)(h3:¬s=⟨#[47]⟩)(h0:ps.length=0):DF s.data.toList=false:=by
 have e:Bu ps=[]:=by rw[List.eq_nil_of_length_eq_zero h0];rfl
 rw[←Oq]
 unfold L6
 rw[←h,e]
 have h2:decide (s.data.toList=[47])=false:=decide_eq_false fun e=>h3 (LZ e)
 rw[h2]
 simp
section
theorem Pb(s:AD)(hs:s.size≤100000):AFn Tryz.prog 98 [.v (.string s)] (fun r=>∃ps:List AD,Bu ps=Ba s.data.toList∧r= .tup [.sl 1 (ps.map CW) none, .v (.bool (Ch s)), .v (.bool (B5 s))]):=by
 have hsz:=Lib.size_eq s
 refine enter Tryz.func98 rfl rfl rfl rfl rfl 0 rfl ?_
 refine w_ (a_ (h:=a_ (h:=a_ (h:=e_ (w_ (a_ (h:=e_ (w_ (a_ (h:=e_ (q_ (w_ (a_ (h:=e_ (Aj (?_))))))))))))))))
 refine Qe 5 9 1 rfl (by repeat constructor) ?_
 refine Bg (fun m t=>∃(f k:Nat) (ps:List AD),k≤s.size+1∧f≤k∧ps.length≤k∧m=s.size+1 - k∧DY s.data.toList f k (Bu ps)∧t=⟨look [(0, .v (.string s)),(5, .sl 1 (ps.map CW) (some 0)),(6, .v (.int .i64 (f:Int))),(7, .v (.int .i64 (k:Int)))],⟨[],[(9,1,ps.map CW)]⟩⟩) (s.size+1) ((wk 0 1)) (⟨0,0,[],by omega,by omega,by simp,rfl,Wq _,rfl⟩) ?_
 rintro m t ⟨f,k,ps,hk,hfk,hpl,rfl,hI,rfl⟩
 refine q_ (w_ (m_ (h:=m_ (h:=n_ (h:=Kl (h:=e_ (?_)))))))
 refine A8 rfl (fun hb1=>?_) (fun hb1=>?_)
 ·have hc1:=bp hb1
  refine AM (q_ (Aj (w_ (m_ (h:=m_ (h:=n_ (h:=AW (h:=m_ (h:=?_)))))))))
  refine Ar false rfl rfl (fun hb2=>?_) (fun hb2=>?_)
  ·have hc2:=bp hb2
   refine A3 (h:=A3 (h:=A3 (h:=A3 (h:=AZ (h:=e_ (Bx (h:=q_ (w_ (m_ (h:=m_ (h:=CG (h:=e_ (?_)))))))))))))
   refine A8 rfl (fun hb3=>?_) (fun hb3=>?_)
   ·have hc3:=bp hb3
    have hnx:=TB hI (by omega) (.inl (by omega)) (by omega)
    refine AQ (m_ (h:=m_ (h:=m_ (h:=m_ (h:=?_)))))
    refine A6 rfl (T8 (a:=f) (k:=k) Tryz.underlying9 rfl rfl rfl rfl rfl (by omega) (by omega) ?_)
    refine Bh (h:=?_)
    refine A6 rfl (EM rfl rfl rfl (by simp;omega) (by repeat constructor) ?_)
    refine a_ (h:=e_ (AQ (m_ (h:=B6 (h:=a_ (h:=AO (As (t_ (AQ (m_ (h:=B6 (h:=a_ (h:=AO (?_))))))))))))))
    refine AF ?_
    refine⟨_,_,?_,⟨_,k+1,_,by omega,by omega,(by(try simp only[List.length_append,List.length_cons,List.length_nil]);omega),rfl,hnx,rfl⟩,(by(try simp only[List.map_append,List.map_cons,List.map_nil]);exact Au 0 1 rfl rfl rfl rfl ((by repeat (first|exact Sub.nil|refine Sub.cons _ _ _ rfl rfl ?_|refine Sub.any _ _ ?_|refine Sub.sl _ _ _ _ _ rfl ?_|refine Sub.slnil _ _ _ rfl ?_))))⟩
    omega
   have hc3:=bp hb3
   have hnx:=TC hI (.inl (by omega)) (by omega)
   refine AM (AQ (m_ (h:=B6 (h:=a_ (h:=AO (As (t_ (AQ (m_ (h:=B6 (h:=a_ (h:=AO (?_)))))))))))))
   refine AF ?_
   refine⟨_,_,?_,⟨_,k+1,_,by omega,by omega,(by(try simp only[List.length_append,List.length_cons,List.length_nil]);omega),rfl,hnx,rfl⟩,(by(try simp only[List.map_append,List.map_cons,List.map_nil]);exact Au 0 1 rfl rfl rfl rfl ((by repeat (first|exact Sub.nil|refine Sub.cons _ _ _ rfl rfl ?_|refine Sub.any _ _ ?_|refine Sub.sl _ _ _ _ _ rfl ?_|refine Sub.slnil _ _ _ rfl ?_))))⟩
   omega
  have hc2:=bp hb2
  refine m_ (h:=m_ (h:=?_))
  refine Az (GY (n:=k) Tryz.underlying9 rfl rfl rfl (by omega) ?_)
  refine AW (h:=Ah (h:=e_ (?_)))
  refine A8 rfl (fun hb4=>?_) (fun hb4=>?_)
  ·have hc4:=bp hb4
   refine q_ (w_ (m_ (h:=m_ (h:=CG (h:=e_ (?_))))))
   refine A8 rfl (fun hb5=>?_) (fun hb5=>?_)
   ·have hc5:=bp hb5
    have hnx:=TB hI (by omega) (.inr (T9 (by omega) hc4)) (by omega)
    refine AQ (m_ (h:=m_ (h:=m_ (h:=m_ (h:=?_)))))
    refine A6 rfl (T8 (a:=f) (k:=k) Tryz.underlying9 rfl rfl rfl rfl rfl (by omega) (by omega) ?_)
    refine Bh (h:=?_)
    refine A6 rfl (EM rfl rfl rfl (by simp;omega) (by repeat constructor) ?_)
    refine a_ (h:=e_ (AQ (m_ (h:=B6 (h:=a_ (h:=AO (As (t_ (AQ (m_ (h:=B6 (h:=a_ (h:=AO (?_))))))))))))))
    refine AF ?_
    refine⟨_,_,?_,⟨_,k+1,_,by omega,by omega,(by(try simp only[List.length_append,List.length_cons,List.length_nil]);omega),rfl,hnx,rfl⟩,(by(try simp only[List.map_append,List.map_cons,List.map_nil]);exact Au 0 1 rfl rfl rfl rfl ((by repeat (first|exact Sub.nil|refine Sub.cons _ _ _ rfl rfl ?_|refine Sub.any _ _ ?_|refine Sub.sl _ _ _ _ _ rfl ?_|refine Sub.slnil _ _ _ rfl ?_))))⟩
    omega
   have hc5:=bp hb5
   have hnx:=TC hI (.inr (T9 (by omega) hc4)) (by omega)
   refine AM (AQ (m_ (h:=B6 (h:=a_ (h:=AO (As (t_ (AQ (m_ (h:=B6 (h:=a_ (h:=AO (?_)))))))))))))
   refine AF ?_
   refine⟨_,_,?_,⟨_,k+1,_,by omega,by omega,(by(try simp only[List.length_append,List.length_cons,List.length_nil]);omega),rfl,hnx,rfl⟩,(by(try simp only[List.map_append,List.map_cons,List.map_nil]);exact Au 0 1 rfl rfl rfl rfl ((by repeat (first|exact Sub.nil|refine Sub.cons _ _ _ rfl rfl ?_|refine Sub.any _ _ ?_|refine Sub.sl _ _ _ _ _ rfl ?_|refine Sub.slnil _ _ _ rfl ?_))))⟩
   omega
  have hc4:=bp hb4
  have hnx:=Yf hI (by omega) hc4
  refine B4 (As (t_ (AQ (m_ (h:=B6 (h:=a_ (h:=AO (?_))))))))
  refine AF ?_
  refine⟨_,_,?_,⟨_,k+1,_,by omega,by omega,(by(try simp only[List.length_append,List.length_cons,List.length_nil]);omega),rfl,hnx,rfl⟩,(by(try simp only[List.map_append,List.map_cons,List.map_nil]);exact Au 0 1 rfl rfl rfl rfl ((by repeat (first|exact Sub.nil|refine Sub.cons _ _ _ rfl rfl ?_|refine Sub.any _ _ ?_|refine Sub.sl _ _ _ _ _ rfl ?_|refine Sub.slnil _ _ _ rfl ?_))))⟩
  omega
 have hc1:=bp hb1
 refine BM (Ak (Ak (BN (t_ (q_ (DC 23 (h:=AN 0 (h:=AN 1 (h:=Je 2 (h:=OF 3 (h:=AN 4 (h:=?_))))))))))))
 refine FK (j:=4) rfl (fun hb6=>?_) (fun hb6=>?_)
 ·have hc6:=bp hb6
  refine AN 5 (h:=?_)
  refine E9 (i:=6) rfl (GY (n:=0) Tryz.underlying9 rfl rfl rfl (by omega) ⟨rfl,rfl⟩) ?_
  refine GU 7 (h:=F0 8 (h:=AN 9 (h:=Je 10 (h:=OF 11 (h:=AN 12 (h:=?_))))))
  refine FK (j:=12) rfl (fun hb7=>?_) (fun hb7=>?_)
  ·have hc7:=bp hb7
   refine AN 13 (h:=AN 14 (h:=Je 15 (h:=OE 16 (h:=?_))))
   refine E9 (i:=17) rfl (GY (n:=s.size - 1) Tryz.underlying9 rfl rfl (by omega) (by omega) ⟨rfl,rfl⟩) ?_
   refine GU 18 (h:=F0 19 (h:=B3 20 (h:=B3 21 (h:=B3 22 (h:=z_ (h:=t_ (A4 (?_))))))))
   refine AB ?_
   refine⟨ps,Mm hI (by omega),?_⟩
   (rw[N4 (by omega),N5 (by omega)];rfl)
  have hc7:=bp hb7
  refine B2 13 (h:=B2 14 (h:=B2 15 (h:=B2 16 (h:=B2 17 (h:=B2 18 (h:=EC 19 (h:=B3 20 (h:=B3 21 (h:=B3 22 (h:=z_ (h:=t_ (A4 (?_)))))))))))))
  refine AB ?_
  refine⟨ps,Mm hI (by omega),?_⟩
  first|(rw[N4 (by omega),N5 (by omega)];rfl)|(rw[PY (by omega),PZ (by omega)];rfl)|(exfalso;omega)
 have hc6:=bp hb6
 refine B2 5 (h:=B2 6 (h:=B2 7 (h:=EC 8 (h:=AN 9 (h:=Je 10 (h:=OF 11 (h:=AN 12 (h:=?_))))))))
 refine FK (j:=12) rfl (fun hb8=>?_) (fun hb8=>?_)
 ·have hc8:=bp hb8
  refine AN 13 (h:=AN 14 (h:=Je 15 (h:=OE 16 (h:=?_))))
  refine E9 (i:=17) rfl (GY (n:=s.size - 1) Tryz.underlying9 rfl rfl (by omega) (by omega) ⟨rfl,rfl⟩) ?_
  refine GU 18 (h:=F0 19 (h:=B3 20 (h:=B3 21 (h:=B3 22 (h:=z_ (h:=t_ (A4 (?_))))))))
  refine AB ?_
  refine⟨ps,Mm hI (by omega),?_⟩
  first|(rw[N4 (by omega),N5 (by omega)];rfl)|(rw[PY (by omega),PZ (by omega)];rfl)|(exfalso;omega)
 have hc8:=bp hb8
 refine B2 13 (h:=B2 14 (h:=B2 15 (h:=B2 16 (h:=B2 17 (h:=B2 18 (h:=EC 19 (h:=B3 20 (h:=B3 21 (h:=B3 22 (h:=z_ (h:=t_ (A4 (?_)))))))))))))
 refine AB ?_
 refine⟨ps,Mm hI (by omega),?_⟩
 first|(rw[N4 (by omega),N5 (by omega)];rfl)|(rw[PY (by omega),PZ (by omega)];rfl)
theorem TE(s:AD)(hs:s.size≤50000):AFn Tryz.prog 55 [.v (.string s)] (fun r=>r= .v (.bool (DF s.data.toList))):=by
 have hsz:=Lib.size_eq s
 refine enter Tryz.func55 rfl rfl rfl rfl rfl 0 rfl ?_
 refine w_ (a_ (h:=e_ (w_ (m_ (h:=?_)))))
 refine A6 rfl (AG (Pb s (by omega)) ?_)
 rintro r ⟨ps,hps,rfl⟩
 have hpl:(ps.map CW).length=ps.length:=by simp
 have hfl:=Ou s.data.toList
 rw[←hps]at hfl
 have hpm:=TD ps
 refine m_ (h:=x_ (h:=x_ (h:=x_ (h:=a_ (h:=a_ (h:=a_ (h:=e_ (w_ (a_ (h:=e_ (q_ (w_ (a_ (h:=e_ (Aj (?_))))))))))))))))
 refine Bg (fun m t=>∃(j:Nat) (t1:AD),j≤ps.length∧m=ps.length - j∧(∀i y,i<j→ps[i]?=some y→Cy y=true)∧t1.data.toList=Cl ((Bu ps).take j)∧t=⟨look [(0, .v (.string s)),(3, .sl 1 (ps.map CW) none),(6, .v (.string t1)),(7, .v (.int .i64 (j:Int)))],⟨[],[]⟩⟩) (ps.length) ((wk 0 0)) (⟨0,⟨#[]⟩,by omega,rfl,fun i y hi=>by omega,rfl,rfl⟩) ?_
 rintro m t ⟨j,t1,hj,rfl,ha,ht1,rfl⟩
 refine q_ (w_ (m_ (h:=m_ (h:=n_ (h:=BH (h:=e_ (?_)))))))
 refine A8 rfl (fun hb1=>?_) (fun hb1=>?_)
 ·have hc1:=bp hb1
  obtain⟨hlt,x,hy,hrow, -⟩:=Ca CW hc1
  have ht2:t1.size≤s.size+1:=by rw[Lib.size_eq,ht1];exact Nat.le_trans (X0 _ _) (by omega)
  refine AM (q_ (Aj (q_ (w_ (m_ (h:=m_ (h:=?_)))))))
  refine A6 rfl (CQ (n:=j) rfl rfl rfl hrow ?_)
  refine l_ (h:=?_)
  refine A6 rfl (AG (MY x (by have:=Pa hps hy;omega)) ?_)
  rintro r rfl
  refine BR (h:=e_ (?_))
  refine A8 rfl (fun hb2=>?_) (fun hb2=>?_)
  ·have hc2:=bp hb2
   refine w_ (a_ (h:=e_ (A4 (A7 (AX (A7 (A7 (AX (A7 (?_))))))))))
   refine AB ?_
   exact vb (Yh hps hy hc2).symm
  have hc2:=bp hb2
  refine AM (AQ (m_ (h:=m_ (h:=m_ (h:=?_)))))
  refine A6 rfl (CQ (n:=j) rfl rfl rfl hrow ?_)
  refine l_ (h:=?_)
  refine A6 rfl (E8 rfl rfl (by have:=Pa hps hy;show 1+x.size≤_;omega) ?_)
  refine A6 rfl (E8 rfl rfl (by have:=Pa hps hy;rw[ByteArray.size_append];show t1.size+(1+x.size)≤_;omega) ?_)
  refine a_ (h:=AO (As (t_ (AQ (m_ (h:=B6 (h:=a_ (h:=AO (?_)))))))))
  refine AF ?_
  refine⟨_,_,?_,⟨j+1,t1++(⟨#[47]⟩++x),by omega,rfl,EO hy ha hc2,Yg hy ht1,rfl⟩,(wk 0 0)⟩
  omega
 have hc1:=bp hb1
 refine BM (Ak (Ak (BN (t_ (w_ (m_ (h:=AW (h:=m_ (h:=?_)))))))))
 refine Ar false rfl rfl (fun hb3=>?_) (fun hb3=>?_)
 ·have hc3:=bp hb3
  refine A3 (h:=A3 (h:=A3 (h:=A3 (h:=GS (h:=GS (h:=GS (h:=A3 (h:=AZ (h:=a_ (h:=e_ (A4 (?_))))))))))))
  refine AB ?_
  exact vb (by rw[hc3];rfl)
 have hc3:=bp hb3
 refine m_ (h:=n_ (h:=CG (h:=m_ (h:=?_))))
 refine Ar true rfl rfl (fun hb4=>?_) (fun hb4=>?_)
 ·have hc4:=bp hb4
  refine m_ (h:=m_ (h:=AW (h:=AZ (h:=Ah (h:=a_ (h:=e_ (A4 (?_))))))))
  refine AB ?_
  have e:=Cn CW hj hc1
  subst e
  exact vb (Yi hps ha ht1 hc3 (by omega)).symm
 have hc4:=bp hb4
 refine A3 (h:=A3 (h:=A3 (h:=Ah (h:=Ah (h:=a_ (h:=e_ (A4 (?_))))))))
 refine AB ?_
 have e:=Cn CW hj hc1
 subst e
 exact vb (Yj hps hc3 (by omega)).symm
end
theorem TF{f:AR}{a:A9}(h:Ai f a=true):(AU f a).ino=a.2:=by
 obtain⟨q,d,m,_,_,_,h4,h5,_⟩:=JJ (f:=f) (a:=a) (by rw[h];simp)
 rw[h5,h4]
theorem Pc{s:Spc}{d:Int}(h:(BZ s d).isSome=true):BZ s d=some ((BZ s d).getD (0,0)):=by
 cases ho:BZ s d with
 |none=>rw[ho]at h;cases h
 |some o=>rfl
theorem Yk{s:Spc}{d:Int}(h:(BZ s d).isSome=false):BZ s d=none:=by
 cases ho:BZ s d with
 |none=>rfl
 |some o=>rw[ho]at h;cases h
theorem N6{s:Spc}{a:A9}(k:Nat)(h:Ai s.files a=false):D6 s (k+1) a=(0,0):=by unfold D6;rw[h];rfl
theorem TG{s:Spc}{a:A9}(k:Nat)(h:Ai s.files a=true)(h1:¬a.2=1):D6 s (k+1) a=(a.1,(AU s.files a).parent):=by unfold D6;rw[if_pos h,if_pos h1]
theorem TH{s:Spc}{a:A9}(k:Nat)(h:Ai s.files a=true)(h1:a.2=1)(ho:(BZ s a.1).isSome=true):D6 s (k+1) a=D6 s k ((BZ s a.1).getD (0,0)):=by
 conv=>lhs;unfold D6
 rw[if_pos h,if_neg (by simpa using h1),Pc ho]
 rfl
theorem TJ{s:Spc}{a:A9}(k:Nat)(h:Ai s.files a=true)(h1:a.2=1)(ho:(BZ s a.1).isSome=false):D6 s (k+1) a=a:=by
 conv=>lhs;unfold D6
 rw[if_pos h,if_neg (by simpa using h1),Yk ho]
section
theorem TK{s:Spc}(hs:SpcB s)(hv:SpcV s)(a:A9)
    (hrec:Ai s.files a=true→∀b,Cf s a=some b→AFn Tryz.prog 102 [.agg (Al s), .agg (AA b)] (fun r=>r= .tup [.v (.string (BT s b).1), .v (.bool (BT s b).2)])):
    AFn Tryz.prog 102 [.agg (Al s), .agg (AA a)] (fun r=>r= .tup [.v (.string (BT s a).1), .v (.bool (BT s a).2)]):=by
 have hnm:=PT hv.files a
 have hwz:=PX hv
 refine enter Tryz.func102 rfl rfl rfl rfl rfl 0 rfl ?_
 refine w_ (b_ (h:=b_ (h:=a_ (h:=a_ (h:=e_ (q_ (w_ (f_ (h:=l_ (h:=l_ (h:=?_)))))))))))
 refine A6 rfl (AG (FQ s.files a hs.files) ?_)
 rintro r rfl
 refine BR (h:=m_ (h:=?_))
 refine Ar false rfl rfl (fun hb1=>?_) (fun hb1=>?_)
 ·have hc1:=bp hb1
  refine A3 (h:=A3 (h:=A3 (h:=A3 (h:=A3 (h:=AZ (h:=e_ (Bx (h:=w_ (a_ (h:=a_ (h:=e_ (A4 (A7 (?_))))))))))))))
  refine AB ?_
  (rw[K1 hv (by simp_all)];rfl)
 have hc1:=bp hb1
 refine l_ (h:=f_ (h:=l_ (h:=?_)))
 refine Az (AG (MZ s a.1 hs) ?_)
 rintro r rfl
 refine BR (h:=Ah (h:=e_ (?_)))
 refine A8 rfl (fun hb2=>?_) (fun hb2=>?_)
 ·have hc2:=bp hb2
  refine w_ (a_ (h:=a_ (h:=e_ (A4 (A7 (?_))))))
  refine AB ?_
  (rw[K1 hv (by simp_all)];rfl)
 have hc2:=bp hb2
 refine AM (q_ (w_ (f_ (h:=l_ (h:=AW (h:=e_ (?_)))))))
 refine A8 rfl (fun hb3=>?_) (fun hb3=>?_)
 ·have hc3:=bp hb3
  refine q_ (w_ (l_ (h:=f_ (h:=l_ (h:=?_)))))
  refine A6 rfl (AG (OL s a.1 hs) ?_)
  rintro r rfl
  refine m_ (h:=x_ (h:=x_ (h:=AY (h:=s_ (h:=a_ (h:=e_ (w_ (m_ (h:=e_ (?_))))))))))
  refine A8 rfl (fun hb4=>?_) (fun hb4=>?_)
  ·have hc4:=bp hb4
   have hst:Cf s a=some ((BZ s a.1).getD (0,0)):=by unfold Cf;rw[if_neg (by simpa using hc3)];exact Pc hc4
   obtain⟨hw1,hw2⟩:=T0 hv hc1 hc2 (fun e=>by rw[e,PW hv]at hc4;cases hc4) hst
   rw[if_pos hc3]at hw1
   refine w_ (l_ (h:=l_ (h:=?_)))
   refine A6 rfl (AG (hrec hc1 _ hst) ?_)
   rintro r rfl
   skip
   refine x_ (h:=x_ (h:=a_ (h:=a_ (h:=e_ (A4 (A7 (A7 (?_))))))))
   refine AB ?_
   first|(rw[K1 hv (by simp_all)];rfl)|(rw[hw1];first|rfl|(rw[←hw2];rfl))
  have hc4:=bp hb4
  have h00:a=(0,1):=by
   refine Prod.ext ?_ hc3
   have:=hc2
   unfold Bt at this
   rw[hc4,Bool.false_or]at this
   exact of_decide_eq_true this
  refine AM (w_ (a_ (h:=a_ (h:=e_ (A4 (A7 (?_)))))))
  refine AB ?_
  first|(rw[K1 hv (by simp_all)];rfl)|(rw[hw1];first|rfl|(rw[←hw2];rfl))|(rw[h00,YV hv (by rw[←h00];exact hc1)];rfl)
 have hc3:=bp hb3
 have hst:Cf s a=some (a.1,(AU s.files a).parent):=if_pos hc3
 obtain⟨hw1,hw2⟩:=T0 hv hc1 hc2 (fun e=>hc3 (by rw[e])) hst
 rw[if_neg hc3]at hw1
 refine AM (w_ (f_ (h:=l_ (h:=l_ (h:=?_)))))
 refine A6 rfl (AG (DW s.files a hs.files) ?_)
 rintro r rfl
 refine m_ (h:=x_ (h:=x_ (h:=AY (h:=s_ (h:=a_ (h:=e_ (w_ (l_ (h:=f_ (h:=l_ (h:=f_ (h:=l_ (h:=AT (h:=?_))))))))))))))
 refine A6 rfl (AG (hrec hc1 _ hst) ?_)
 rintro r rfl
 skip
 refine m_ (h:=x_ (h:=x_ (h:=a_ (h:=a_ (h:=e_ (w_ (m_ (h:=f_ (h:=l_ (h:=l_ (h:=?_)))))))))))
 refine A6 rfl (AG (Ye s a hs) ?_)
 rintro r rfl
 refine A6 rfl (AG (T7 (BT s (a.1,(AU s.files a).parent)).1 (Bq s a) (by have:=hwz (a.1,(AU s.files a).parent);omega) (by omega)) ?_)
 rintro r rfl
 refine m_ (h:=a_ (h:=a_ (h:=e_ (A4 (?_)))))
 refine AB ?_
 first|(rw[K1 hv (by simp_all)];rfl)|(rw[hw1];first|rfl|(rw[←hw2];rfl))
theorem Yl{s:Spc}(hs:SpcB s)(hv:SpcV s)(a:A9):AFn Tryz.prog 102 [.agg (Al s), .agg (AA a)] (fun r=>r= .tup [.v (.string (BT s a).1), .v (.bool (BT s a).2)]):=by
 have key:∀(k:Nat) (a:A9),ends s k a→AFn Tryz.prog 102 [.agg (Al s), .agg (AA a)] (fun r=>r= .tup [.v (.string (BT s a).1), .v (.bool (BT s a).2)]):=by
  intro k
  induction k with
  |zero=>intro a h;exact TK hs hv a fun hd=>by rw[show Ai s.files a=false from h]at hd;cases hd
  |succ k ih=>intro a h;exact TK hs hv a fun hd b hb=>ih b (h.resolve_left (by rw[hd];simp) b hb)
 exact key _ a (GF hv a)
theorem Ym{s:Spc}(hs:SpcB s)(a:A9)(p:Nat)(hrec:(BZ s a.1).isSome=true→AFn Tryz.prog 101 [.agg (Al s), .agg (AA ((BZ s a.1).getD (0,0)))] (fun r=>r= .agg (AA (D6 s p ((BZ s a.1).getD (0,0)))))):
    AFn Tryz.prog 101 [.agg (Al s), .agg (AA a)] (fun r=>r= .agg (AA (D6 s (p+1) a))):=by
 have hde:=FP s.files a
 refine enter Tryz.func101 rfl rfl rfl rfl rfl 0 rfl ?_
 refine w_ (b_ (h:=b_ (h:=AY (h:=e_ (w_ (f_ (h:=l_ (h:=l_ (h:=?_)))))))))
 refine A6 rfl (AG (DW s.files a hs.files) ?_)
 rintro r rfl
 refine m_ (h:=x_ (h:=x_ (h:=AY (h:=s_ (h:=a_ (h:=e_ (q_ (w_ (m_ (h:=BR (h:=m_ (h:=?_))))))))))))
 refine Ar false rfl rfl (fun hb1=>?_) (fun hb1=>?_)
 ·have hc1:=bp hb1
  refine A3 (h:=A3 (h:=A3 (h:=AZ (h:=e_ (Bx (h:=w_ (AT (h:=s_ (h:=e_ (A4 (A7 (?_))))))))))))
  refine AB ?_
  rw[N6 p (by rw[hde,hc1];rfl)]
  rfl
 have hc1:=bp hb1
 refine f_ (h:=l_ (h:=BS (h:=Ah (h:=e_ (?_)))))
 refine A8 rfl (fun hb2=>?_) (fun hb2=>?_)
 ·have hc2:=bp hb2
  refine w_ (AT (h:=s_ (h:=e_ (A4 (A7 (?_))))))
  refine AB ?_
  rw[N6 p (by rw[hde,decide_eq_false hc2,Bool.and_false])]
  rfl
 have hc2:=bp hb2
 refine AM (q_ (w_ (f_ (h:=l_ (h:=BS (h:=e_ (?_)))))))
 refine A8 rfl (fun hb3=>?_) (fun hb3=>?_)
 ·have hc3:=bp hb3
  refine w_ (f_ (h:=l_ (h:=f_ (h:=l_ (h:=AT (h:=s_ (h:=e_ (A4 (A7 (?_))))))))))
  refine AB ?_
  rw[TG p (by rw[hde,hc1,decide_eq_true hc2];rfl) hc3]
  rfl
 have hc3:=bp hb3
 refine AM (q_ (w_ (l_ (h:=f_ (h:=l_ (h:=?_))))))
 refine A6 rfl (AG (OL s a.1 hs) ?_)
 rintro r rfl
 refine m_ (h:=x_ (h:=x_ (h:=AY (h:=s_ (h:=a_ (h:=e_ (w_ (m_ (h:=e_ (?_))))))))))
 refine A8 rfl (fun hb4=>?_) (fun hb4=>?_)
 ·have hc4:=bp hb4
  refine w_ (l_ (h:=l_ (h:=?_)))
  refine A6 rfl (AG (hrec hc4) ?_)
  rintro r rfl
  refine s_ (h:=e_ (A4 (A7 (?_))))
  refine AB ?_
  rw[TH p (by rw[hde,hc1,decide_eq_true hc2];rfl) hc3 hc4]
  rfl
 have hc4:=bp hb4
 refine AM (w_ (l_ (h:=s_ (h:=e_ (A4 (?_))))))
 refine AB ?_
 rw[TJ p (by rw[hde,hc1,decide_eq_true hc2];rfl) hc3 hc4]
 rfl
theorem Yn{s:Spc}(hs:SpcB s)(hv:SpcV s):∀(p:Nat) (a:A9),Hi s a.1<p→AFn Tryz.prog 101 [.agg (Al s), .agg (AA a)] (fun r=>r= .agg (AA (D6 s p a))):=by
 intro p
 induction p with
 |zero=>intro a h;omega
 |succ p ih=>intro a hp;exact Ym hs a p fun ho=>ih _ (by have:=Si hv (Pc ho);omega)
theorem Yo{s:Spc}(hs:SpcB s)(hv:SpcV s)(a:A9):AFn Tryz.prog 135 [.agg (Al s), .agg (AA a)] (fun r=>r= .agg (AA (D6 s (s.mounts.length+1) a))):=by
 have hfew:=hs.few
 have hml:(s.mounts.map Ck).length=s.mounts.length:=by simp
 refine enter Tryz.func135 rfl rfl rfl rfl rfl 0 rfl ?_
 refine w_ (b_ (h:=b_ (h:=AY (h:=e_ (q_ (w_ (f_ (h:=l_ (h:=n_ (h:=B6 (h:=m_ (h:=e_ (Aj (?_))))))))))))))
 refine Bg (fun m t=>∃(j:Nat) (b:A9),j≤s.mounts.length+1∧m=s.mounts.length+1 - j∧D6 s (s.mounts.length+1 - j) b=D6 s (s.mounts.length+1) a∧t=⟨look [(2, .bp 0 0),(3, .bp 1 0),(4, .bp 2 0),(11, .v (.int .i64 (((s.mounts.map Ck).length:Int)+1))),(12, .v (.int .i64 (j:Int)))],⟨[Al s,AA b,[.v (.int .i64 0), .v (.int .i64 0)]],[]⟩⟩) (s.mounts.length+1) ((wk 3 0)) (⟨0,a,by omega,rfl,rfl,rfl⟩) ?_
 rintro m t ⟨j,b,hj,rfl,hit,rfl⟩
 have hde:=FP s.files b
 refine w_ (BH (h:=e_ (q_ (?_))))
 refine A8 rfl (fun hb1=>?_) (fun hb1=>?_)
 ·have hc1:=bp hb1
  obtain⟨k,hk⟩:∃k,s.mounts.length+1 - j=k+1:=⟨s.mounts.length - j,by omega⟩
  rw[hk]at hit
  refine AM (q_ (Aj (w_ (f_ (h:=l_ (h:=l_ (h:=?_)))))))
  refine A6 rfl (AG (G9 s.files b hs.files) ?_)
  rintro r rfl
  refine m_ (h:=x_ (h:=x_ (h:=AY (h:=s_ (h:=a_ (h:=e_ (q_ (w_ (m_ (h:=BR (h:=m_ (h:=?_))))))))))))
  refine Ar false rfl rfl (fun hb2=>?_) (fun hb2=>?_)
  ·have hc2:=bp hb2
   refine A3 (h:=A3 (h:=A3 (h:=AZ (h:=e_ (Bx (h:=w_ (AT (h:=s_ (h:=e_ (A4 (A7 (AX (A7 (A7 (AX (A7 (?_)))))))))))))))))
   refine AB ?_
   rw[←hit,N6 k (by rw[hde,hc2];rfl)]
   rfl
  have hc2:=bp hb2
  refine f_ (h:=l_ (h:=BS (h:=Ah (h:=e_ (?_)))))
  refine A8 rfl (fun hb3=>?_) (fun hb3=>?_)
  ·have hc3:=bp hb3
   refine w_ (AT (h:=s_ (h:=e_ (A4 (A7 (AX (A7 (A7 (AX (A7 (?_)))))))))))
   refine AB ?_
   rw[←hit,N6 k (by rw[hde,decide_eq_false hc3,Bool.and_false])]
   rfl
  have hc3:=bp hb3
  refine AM (q_ (w_ (f_ (h:=l_ (h:=BS (h:=e_ (?_)))))))
  refine A8 rfl (fun hb4=>?_) (fun hb4=>?_)
  ·have hc4:=bp hb4
   have hdd:Ai s.files b=true:=by rw[hde,hc2,decide_eq_true hc3];rfl
   have hb1:¬b.2=1:=by rw[←TF hdd];exact hc4
   refine w_ (f_ (h:=l_ (h:=f_ (h:=l_ (h:=AT (h:=s_ (h:=e_ (A4 (A7 (AX (A7 (A7 (AX (A7 (?_)))))))))))))))
   refine AB ?_
   rw[←hit,TG k hdd hb1]
   rfl
  have hc4:=bp hb4
  have hdd:Ai s.files b=true:=by rw[hde,hc2,decide_eq_true hc3];rfl
  have hb1:b.2=1:=by rw[←TF hdd];exact hc4
  refine AM (w_ (l_ (h:=f_ (h:=l_ (h:=?_)))))
  refine A6 rfl (AG (OM s b.1 hs) ?_)
  rintro r rfl
  refine m_ (h:=x_ (h:=x_ (h:=AY (h:=s_ (h:=a_ (h:=e_ (q_ (w_ (m_ (h:=BR (h:=m_ (h:=?_))))))))))))
  refine Ar false rfl rfl (fun hb5=>?_) (fun hb5=>?_)
  ·have hc5:=bp hb5
   refine A3 (h:=A3 (h:=A3 (h:=AZ (h:=e_ (Bx (h:=w_ (l_ (h:=s_ (h:=e_ (A4 (A7 (AX (A7 (A7 (AX (A7 (?_)))))))))))))))))
   refine AB ?_
   rw[←hit,TJ k hdd hb1 hc5]
   rfl
  have hc5:=bp hb5
  refine f_ (h:=l_ (h:=AW (h:=Ah (h:=e_ (?_)))))
  refine A8 rfl (fun hb6=>?_) (fun hb6=>?_)
  ·have hc6:=bp hb6
   refine w_ (l_ (h:=s_ (h:=e_ (A4 (A7 (AX (A7 (A7 (AX (A7 (?_)))))))))))
   refine AB ?_
   exfalso
   rw[hc6,PW hv]at hc5
   cases hc5
  have hc6:=bp hb6
  refine AM (AQ (l_ (h:=s_ (h:=AO (As (t_ (AQ (B6 (h:=m_ (h:=AO (?_)))))))))))
  refine AF ?_
  refine⟨_,_,?_,⟨j+1,((BZ s b.1).getD (0,0)),by omega,rfl,(by rw[←hit,TH k hdd hb1 hc5,show s.mounts.length+1 - (j+1)=k by omega]),rfl⟩,(wk 3 0)⟩
  omega
 have hc1:=bp hb1
 refine BM (Ak (Ak (BN (t_ (w_ (l_ (h:=s_ (h:=e_ (A4 (?_))))))))))
 refine AB ?_
 have ej:s.mounts.length+1 - j=0:=by omega
 rw[ej]at hit
 rw[←hit]
 rfl
end
end Go.Proofs.YtbglbmnhgbgelaaGreatDoor
namespace Go.Proofs.YtbglbmnhgbgelaaGreatDoor
section
variable {s:Spc}(hv:SpcV s)
include hv
omit hv in
theorem Pd{a:A9}(h:(BT s a).2=true):Ai s.files a=true∧Bt s a.1=true:=by
 unfold BT at h
 split at h
 ·rename_i c;exact⟨c.1,c.2.1⟩
 cases h
theorem TL{d:Int}(h0:0≤d)(h1:d<(s.files.length:Int)):Ai s.files (d,1)=true:=by
 obtain⟨q,rfl⟩:=Int.eq_ofNat_of_zero_le h0
 have hq:s.files[q]?=some s.files[q]:=B9 (by omega)
 obtain⟨r,rest,hr,h2,h3,_⟩:=(hv.files.vd _ (Am hq)).root
 exact(JG (PU hv hq (by rw[hr];exact List.mem_cons_self ..) h2)).2 h3
end
end Go.Proofs.YtbglbmnhgbgelaaGreatDoor
namespace Go.Proofs.YtbglbmnhgbgelaaGreatDoor
structure Fnd where
 dir:A9
 name:AD
 file:A9
 ex:Bool
 slash:Bool
 path:AD
def Cw:Fnd:=⟨(0,0),⟨#[]⟩,(0,0),false,false,⟨#[]⟩⟩
def Av(x:Fnd):List AV:=[.v (.int .i64 x.dir.1), .v (.int .i64 x.dir.2), .v (.string x.name), .v (.int .i64 x.file.1), .v (.int .i64 x.file.2), .v (.bool x.ex), .v (.bool x.slash), .v (.string x.path)]
def CO(s:AD):List AD:=(Ba s.data.toList).map fun l=>⟨l.toArray⟩
theorem TM(s:AD):Bu (CO s)=Ba s.data.toList:=by
 unfold Bu CO
 rw[List.map_map]
 have:((fun x:AD=>x.data.toList) ∘ fun l:Bs=>(⟨l.toArray⟩:AD))=id:=by funext l;simp
 rw[this,List.map_id]
theorem TN:∀{a b:List AD},Bu a=Bu b→a=b
 |[],[],_=>rfl
 |[],_::_,h=>by simp[Bu]at h
 |_::_,[],h=>by simp[Bu]at h
 |x::a,y::b,h=>by
   simp only[Bu,List.map_cons,List.cons.injEq]at h
   rw[LZ h.1,TN (a:=a) (b:=b) h.2]
theorem Pe{s:AD}{ps:List AD}(h:Bu ps=Ba s.data.toList):ps=CO s:=TN (h.trans (TM s).symm)
theorem K4(s:AD):(CO s).length≤s.size+1:=by
 have h1:=TD (CO s)
 have h2:=Ou s.data.toList
 rw[←TM]at h2
 rw[Lib.size_eq]
 omega
def DJ(s:Spc):A9:=CR s s.mounts.length (0,1)
structure Lk where
 ps:List AD
 dir:A9
 name:AD
 file:A9
 ex:Bool
 links:Nat
abbrev N7:AD:=⟨#[46]⟩
abbrev La:AD:=⟨#[46,46]⟩
def CC(s:Spc)(fl:Bool)(p:AD)(ps:List AD)(a:A9)(lk:Nat):Int ⊕ Lk:=
 if Ai s.files a=false then .inl 20
 else if 12<p.size then .inl 36
 else if p=N7 then .inr ⟨ps,a,⟨#[]⟩,a,true,lk⟩
 else if p=La then .inr ⟨ps,CR s s.mounts.length (D6 s (s.mounts.length+1) a),⟨#[]⟩,CR s s.mounts.length (D6 s (s.mounts.length+1) a),true,lk⟩
 else if(AJ s.files a p).2≠0 then(if ps≠[]∨Cy p=false then .inl 2 else .inr ⟨[],a,p,(0,0),false,lk⟩)
 else if(AU s.files (AJ s.files a p).1).kind=3∧(ps≠[]∨fl=true)then
  (if lk=8 then .inl 40 else
    .inr ⟨CO (AU s.files (AJ s.files a p).1).target++ps,if Ch (AU s.files (AJ s.files a p).1).target=true then DJ s else a,⟨#[]⟩,if Ch (AU s.files (AJ s.files a p).1).target=true then DJ s else a,true,lk+1⟩)
 else .inr ⟨ps,a,p,CR s s.mounts.length (AJ s.files a p).1,true,lk⟩
def N8:Lk:=⟨[],(0,0),⟨#[]⟩,(0,0),false,0⟩
def Ft(s:Spc)(fl:Bool):Nat→Lk→Int×Lk
 |0,σ=>(0,σ)
 |k+1,σ=>match σ.ps with
   |[]=>(0,σ)
   |p::ps=>match CC s fl p ps σ.file σ.links with
     | .inl e=>(e,N8)
     | .inr τ=>Ft s fl k τ
def E1(σ:Lk):Nat:=(8 - σ.links) * 200+σ.ps.length
section
variable {s:Spc}(hv:FlsV s.files)
include hv
theorem Pg{fl:Bool}{p:AD}{ps:List AD}{a:A9}{lk:Nat}{τ:Lk}(h8:lk≤8)(h:CC s fl p ps a lk= .inr τ):τ.links≤8∧E1 τ<(8 - lk) * 200+(ps.length+1):=by
 unfold CC at h
 split at h
 ·cases h
 split at h
 ·cases h
 split at h
 ·injection h with h;subst h;exact⟨h8,by unfold E1;simp only;omega⟩
 split at h
 ·injection h with h;subst h;exact⟨h8,by unfold E1;simp only;omega⟩
 split at h
 ·split at h
  ·cases h
  injection h with h;subst h;exact⟨h8,by unfold E1;simp only[List.length_nil];omega⟩
 split at h
 ·split at h
  ·cases h
  rename_i h9
  injection h with h
  subst h
  have ht:=LR hv (AJ s.files a p).1
  have hl:=K4 (AU s.files (AJ s.files a p).1).target
  refine⟨by simp only;omega,?_⟩
  unfold E1
  simp only[List.length_append]
  have:(8 - lk) * 200=(8 - (lk+1)) * 200+200:=by
   rw[show 8 - lk=(8 - (lk+1))+1 by omega,Nat.add_mul]
  omega
 injection h with h;subst h;exact⟨h8,by unfold E1;simp only;omega⟩
theorem Yp(fl:Bool):∀(k k':Nat) (σ:Lk),σ.links≤8→E1 σ≤k→E1 σ≤k'→Ft s fl k σ=Ft s fl k' σ:=by
 intro k
 induction k with
 |zero=>
   intro k' σ h8 h h'
   have he:σ.ps=[]:=by
    unfold E1 at h
    exact List.eq_nil_of_length_eq_zero (by omega)
   cases k' with
   |zero=>rfl
   |succ k'=>unfold Ft;rw[he]
 |succ k ih=>
   intro k' σ h8 h h'
   cases hps:σ.ps with
   |nil=>cases k'<;>(unfold Ft;rw[hps])
   |cons p ps=>
     have hm:E1 σ=(8 - σ.links) * 200+(ps.length+1):=by unfold E1;rw[hps];rfl
     cases k' with
     |zero=>rw[hm]at h';omega
     |succ k'=>
       unfold Ft
       rw[hps]
       simp only
       cases hs:CC s fl p ps σ.file σ.links with
       |inl e=>rfl
       |inr τ=>
         simp only
         obtain⟨h1,h2⟩:=Pg hv h8 hs
         exact ih k' τ h1 (by omega) (by omega)
end
def DK(s:Spc)(fl:Bool)(σ:Lk):Int×Lk:=Ft s fl (E1 σ) σ
theorem Ph{s:Spc}{fl:Bool}{σ:Lk}(h:σ.ps=[]):DK s fl σ=(0,σ):=by
 unfold DK
 cases E1 σ with
 |zero=>rfl
 |succ k=>unfold Ft;rw[h]
theorem TO{s:Spc}(hv:FlsV s.files){fl:Bool}{σ:Lk}{p:AD}{ps:List AD}(h8:σ.links≤8)(h:σ.ps=p::ps):DK s fl σ=match CC s fl p ps σ.file σ.links with
    | .inl e=>(e,N8)
    | .inr τ=>DK s fl τ:=by
 have hm:E1 σ=((8 - σ.links) * 200+ps.length)+1:=by unfold E1;rw[h];rfl
 unfold DK
 rw[hm]
 conv=>lhs;unfold Ft
 rw[h]
 simp only
 cases hs:CC s fl p ps σ.file σ.links with
 |inl e=>rfl
 |inr τ=>
   simp only
   obtain⟨h1,h2⟩:=Pg hv h8 hs
   exact Yp hv fl _ _ τ h1 (by omega) (Nat.le_refl _)
def Fu(s:Spc)(sl:Bool)(τ:Lk):Fnd:=⟨τ.dir,τ.name,τ.file,τ.ex,sl,if(BT s τ.dir).2=true then(if τ.name=⟨#[]⟩then(BT s τ.dir).1 else Cm (BT s τ.dir).1 τ.name)else⟨#[]⟩⟩
def F8(ps:List AD)(a:A9):Lk:=⟨ps,a,⟨#[]⟩,a,true,0⟩
def BV(s:Spc)(start:A9)(p:AD)(fl:Bool):Fnd×Int:=
 if p=⟨#[]⟩then(Cw,2)else if 128<p.size then(Cw,36)
 else if Ai s.files (if Ch p=true then DJ s else start)=false then(Cw,2)
 else if(DK s (fl||B5 p) (F8 (CO p) (if Ch p=true then DJ s else start))).1≠0 then(Cw,(DK s (fl||B5 p) (F8 (CO p) (if Ch p=true then DJ s else start))).1)
 else if B5 p=true∧(DK s (fl||B5 p) (F8 (CO p) (if Ch p=true then DJ s else start))).2.ex=true∧Ai s.files (DK s (fl||B5 p) (F8 (CO p) (if Ch p=true then DJ s else start))).2.file=false then(Cw,20)
 else(Fu s (B5 p) (DK s (fl||B5 p) (F8 (CO p) (if Ch p=true then DJ s else start))).2,0)
end Go.Proofs.YtbglbmnhgbgelaaGreatDoor
namespace Go.Proofs.YtbglbmnhgbgelaaGreatDoor
open Go.RowKit
structure Dsc where
 fd:Int
 file:A9
 flags:Int
structure Prc where
 pid:Int
 ppid:Int
 uid:Int
 euid:Int
 gid:Int
 egid:Int
 auid:Int
 ses:Int
 cwd:A9
 comm:AD
 exe:AD
 opens:List Dsc
 audited:Bool
structure Tab where
 next:Int
 nextS:Int
 ps:List Prc
structure Syst where
 spc:Spc
 tab:Tab
structure Cal where
 num:Int
 a0:Int
 a1:Int
 a2:Int
 a3:Int
 paths:List AD
 args:List AD
structure Res where
 exit:Int
 child:Int
 gone:Int
 items:List Itm
 changes:List DE
structure Wrk where
 s:Syst
 p:Prc
 c:Cal
 found:List Fnd
 r:Res
def Yq:Prc:=⟨0,0,0,0,0,0,0,0,(0,0),⟨#[]⟩,⟨#[]⟩,[],false⟩
def Cz:Tab:=⟨0,0,[]⟩
def F9:Res:=⟨0,0,0,[],[]⟩
def Pi(cwd:A9):Tab:=⟨2,1,[⟨1,0,0,0,0,0,4294967295,4294967295,cwd,⟨#[105,110,105,116]⟩,⟨#[47,105,110,105,116]⟩,[],true⟩]⟩
def K5(t:Tab)(pid:Int):Option Prc:=t.ps.find? fun p=>decide (p.pid=pid)
def Da(t:Tab)(pid:Int):Bool:=(K5 t pid).isSome
def Ax(t:Tab)(pid:Int):Prc:=(K5 t pid).getD Yq
def Fv(t:Tab)(p:Prc):Tab:=⟨t.next,t.nextS,t.ps.map fun x=>if x.pid=p.pid then p else x⟩
def Pj(t:Tab)(pid:Int):Tab×Int×Int:=
 if Da t pid=false then(Cz,0,3)else if 16≤(t.ps.length:Int)∨t.next=1073741824 then(Cz,0,11)
 else(⟨t.next+1,t.nextS,t.ps++[{Ax t pid with pid:=t.next,ppid:=pid}]⟩,t.next,0)
def Yr(pid:Int)(p:Prc):Prc:=if p.ppid=pid then{p with ppid:=1}else p
def TP(t:Tab)(pid:Int):Tab×Int:=
 if Da t pid=false then(Cz,3)else if pid=1 then(Cz,1)
 else(⟨t.next,t.nextS,(t.ps.filter fun p=>decide (p.pid≠pid)).map (Yr pid)⟩,0)
def Hk(priv:Bool)(real eff n:Int):Int×Int×Int:=if priv=true then(n,n,0)else if n=real∨n=eff then(real,n,0)else(0,0,1)
def Pk(n:Int):Bool:=decide (0≤n)&&decide (n<4294967295)
def Ys(t:Tab)(pid u:Int):Tab×Int:=
 if Da t pid=false then(Cz,3)else if Pk u=false then(Cz,22)
 else if(Hk (decide ((Ax t pid).euid=0)) (Ax t pid).uid (Ax t pid).euid u).2.2≠0 then(Cz,(Hk (decide ((Ax t pid).euid=0)) (Ax t pid).uid (Ax t pid).euid u).2.2)
 else(Fv t {Ax t pid with uid:=(Hk (decide ((Ax t pid).euid=0)) (Ax t pid).uid (Ax t pid).euid u).1,euid:=(Hk (decide ((Ax t pid).euid=0)) (Ax t pid).uid (Ax t pid).euid u).2.1},0)
def Yt(t:Tab)(pid u:Int):Tab×Int:=
 if Da t pid=false then(Cz,3)else if Pk u=false then(Cz,22)
 else if(Hk (decide ((Ax t pid).euid=0)) (Ax t pid).gid (Ax t pid).egid u).2.2≠0 then(Cz,(Hk (decide ((Ax t pid).euid=0)) (Ax t pid).gid (Ax t pid).egid u).2.2)
 else(Fv t {Ax t pid with gid:=(Hk (decide ((Ax t pid).euid=0)) (Ax t pid).gid (Ax t pid).egid u).1,egid:=(Hk (decide ((Ax t pid).euid=0)) (Ax t pid).gid (Ax t pid).egid u).2.1},0)
def Yu(t:Tab)(pid auid:Int):Tab×Int:=
 if Da t pid=false then(Cz,3)else if Pk auid=false then(Cz,22)
 else if(Ax t pid).auid≠4294967295∧(Ax t pid).euid≠0 then(Cz,1)else if t.nextS=1073741824 then(Cz,11)
 else(⟨t.next,t.nextS+1,(Fv t {Ax t pid with auid:=auid,ses:=t.nextS}).ps⟩,0)
def Dk:Nat→List Dsc→Nat
 |k,[]=>k
 |k,d::r=>if d.fd=(k:Int)then Dk (k+1) r else k
def K6(l:List Dsc)(fd:Nat)(x:Dsc):List Dsc:=l.take fd++x::l.drop fd
def EH(t:Tab)(pid:Int)(a:A9)(flags:Int):Tab×Int×Int:=
 if Da t pid=false then(Cz,0,3)else if 8≤((Ax t pid).opens.length:Int)then(Cz,0,24)
 else(Fv t {Ax t pid with opens:=K6 (Ax t pid).opens (Dk 0 (Ax t pid).opens) ⟨(Dk 0 (Ax t pid).opens:Nat),a,flags⟩},(Dk 0 (Ax t pid).opens:Nat),0)
def Yv(t:Tab)(pid fd:Int):Tab×Int:=
 if Da t pid=false then(Cz,3)else if(((Ax t pid).opens.filter fun d=>decide (d.fd≠fd)).length:Int)=((Ax t pid).opens.length:Int)then(Cz,9)
 else(Fv t {Ax t pid with opens:=(Ax t pid).opens.filter fun d=>decide (d.fd≠fd)},0)
def Yw(t:Tab)(pid:Int)(dir:A9):Tab×Int:=if Da t pid=false then(Cz,3)else(Fv t {Ax t pid with cwd:=dir},0)
def Yx(t:Tab)(pid:Int)(exe comm:AD):Tab×Int:=if Da t pid=false then(Cz,3)else(Fv t {Ax t pid with exe:=exe,comm:=comm},0)
def Yy(t:Tab)(pid target:Int)(ends:Bool):Tab×Int:=
 if Da t pid=false then(Cz,3)else if Da t target=false then(Cz,3)
 else if target=1∨(Ax t pid).euid≠0∧(Ax t pid).euid≠(Ax t target).uid then(Cz,1)
 else if ends=true then TP t target else(t,0)
def JL:List (AD×Int×Int×Int×Int):=[(⟨#[102,111,114,107]⟩,0,0,0,0),
 (⟨#[101,120,101,99,118,101]⟩,0,1,0,4),
 (⟨#[101,120,105,116]⟩,1,0,0,0),
 (⟨#[115,101,116,117,105,100]⟩,1,0,0,0),
 (⟨#[115,101,116,103,105,100]⟩,1,0,0,0),
 (⟨#[108,111,103,105,110]⟩,1,0,0,0),
 (⟨#[111,112,101,110]⟩,2,1,0,0),
 (⟨#[99,108,111,115,101]⟩,1,0,0,0),
 (⟨#[108,105,110,107]⟩,0,2,0,0),
 (⟨#[115,121,109,108,105,110,107]⟩,0,1,1,1),
 (⟨#[117,110,108,105,110,107]⟩,0,1,0,0),
 (⟨#[109,107,100,105,114]⟩,1,1,0,0),
 (⟨#[114,109,100,105,114]⟩,0,1,0,0),
 (⟨#[114,101,110,97,109,101]⟩,0,2,0,0),
 (⟨#[99,104,109,111,100]⟩,1,1,0,0),
 (⟨#[99,104,111,119,110]⟩,2,1,0,0),
 (⟨#[99,104,100,105,114]⟩,0,1,0,0),
 (⟨#[109,111,117,110,116]⟩,1,1,0,0),
 (⟨#[117,109,111,117,110,116]⟩,1,0,0,0),
 (⟨#[99,111,110,110,101,99,116]⟩,1,0,1,1),
 (⟨#[107,105,108,108]⟩,2,0,0,0),
 (⟨#[116,114,117,110,99,97,116,101]⟩,1,1,0,0)]
def DR(n:Int):AD×Int×Int×Int×Int:=if n<0∨22≤n then(⟨#[]⟩,0,0,0,0)else(JL[n.toNat]?).getD (⟨#[]⟩,0,0,0,0)
def K7(c:Cal):List Int:=[c.a0,c.a1,c.a2,c.a3]
def BU(c:Cal):Int:=
 if(DR c.num).1=⟨#[]⟩then 100 else if(((K7 c).drop (DR c.num).2.1.toNat).any fun x=>decide (x≠0))=true then 101
 else if(c.paths.length:Int)≠(DR c.num).2.2.1∨(c.args.length:Int)<(DR c.num).2.2.2.1∨(DR c.num).2.2.2.2<(c.args.length:Int)then 101
 else if(c.paths.any fun p=>decide (128<p.size))=true then 102 else if(c.args.any fun p=>decide (64<p.size))=true then 102 else 0
def EJ(n:Nod)(euid egid:Int):Int:=
 if euid=n.uid then Fg .i64 (ME .i64 n.mode 6) 7 else if egid=n.gid then Fg .i64 (ME .i64 n.mode 3) 7 else Fg .i64 n.mode 7
def E3(n:Nod)(euid egid want:Int):Bool:=
 if want<0∨7<want then false
 else if euid=0 then decide (Fg .i64 want 1=0)||decide (n.kind=2)||decide (Fg .i64 n.mode 73≠0)
 else decide (Fg .i64 (EJ n euid egid) want=want)
def Bi(a f:Int):Bool:=decide (Fg .i64 a f≠0)
def CJ(c:Cal):List Int:=
 if c.num=1 then[1]else if c.num=6 then[(if Bi c.a0 1=true then 4 else 0)+(if Bi c.a0 22=true then 2 else 0)]
 else if c.num=8 then[8,2]else if c.num=13 then[2,2]else if c.num=14∨c.num=15∨c.num=17 then[8]else if c.num=16 then[4]else[2]
def CT(c:Cal):Bool:=
 if c.num=6 then decide (Fg .i64 c.a0 32=0)else decide (c.num=1∨c.num=14∨c.num=15∨c.num=16∨c.num=17∨c.num=21)
def Lb(n:Int):Bool:=decide (0≤n)&&decide (n≤511)
def K8(c:Cal):AD:=c.args.headD ⟨#[]⟩
def Cx(p:Prc)(c:Cal):Int:=
 if c.num=6 then(if c.a0<0∨63<c.a0∨Fg .i64 c.a0 3=0∨Lb c.a1=false then 22 else if 8≤(p.opens.length:Int)then 24 else 0)
 else if c.num=9 then(if K8 c=⟨#[]⟩then 2 else if(K8 c).data.toList.any (fun b=>decide (b=0))=true then 22 else 0)
 else if c.num=11∨c.num=14 then(if Lb c.a0=false then 22 else 0)
 else if c.num=15 then(if c.a0<0∨4294967295<c.a0∨c.a1<0∨4294967295<c.a1 then 22 else 0)
 else if c.num=17 then(if p.euid≠0 then 1 else 0)
 else if c.num=21 then(if c.a0<0 then 22 else 0)else 0
def Lc(s:Spc)(given:AD)(perm:Int)(f:Fnd):Itm:=
 ⟨given,f.path,f.dir,f.name,f.file,1,(AU s.files f.file).kind,(AU s.files f.file).mode,(AU s.files f.file).uid,(AU s.files f.file).gid,perm⟩
def Ep(given:AD)(perm:Int):Itm:=⟨given,⟨#[]⟩,(0,0),⟨#[]⟩,(0,0),1,0,0,0,0,perm⟩
def ET(s:Spc)(cwd:A9)(fl:Bool)(x:List Itm×List Fnd×Int)(g:AD×Int):List Itm×List Fnd×Int:=
 if x.2.2=0 then
  (if(BV s cwd g.1 fl).2=0 then(x.1++[Lc s g.1 g.2 (BV s cwd g.1 fl).1],x.2.1++[(BV s cwd g.1 fl).1],0)else(x.1++[Ep g.1 g.2],x.2.1++[(BV s cwd g.1 fl).1],(BV s cwd g.1 fl).2))
 else(x.1++[Ep g.1 g.2],x.2.1++[Cw],x.2.2)
def Ge(s:Spc)(cwd:A9)(fl:Bool)(l:List (AD×Int))(e:Int):List Itm×List Fnd×Int:=l.foldl (ET s cwd fl) ([],[],e)
def At(w:Wrk)(i:Nat):Fnd:=(w.found[i]?).getD Cw
def D7(w:Wrk)(a:A9)(want:Int):Bool:=E3 (AU w.s.spc.files a) w.p.euid w.p.egid want
def Gf(w:Wrk)(i:Nat):Bool:=Ai w.s.spc.files (At w i).file
def Gg(w:Wrk)(a:A9):Bool:=(Bo w.s.spc a).isSome||w.s.tab.ps.any fun p=>decide (p.cwd=a)
def Bl(w:Wrk)(R:Df):Wrk×Int:=if R.2.2=0 then({w with s:=⟨⟨R.1,w.s.spc.mounts⟩,w.s.tab⟩,r:={w.r with changes:=R.2.1}},0)else(w,R.2.2)
def DS(w:Wrk)(R:Tab×Int):Wrk×Int:=if R.2=0 then({w with s:=⟨w.s.spc,R.1⟩},0)else(w,R.2)
def TQ(n:Nod)(a:A9)(x:Itm):Itm:={x with role:=2,file:=a,kind:=n.kind,mode:=n.mode,uid:=n.uid,gid:=n.gid}
def GG(w:Wrk)(i:Nat)(a:A9):Wrk:={w with r:={w.r with items:=w.r.items.modify i (TQ (AU w.s.spc.files a) a)}}
def Yz:DE:=((0,0),⟨#[]⟩,(0,0),(0,0))
def TR(l:List DE):A9:=(l.headD Yz).2.2.2
def Ld(w:Wrk)(n:Nod):Nod:={n with uid:=w.p.euid,gid:=w.p.egid}
def Dl(w:Wrk)(i:Nat)(n:Nod):Df:=Dj w.s.spc.files (At w i).dir (At w i).name (Ld w n)
def Cc(w:Wrk)(i:Nat)(n:Nod):Wrk×Int:=
 if(Dl w i n).2.2=0 then(GG (Bl w (Dl w i n)).1 i (TR (Dl w i n).2.1),0)else(w,(Dl w i n).2.2)
def Er(w:Wrk)(i:Nat)(role:Int):Wrk:={w with r:={w.r with items:=w.r.items.modify i fun x=>{x with role:=role}}}
def TS(w:Wrk)(n:Int):Wrk:={w with r:={w.r with exit:=n}}
def Fb(mode:Int):Nod:=⟨0,1,mode,0,0,0,⟨#[]⟩,[]⟩
def Gi(w:Wrk)(a:A9):Wrk×Int:=DS (TS w (EH w.s.tab w.p.pid a w.c.a0).2.1) ((EH w.s.tab w.p.pid a w.c.a0).1,(EH w.s.tab w.p.pid a w.c.a0).2.2)
def Gj(a:Int):Int:=(if Bi a 1=true then 4 else 0)+(if Bi a 18=true then 2 else 0)
def C5(w:Wrk):Wrk×Int:=
 if(At w 0).ex=true then
  (if Bi w.c.a0 4=true∧Bi w.c.a0 8=true then(w,17)
  else if(AU w.s.spc.files (At w 0).file).kind=3 then(w,40)
  else if(AU w.s.spc.files (At w 0).file).kind=2∧Bi w.c.a0 22=true then(w,21)
  else if D7 w (At w 0).file (Gj w.c.a0)=false then(w,13)
  else Gi w (At w 0).file)
 else
  (if Bi w.c.a0 4=false then(w,2)else if(At w 0).slash=true then(w,21)else if D7 w (At w 0).dir 2=false then(w,13)
  else if(Cc w 0 (Fb w.c.a1)).2≠0 then Cc w 0 (Fb w.c.a1)
  else Gi (Cc w 0 (Fb w.c.a1)).1 (TR (Cc w 0 (Fb w.c.a1)).1.r.changes))
def Z0(w:Wrk):Wrk×Int:=
 if(At w 0).ex=false then(w,2)else if Gf w 0=true then(w,1)else if(At w 1).ex=true then(w,17)else if(At w 1).slash=true then(w,2)
 else if(At w 0).file.1≠(At w 1).dir.1 then(w,18)else if D7 w (At w 1).dir 2=false then(w,13)
 else if(Dt w.s.spc.files (At w 1).dir (At w 1).name (At w 0).file).2.2≠0 then(w,(Dt w.s.spc.files (At w 1).dir (At w 1).name (At w 0).file).2.2)
 else(GG (Bl w (Dt w.s.spc.files (At w 1).dir (At w 1).name (At w 0).file)).1 1 (At w 0).file,0)
def TT(w:Wrk)(R:Df):Wrk×Int:=if R.2.2≠0 then(w,R.2.2)else(Er (Bl w R).1 0 3,0)
def Z1(w:Wrk):Wrk×Int:=
 if(At w 0).ex=false then(w,2)
 else if w.c.num=10 then
  (if(At w 0).name=⟨#[]⟩∨Gf w 0=true then(w,21)else if D7 w (At w 0).dir 2=false then(w,13)
  else TT w (FX w.s.spc.files (At w 0).dir (At w 0).name))
 else
  (if(At w 0).name=⟨#[]⟩then(w,16)else if Gf w 0=false then(w,20)
  else if Gg w (AJ w.s.spc.files (At w 0).dir (At w 0).name).1=true then(w,16)else if D7 w (At w 0).dir 2=false then(w,13)
  else TT w (En w.s.spc.files (At w 0).dir (At w 0).name))
def GH(w:Wrk)(R:Df)(x:A9):Wrk×Int:=
 if R.2.2≠0 then(w,R.2.2)else if 0<(R.2.1.length:Int)then(GG (Er (Bl w R).1 0 3) 1 x,0)else((Bl w R).1,0)
def Dm(w:Wrk):Wrk×Int:=
 if(At w 0).ex=false then(w,2)else if(At w 0).name=⟨#[]⟩∨(At w 1).name=⟨#[]⟩then(w,16)
 else if(At w 1).slash=true∧Gf w 0=false then(w,20)else if(At w 0).dir.1≠(At w 1).dir.1 then(w,18)
 else if D7 w (At w 0).dir 2=false∨D7 w (At w 1).dir 2=false then(w,13)
 else if(AJ w.s.spc.files (At w 1).dir (At w 1).name).2=0∧(AJ w.s.spc.files (At w 1).dir (At w 1).name).1≠(AJ w.s.spc.files (At w 0).dir (At w 0).name).1∧Ai w.s.spc.files (AJ w.s.spc.files (At w 1).dir (At w 1).name).1=true∧Gg w (AJ w.s.spc.files (At w 1).dir (At w 1).name).1=true then(w,16)
 else GH w (EG w.s.spc.files (At w 0).dir (At w 0).name (At w 1).dir (At w 1).name) (AJ w.s.spc.files (At w 0).dir (At w 0).name).1
def TU(w:Wrk)(R:AR×Int):Wrk×Int:=Bl w (R.1,[],R.2)
def Z2(w:Wrk):Wrk×Int:=
 if(At w 0).ex=false then(w,2)
 else if w.c.num=14 then
  (if w.p.euid≠0∧w.p.euid≠(AU w.s.spc.files (At w 0).file).uid then(w,1)
  else TU w (FY w.s.spc.files (At w 0).file w.c.a0 (AU w.s.spc.files (At w 0).file).uid (AU w.s.spc.files (At w 0).file).gid))
 else if w.p.euid≠0 then(w,1)else TU w (FY w.s.spc.files (At w 0).file (AU w.s.spc.files (At w 0).file).mode w.c.a0 w.c.a1)
def Z3(w:Wrk)(R:Spc×Int):Wrk×Int:=if R.2=0 then({w with s:=⟨R.1,w.s.tab⟩},0)else(w,R.2)
def Z4(w:Wrk):Wrk×Int:=
 if(At w 0).ex=false then(w,2)
 else if w.c.num=1 then(if Gf w 0=true∨D7 w (At w 0).file 1=false then(w,13)else DS w (Yx w.s.tab w.p.pid (At w 0).path (At w 0).name))
 else if w.c.num=16 then(if Gf w 0=false then(w,20)else if D7 w (At w 0).file 1=false then(w,13)else DS w (Yw w.s.tab w.p.pid (At w 0).file))
 else if w.c.num=17 then(if Gf w 0=false then(w,20)else Z3 w (Co w.s.spc w.c.a0 (At w 0).file))
 else if Gf w 0=true then(w,21)else if D7 w (At w 0).file 2=false then(w,13)else(w,0)
def Z5(t:AD):Nod:=⟨0,3,511,0,0,0,t,[]⟩
def Z6(mode:Int):Nod:=⟨0,2,mode,0,0,0,⟨#[]⟩,[]⟩
def Z7(w:Wrk):Wrk×Int:=
 if(At w 0).ex=true then(w,17)else if(At w 0).slash=true∧w.c.num=9 then(w,2)else if D7 w (At w 0).dir 2=false then(w,13)
 else if w.c.num=9 then Cc w 0 (Z5 (K8 w.c))else Cc w 0 (Z6 w.c.a0)
def Z8(t:Tab)(dev:Int):Bool:=t.ps.any fun p=>decide (p.cwd.1=dev)||p.opens.any fun d=>decide (d.file.1=dev)
def Z9(w:Wrk)(R:Spc×Int):Wrk×Int:=if R.2=0 then({w with s:=⟨R.1,w.s.tab⟩,r:={w.r with gone:=w.c.a0}},0)else(w,R.2)
def ZA(w:Wrk):Wrk×Int:=
 if w.p.euid≠0 then(w,1)else if w.c.a0=0∨Bt w.s.spc w.c.a0=false then(w,22)else if Z8 w.s.tab w.c.a0=true then(w,16)
 else Z9 w (Xm w.s.spc w.c.a0)
def ZB(w:Wrk)(n:Int):Wrk:={w with r:={w.r with exit:=n,child:=n}}
def ZC(w:Wrk):Wrk×Int:=
 if w.c.num=0 then DS (ZB w (Pj w.s.tab w.p.pid).2.1) ((Pj w.s.tab w.p.pid).1,(Pj w.s.tab w.p.pid).2.2)
 else if w.c.num=2 then DS w (TP w.s.tab w.p.pid)
 else if w.c.num=3 then DS w (Ys w.s.tab w.p.pid w.c.a0)
 else if w.c.num=4 then DS w (Yt w.s.tab w.p.pid w.c.a0)
 else if w.c.num=5 then DS w (Yu w.s.tab w.p.pid w.c.a0)
 else if w.c.num=7 then DS w (Yv w.s.tab w.p.pid w.c.a0)
 else if w.c.num=18 then ZA w
 else if w.c.num=19 then(if w.c.a0<0∨65535<w.c.a0∨K8 w.c=⟨#[]⟩then(w,22)else if w.c.a0=0 then(w,111)else(w,0))
 else if w.c.a1<0∨64<w.c.a1 then(w,22)else DS w (Yy w.s.tab w.p.pid w.c.a0 (decide (w.c.a1≠0)))
def D0(w:Wrk):Wrk×Int:=
 if w.c.num=6 then C5 w else if w.c.num=8 then Z0 w else if w.c.num=10∨w.c.num=12 then Z1 w else if w.c.num=13 then Dm w
 else if w.c.num=14∨w.c.num=15 then Z2 w else if w.c.num=1∨w.c.num=16∨w.c.num=17∨w.c.num=21 then Z4 w
 else if w.c.num=9∨w.c.num=11 then Z7 w else ZC w
def Fc(s:Syst)(p:Prc)(c:Cal):List Itm×List Fnd×Int:=Ge s.spc p.cwd (CT c) (c.paths.zip (CJ c)) (Cx p c)
def EY(s:Syst)(pid:Int)(c:Cal):Wrk:=⟨s,Ax s.tab pid,c,(Fc s (Ax s.tab pid) c).2.1,{F9 with items:=(Fc s (Ax s.tab pid) c).1}⟩
def GJ(n:Int):Syst×Int:=if(Dy n).2≠0 then(⟨⟨[],[]⟩,Cz⟩,(Dy n).2)else(⟨⟨(Dy n).1,[]⟩,Pi (0,1)⟩,0)
def Hl(d:Dsc):List AV:=[.v (.int .i64 d.fd), .v (.int .i64 d.file.1), .v (.int .i64 d.file.2), .v (.int .i64 d.flags)]
def BW(p:Prc):List AV:=[.v (.int .i64 p.pid), .v (.int .i64 p.ppid), .v (.int .i64 p.uid), .v (.int .i64 p.euid), .v (.int .i64 p.gid), .v (.int .i64 p.egid), .v (.int .i64 p.auid), .v (.int .i64 p.ses), .v (.int .i64 p.cwd.1), .v (.int .i64 p.cwd.2), .v (.string p.comm), .v (.string p.exe), .sl 4 (p.opens.map Hl) none, .v (.bool p.audited)]
def Bv(t:Tab):List AV:=[.v (.int .i64 t.next), .v (.int .i64 t.nextS), .sl 14 (t.ps.map BW) none]
def D1(s:Syst):List AV:=[.sl 2 (s.spc.files.map BX) none, .sl 3 (s.spc.mounts.map Ck) none, .v (.int .i64 s.tab.next), .v (.int .i64 s.tab.nextS), .sl 14 (s.tab.ps.map BW) none]
def Es(s:AD):List AV:=[.v (.string s)]
def EU(c:Cal):List AV:=[.v (.int .i64 c.num), .v (.int .i64 c.a0), .v (.int .i64 c.a1), .v (.int .i64 c.a2), .v (.int .i64 c.a3), .sl 1 (c.paths.map Es) none, .sl 1 (c.args.map Es) none]
def CK(y:Itm):List AV:=[.v (.string y.given), .v (.string y.path), .v (.int .i64 y.dir.1), .v (.int .i64 y.dir.2), .v (.string y.name), .v (.int .i64 y.file.1), .v (.int .i64 y.file.2), .v (.int .i64 y.role), .v (.int .i64 y.kind), .v (.int .i64 y.mode), .v (.int .i64 y.uid), .v (.int .i64 y.gid), .v (.int .i64 y.perm)]
def EZ(r:Res):List AV:=[.v (.int .i64 r.exit), .v (.int .i64 r.child), .v (.int .i64 r.gone), .sl 13 (r.items.map CK) none, .sl 7 (r.changes.map C1) none]
def Ci(w:Wrk)(fnd its:AV):List AV:=
 [.sl 2 (w.s.spc.files.map BX) none, .sl 3 (w.s.spc.mounts.map Ck) none, .v (.int .i64 w.s.tab.next), .v (.int .i64 w.s.tab.nextS), .sl 14 (w.s.tab.ps.map BW) none,
 .v (.int .i64 w.p.pid), .v (.int .i64 w.p.ppid), .v (.int .i64 w.p.uid), .v (.int .i64 w.p.euid), .v (.int .i64 w.p.gid), .v (.int .i64 w.p.egid), .v (.int .i64 w.p.auid), .v (.int .i64 w.p.ses), .v (.int .i64 w.p.cwd.1), .v (.int .i64 w.p.cwd.2), .v (.string w.p.comm), .v (.string w.p.exe), .sl 4 (w.p.opens.map Hl) none, .v (.bool w.p.audited),
 .v (.int .i64 w.c.num), .v (.int .i64 w.c.a0), .v (.int .i64 w.c.a1), .v (.int .i64 w.c.a2), .v (.int .i64 w.c.a3), .sl 1 (w.c.paths.map Es) none, .sl 1 (w.c.args.map Es) none,fnd,
 .v (.int .i64 w.r.exit), .v (.int .i64 w.r.child), .v (.int .i64 w.r.gone),its, .sl 7 (w.r.changes.map C1) none]
structure TabB(t:Tab):Prop where
 few:t.ps.length≤16
 opens:∀p∈t.ps,p.opens.length≤8
 next:t.next≤1073741824
 nextS:t.nextS≤1073741824
structure RowF(sz:Nat){α:Type}(F:α→List AV):Prop where
 len:∀x,(F x).length=sz
 flat:∀x,∀y∈F x,(∃v,y= .v v)∨∃s r,y= .sl s r none
 pos:0<sz
def LB(sz:Nat){α:Type}(F:α→List AV)(l:List α)(cap:Nat):List AV:=Bz sz cap (l.map F)
section
variable {α:Type}{sz:Nat}{F:α→List AV}(hF:RowF sz F)
include hF
theorem JM(l:List α):∀r∈l.map F,r.length=sz:=by
 intro r hr
 obtain⟨x,_,rfl⟩:=List.mem_map.1 hr
 exact hF.len x
theorem Pl{l:List α}{cap:Nat}(h:l.length≤cap):(LB sz F l cap).length=cap * sz:=OT (JM hF l) (by simpa using h)
theorem ZD{g:AV→AV}(hv:∀x,g (.v x)= .v x)(hs:∀sz rows,g (.sl sz rows none)= .sl sz rows none)(x:α):(F x).map g=F x:=by
 conv=>rhs;rw[←List.map_id (F x)]
 apply List.map_congr_left
 intro y hy
 rcases hF.flat x y hy with⟨v,rfl⟩|⟨s,r,rfl⟩
 ·exact hv v
 exact hs s r
theorem Pm{g:AV→AV}(hany:g .any= .any)(hv:∀x,g (.v x)= .v x)(hs:∀sz rows,g (.sl sz rows none)= .sl sz rows none)(l:List α)(cap:Nat):(LB sz F l cap).map g=LB sz F l cap:=by
 unfold LB
 rw[Ky g hany,List.map_map]
 congr 1
 apply List.map_congr_left
 intro x _
 exact ZD hF hv hs x
theorem Fd(g:Nat→Option Nat)(l:List α)(cap:Nat):Cr g (LB sz F l cap)=LB sz F l cap:=by
 rw[Kw];exact Pm hF rfl (fun _=>rfl) (fun _ _=>rfl) l cap
theorem JN(g:Nat→Option Nat)(l:List α)(cap:Nat):Ei g (LB sz F l cap)=LB sz F l cap:=by
 rw[Mg];exact Pm hF rfl (fun _=>rfl) (fun _ _=>rfl) l cap
theorem ZE(g:Nat→Option (List AV))(l:List α)(cap:Nat):FN g (LB sz F l cap)=LB sz F l cap:=by
 rw[Kx];exact Pm hF rfl (fun _=>rfl) (fun _ _=>rfl) l cap
theorem ZF{n m:Nat}(x:α):Ao n m (F x)=true:=by
 refine Oc.2 fun y hy=>?_
 rcases hF.flat x y hy with⟨v,rfl⟩|⟨s,r,rfl⟩<;>rfl
theorem Bf{n m:Nat}{l:List α}{cap:Nat}:Ao n m (LB sz F l cap)=true:=by
 refine Od fun r hr=>?_
 obtain⟨x,_,rfl⟩:=List.mem_map.1 hr
 exact ZF hF x
theorem ZG{n:Nat}{bx:List (List AV)}{k j:Nat}{l:List α}{cap:Nat}(hn:n≤j)(hj:bx[j]?=some (LB sz F l cap)):D3 n bx (k+1) j=some (LB sz F l cap):=by
 have:Nat.blt j n=false:=by rw[←Bool.not_eq_true,Nat.blt_eq];omega
 simp only[D3,this,hj,Option.map_some,ZE hF]
theorem Pn{n:Nat}{bx:List (List AV)}{k j:Nat}{l:List α}{cap cap0:Nat}(hn:Nat.ble n j=true)(hj:bx[j]?=some (LB sz F l cap))(hc:l.length≤cap):EB n (D3 n bx (k+1)) (.bs j 0 sz l.length cap0)= .sl sz (l.map F) none:=
 SY (BD hn) (ZG hF (BD hn) hj) (JM hF l) (by simp) (by simpa using hc)
theorem ZH{l:List α}{cap i k:Nat}{x:α}{y:AV}(h:l[i]?=some x)(hx:(F x)[k]?=some y):(LB sz F l cap)[0+i * sz+k]?=some y:=L0 (JM hF l) (by rw[List.getElem?_map,h];rfl) hx
theorem Hm{l:List α}{cap i k:Nat}{x x':α}{cs:List AV}(h:l[i]?=some x)(hs:SetAt (F x) k cs (F x'))(hne:cs≠[]):SetAt (LB sz F l cap) (0+i * sz+k) cs (LB sz F (l.set i x') cap):=by
 have key:=Og (cap:=cap) (JM hF l) (by rw[List.getElem?_map,h];rfl) hs hne
 rw[←List.map_set]at key
 exact key
theorem TV{l:List α}{cap i:Nat}{x x':α}(h:l[i]?=some x):SetAt (LB sz F l cap) (0+i * sz) (F x') (LB sz F (l.set i x') cap):=by
 have hne:F x'≠[]:=fun e=>by have h1:=hF.len x';have h2:=hF.pos;rw[e]at h1;simp at h1;omega
 have hs:SetAt (F x) 0 (F x') (F x'):=by
  have:=SetAt.whole (xs:=F x') (l:=F x) (b:=[]) (by rw[hF.len,hF.len])
  simpa using this
 have key:=Hm hF (cap:=cap) h hs hne
 simpa using key
theorem TW(x:α)(cap:Nat):F x++List.replicate ((cap - 1) * sz) .any=LB sz F [x] cap:=by
 have _:=hF
 unfold LB Bz
 simp
theorem TX(acc:List α)(x:α)(cap0 cap:Nat):((LB sz F acc cap0).drop 0).take (acc.length * sz)++F x++List.replicate ((cap - (acc.length+1)) * sz) .any=LB sz F (acc++[x]) cap:=by
 unfold LB
 rw[RU (JM hF acc) (by simp),List.map_append]
 rfl
theorem TY{acc:List α}{x:α}{cap:Nat}{row:List AV}(hs:SetAt (LB sz F acc cap) (0+acc.length * sz) (F x) row)(hc:acc.length+1≤cap):row=LB sz F (acc++[x]) cap:=by
 have key:=RT (rows:=acc.map F) (sz:=sz) (cap:=cap) (r:=F x) (row':=row) (JM hF acc) (hF.len x) hF.pos (by simpa using hc) (by rw[List.length_map];exact hs)
 rw[key]
 unfold LB
 rw[List.map_append]
 rfl
end
theorem Du:RowF 14 BW:=⟨fun _=>rfl,fun x y h=>by simp[BW]at h;rcases h with h|h|h|h|h|h|h|h|h|h|h|h|h|h<;>first|exact .inl ⟨_,h⟩|exact .inr ⟨_,_,h⟩,by decide⟩
theorem BA:RowF 13 CK:=⟨fun _=>rfl,fun x y h=>by simp[CK]at h;rcases h with h|h|h|h|h|h|h|h|h|h|h|h|h<;>exact .inl ⟨_,h⟩,by decide⟩
theorem CX{f:Nat→Option AV}{bx:List (List AV)}{tk:List (Nat×Nat×List (List AV))}{l:List (Nat×AV)}{N:Dim}(n m:Nat){bx':List (List AV)}{tk':List (Nat×Nat×List (List AV))}(hbp:Aq n m bx'=true)(hn:Nat.ble N.ni n=true:=by rfl)(hb:bx.take n=bx':=by rfl)(ht:tk.take m=tk':=by rfl)(hl:Sub n m f l:=by repeat (first|exact Sub.nil|refine Sub.cons _ _ _ rfl rfl ?_|refine Sub.any _ _ ?_|refine Sub.sl _ _ _ _ _ rfl ?_|refine Sub.slnil _ _ _ rfl ?_|(apply Sub.of;(focus exact rfl);(focus exact LeA.of_eq (vb (by simp[*])));(focus exact rfl)))):Weak N ⟨f,⟨bx,tk⟩⟩ ⟨look l,⟨bx',tk'⟩⟩:=Au n m hn hb ht hbp hl
def D8(bx:List (List AV))(g:Nat→Option Nat):List Nat→List (List AV)→List (List AV)
 |[],bc=>bx++bc.map (Cr g)
 |i::is,[]=>D8 bx g is []
 |i::is,r::bc=>D8 (bx.set i (Cr g r)) g is bc
theorem TZ{g:Nat→Option Nat}:∀(is:List Nat) (bx bc:List (List AV)),is.length≤bc.length→(D8 bx g is bc).length=bx.length+(bc.length - is.length)
 |[],bx,bc,_=>by simp[D8]
 |i::is,bx,[],h=>by simp at h
 |i::is,bx,r::bc,h=>by
   unfold D8
   rw[TZ is _ bc (by simpa using h)]
   simp
theorem N9{g:Nat→Option Nat}:∀(is:List Nat) (bx bc:List (List AV)) (i:Nat),i∉is→i<bx.length→(D8 bx g is bc)[i]?=bx[i]?
 |[],bx,bc,i,_,hi=>by unfold D8;rw[List.getElem?_append_left hi]
 |j::is,bx,[],i,h,hi=>by
   unfold D8
   exact N9 is bx [] i (fun hm=>h (List.mem_cons_of_mem _ hm)) hi
 |j::is,bx,r::bc,i,h,hi=>by
   unfold D8
   rw[N9 is _ bc i (fun hm=>h (List.mem_cons_of_mem _ hm)) (by simpa using hi),List.getElem?_set_ne (fun e=>h (by rw[e];exact List.mem_cons_self ..))]
theorem Ta{g:Nat→Option Nat}:∀(is:List Nat) (bx bc:List (List AV)) (k i:Nat) (row:List AV),is.Nodup→i<bx.length→is[k]?=some i→bc[k]?=some row→(D8 bx g is bc)[i]?=some (Cr g row)
 |[],_,_,_,_,_,_,_,h,_=>by simp at h
 |j::is,bx,[],k,i,row,_,_,_,h=>by simp at h
 |j::is,bx,r::bc,0,i,row,hn,hi,h1,h2=>by
   simp at h1 h2
   subst h1 h2
   unfold D8
   rw[N9 is _ bc j (List.nodup_cons.1 hn).1 (by simpa using hi),List.getElem?_set_self hi]
 |j::is,bx,r::bc,k+1,i,row,hn,hi,h1,h2=>by
   unfold D8
   exact Ta is _ bc k i row (List.nodup_cons.1 hn).2 (by simpa using hi) (by simpa using h1) (by simpa using h2)
theorem Tc{g:Nat→Option Nat}:∀(is:List Nat) (bx bc:List (List AV)) (k:Nat) (row:List AV),bc[is.length+k]?=some row→(D8 bx g is bc)[bx.length+k]?=some (Cr g row)
 |[],bx,bc,k,row,h=>by
   unfold D8
   rw[List.getElem?_append_right (by omega),show bx.length+k - bx.length=k by omega,List.getElem?_map]
   simp at h
   rw[h];rfl
 |j::is,bx,[],k,row,h=>by simp at h
 |j::is,bx,r::bc,k,row,h=>by
   unfold D8
   have:=Tc (g:=g) is (bx.set j (Cr g r)) bc k row (by simpa[Nat.add_right_comm]using h)
   simpa using this
theorem Po{bx:List (List AV)}{is:List Nat}{bc:List (List AV)}(hn:is.Nodup)(hi:∀i∈is,i<bx.length)(hl:is.length≤bc.length):Back bx is bc (D8 bx (DV is bx.length) is bc):=by
 refine⟨TZ is bx bc hl,fun i row h1 h2=>?_,fun k i row h1 h2=>?_,fun k row h=>Tc is bx bc k row h⟩
 ·rw[N9 is bx bc i h1 (Af.1 h2).1];exact h2
 exact Ta is bx bc k i row hn (hi i (Am h1)) h1 h2
def Db:List AV:=[.v (.int .i64 0), .v (.int .i64 0), .v (.slice none 0 0)]
def Cj(t:Tab)(x:AV):List AV:=[.v (.int .i64 t.next), .v (.int .i64 t.nextS),x]
def D9(f:Prc→Prc)(l:List Prc)(j:Nat):List Prc:=(l.take j).map f++l.drop j
def Et(p x:Prc):Prc:=if x.pid=p.pid then p else x
theorem Hn(f:Prc→Prc)(l:List Prc)(j:Nat):(D9 f l j).length=l.length:=by
 unfold D9
 simp
 omega
theorem Pp{f:Prc→Prc}{l:List Prc}{j:Nat}{x:Prc}(h:l[j]?=some x):(D9 f l j)[j]?=some x:=by
 have hl:=(Af.1 h).1
 unfold D9
 rw[List.getElem?_append_right (by simp;omega)]
 simp only[List.length_map,List.length_take,List.getElem?_drop]
 rw[show j+(j - min j l.length)=j by omega]
 exact h
theorem Td{f:Prc→Prc}{l:List Prc}{j:Nat}{x:Prc}(h:l[j]?=some x):(D9 f l j).set j (f x)=D9 f l (j+1):=by
 obtain⟨hl,e⟩:=Af.1 h
 unfold D9
 rw[List.take_add_one,h,List.drop_eq_getElem_cons hl,List.set_append_right _ _ (by simp;omega)]
 simp only[List.length_map,List.length_take,List.map_append,List.append_assoc]
 rw[show j - min j l.length=0 by omega]
 rfl
theorem ZJ{f:Prc→Prc}{l:List Prc}{j:Nat}{x:Prc}(h:l[j]?=some x)(hf:f x=x):D9 f l j=D9 f l (j+1):=by
 rw[←Td h,hf]
 have h2:=Pp (f:=f) h
 obtain⟨h3,h4⟩:=Af.1 h2
 rw[←h4,List.set_getElem_self]
theorem ZK(f:Prc→Prc)(l:List Prc):D9 f l l.length=l.map f:=by
 unfold D9
 simp
theorem Te{t:Tab}{pid:Int}{p:Prc}(h:K5 t pid=some p):p∈t.ps:=List.mem_of_find?_eq_some h
theorem ZL{t:Tab}(ht:TabB t)(pid:Int):(Ax t pid).opens.length≤8:=by
 unfold Ax
 cases h:K5 t pid with
 |none=>exact Nat.zero_le _
 |some p=>exact ht.opens p (Te h)
theorem ZM{t:Tab}{pid:Int}(h:Da t pid=true):0<t.ps.length:=by
 unfold Da at h
 obtain⟨p,hp⟩:=Option.isSome_iff_exists.1 h
 exact List.length_pos_of_mem (Te hp)
theorem ZN{bx:List (List AV)}{n:Nat}(hn:bx.length=n)(t:Tab)(cap:Nat):Back bx [] [Bv t,Cj t (.bs 3 0 14 t.ps.length cap),Cj t (.bs 3 0 14 t.ps.length cap),LB 14 BW t.ps cap] (bx++[Bv t,Cj t (.bs (n+3) 0 14 t.ps.length cap),Cj t (.bs (n+3) 0 14 t.ps.length cap),LB 14 BW t.ps cap]):=by
 subst hn
 have:=Po (bx:=bx) (is:=[]) (bc:=[Bv t,Cj t (.bs 3 0 14 t.ps.length cap),Cj t (.bs 3 0 14 t.ps.length cap),LB 14 BW t.ps cap]) List.nodup_nil (by simp) (by simp)
 have e1:Cr (DV [] bx.length) (Bv t)=Bv t:=rfl
 have e2:Cr (DV [] bx.length) (Cj t (.bs 3 0 14 t.ps.length cap))=Cj t (.bs (bx.length+3) 0 14 t.ps.length cap):=by simp[Cr,Cj,EA,DV]
 simpa[D8,Fd Du,e1,e2]using this
section
theorem NA(p:Prc)(hp:p.opens.length≤1000):AFn Tryz.prog 107 [.agg (BW p)] (fun r=>r= .agg (BW p)):=by
 refine enter Tryz.func107 rfl rfl rfl rfl rfl 0 rfl ?_
 refine w_ (b_ (h:=AY (h:=e_ (w_ (f_ (h:=l_ (h:=?_)))))))
 first|refine A6 rfl (EM rfl rfl rfl (by simp;omega) (by repeat constructor) ?_)|refine A6 rfl (GQ rfl rfl (by simp;omega) (by repeat constructor) ?_)
 refine f_ (h:=s_ (h:=e_ (w_ (l_ (h:=s_ (h:=e_ (A4 (?_))))))))
 refine AB ?_
 rfl
theorem ZO(t:Tab)(ht:TabB t):AFn Tryz.prog 108 [.agg (Bv t)] (fun r=>r= .agg (Bv t)):=by
 have hfew:=ht.few
 refine enter Tryz.func108 rfl rfl rfl rfl rfl 0 rfl ?_
 refine w_ (b_ (h:=AY (h:=e_ (w_ (f_ (h:=l_ (h:=f_ (h:=l_ (h:=AT (h:=AY (h:=s_ (h:=e_ (q_ (w_ (a_ (h:=e_ (Aj (?_))))))))))))))))))
 refine O3 2 2 61 14 rfl rfl (by repeat constructor) (by repeat constructor) (by repeat constructor) ?_
 refine Bg (fun m s=>∃j:Nat,j≤t.ps.length∧m=t.ps.length - j∧s=⟨look [(1, .bp 0 0),(2, .bp 1 0),(3, .bp 2 0),(4, .v (.int .i64 (j:Int)))],⟨[Bv t,Db,Cj t (.sl 14 ((t.ps.take j).map BW) (some 0))],[(61,14,(t.ps.take j).map BW)]⟩⟩) (t.ps.length) ((wk 3 1)) (⟨0,Nat.zero_le _,rfl,rfl⟩) ?_
 rintro m s ⟨j,hj,rfl,rfl⟩
 refine q_ (w_ (m_ (h:=f_ (h:=l_ (h:=n_ (h:=BH (h:=e_ (?_))))))))
 refine A8 rfl (fun hb1=>?_) (fun hb1=>?_)
 ·have hc1:=bp hb1
  obtain⟨hlt,p,hy,hrow,e⟩:=Ca BW hc1
  have hop:p.opens.length≤1000:=by have:=ht.opens p (Am hy);omega
  refine AM (q_ (Aj (BL ([(0,Bv t),(1,Db),(2,Cj t (.sl 14 ((t.ps.take j).map BW) (some 0)))]) 11 (h:=AK 0 (h:=AE 1 (h:=AK 2 (h:=AE 3 (h:=AN 4 (h:=DO 5 (h:=AE 6 (h:=?_)))))))))))
  refine c_ 7 rfl (AG (NA p hop) ?_)
  rintro r rfl
  refine o_ (h:=Jf 8 (h:=?_))
  refine c_ 9 rfl (EM rfl rfl rfl (by simp;omega) (by repeat constructor) ?_)
  refine o_ (h:=AK 10 (h:=?_))
  refine B0 11 rfl (Ay rfl rfl rfl rfl rfl rfl (by repeat constructor) (by repeat constructor) ?_)
  refine o_ (h:=z_ (h:=As (t_ (AQ (m_ (h:=B6 (h:=a_ (h:=AO (?_)))))))))
  refine AF ?_
  refine⟨_,_,?_,⟨j+1,by omega,rfl,rfl⟩,(by rw[e];exact Au 3 1 rfl rfl rfl rfl ((by repeat (first|exact Sub.nil|refine Sub.cons _ _ _ rfl rfl ?_|refine Sub.any _ _ ?_|refine Sub.sl _ _ _ _ _ rfl ?_|refine Sub.slnil _ _ _ rfl ?_))))⟩
  omega
 have hc1:=bp hb1
 have e:=Cn BW hj hc1
 subst e
 rw[List.take_length]
 refine BM (Ak (Ak (BN (t_ (w_ (l_ (h:=s_ (h:=e_ (A4 (?_))))))))))
 refine AB ?_
 rfl
theorem ZP(t:Tab)(ht:TabB t)(h0:0<t.ps.length):ACall Tryz.prog 108 [.agg (Bv t)] [] (fun r b tk=>tk=[]∧∃cap,t.ps.length≤cap∧r= .agg (Cj t (.bs 3 0 14 t.ps.length cap))∧b=[Bv t,Cj t (.bs 3 0 14 t.ps.length cap),Cj t (.bs 3 0 14 t.ps.length cap),LB 14 BW t.ps cap]):=by
 have hfew:=ht.few
 refine enter Tryz.func108 rfl rfl rfl rfl rfl 4 rfl ?_
 refine w_ (b_ (h:=AY (h:=e_ (w_ (f_ (h:=l_ (h:=f_ (h:=l_ (h:=AT (h:=AY (h:=s_ (h:=e_ (q_ (w_ (a_ (h:=e_ (Aj (?_))))))))))))))))))
 refine Bg (fun m s=>∃(j:Nat) (acc:List Prc),j≤t.ps.length∧m=t.ps.length - j∧t.ps.take j=acc∧((acc=[]∧s=⟨look [(1, .bp 0 0),(2, .bp 1 0),(3, .bp 2 0),(4, .v (.int .i64 (j:Int)))],⟨[Bv t,Db,Cj t (.v (.slice none 0 0))],[]⟩⟩)∨(∃cap,acc.length≤cap∧s=⟨look [(1, .bp 0 0),(2, .bp 1 0),(3, .bp 2 0),(4, .v (.int .i64 (j:Int)))],⟨[Bv t,Db,Cj t (.bs 3 0 14 acc.length cap),LB 14 BW acc cap],[]⟩⟩))) (t.ps.length) ((wk 3 0)) (⟨0,[],Nat.zero_le _,rfl,rfl, .inl ⟨rfl,rfl⟩⟩) ?_
 rintro m s ⟨j,acc,hj,rfl,hacc,⟨rfl,rfl⟩|⟨cap,hcp,rfl⟩⟩
 ·skip
  refine q_ (w_ (m_ (h:=f_ (h:=l_ (h:=n_ (h:=BH (h:=e_ (?_))))))))
  refine A8 rfl (fun hb1=>?_) (fun hb1=>?_)
  ·have hc1:=bp hb1
   obtain⟨hlt,p,hy,hrow, -⟩:=Ca BW hc1
   have hk:t.ps.take (j+1)=t.ps.take j++[p]:=by rw[List.take_add_one,hy];rfl
   have hop:p.opens.length≤1000:=by have:=ht.opens p (Am hy);omega
   refine AM (q_ (Aj (BL ([(0,Bv t),(1,Db),(2,Cj t (.v (.slice none 0 0)))]) 11 (h:=AK 0 (h:=AE 1 (h:=AK 2 (h:=AE 3 (h:=AN 4 (h:=DO 5 (h:=AE 6 (h:=?_)))))))))))
   refine c_ 7 rfl (AG (NA p hop) ?_)
   rintro r rfl
   refine o_ (h:=Jf 8 (h:=?_))
   refine c_ 9 rfl (MT rfl rfl HU (by omega) (by omega) ?_)
   rintro cap2 k bx2 hcp hs
   rw[show C9 (.agg (BW p))++List.replicate ((cap2 - 1) * 14) AV.any=LB 14 BW [p] cap2 from TW Du p cap2]at hs
   obtain⟨rfl,rfl⟩:k=3∧bx2=[_,_,_,_]:=hs.eq
   refine o_ (h:=?_)
   refine AK 10 (h:=?_)
   refine B0 11 rfl (Ay rfl rfl rfl rfl rfl rfl (by repeat constructor) (by repeat constructor) ?_)
   refine o_ (h:=z_ (h:=As (t_ (AQ (m_ (h:=B6 (h:=a_ (h:=AO (?_)))))))))
   refine AF ?_
   exact⟨t.ps.length - (j+1),_,by omega,⟨j+1,[p],by omega,rfl,(by rw[hk,hacc];rfl), .inr ⟨cap2,hcp,rfl⟩⟩,Au 4 0 rfl rfl rfl (by simp[Aq,Ao,Ap,Bf Du,Bv,Cj,Db]) ((by repeat (first|exact Sub.nil|refine Sub.cons _ _ _ rfl rfl ?_|refine Sub.any _ _ ?_|refine Sub.sl _ _ _ _ _ rfl ?_|refine Sub.slnil _ _ _ rfl ?_)))⟩
  have hc1:=bp hb1
  exfalso
  have e:=Cn BW hj hc1
  rw[e,List.take_length]at hacc
  rw[hacc]at h0
  exact absurd h0 (by simp)
 skip
 refine q_ (w_ (m_ (h:=f_ (h:=l_ (h:=n_ (h:=BH (h:=e_ (?_))))))))
 refine A8 rfl (fun hb2=>?_) (fun hb2=>?_)
 ·have hc2:=bp hb2
  obtain⟨hlt,p,hy,hrow, -⟩:=Ca BW hc2
  have hk:t.ps.take (j+1)=t.ps.take j++[p]:=by rw[List.take_add_one,hy];rfl
  have hop:p.opens.length≤1000:=by have:=ht.opens p (Am hy);omega
  refine AM (q_ (Aj (BL ([(0,Bv t),(1,Db),(2,Cj t (.bs 3 0 14 acc.length cap))]) 11 (h:=AK 0 (h:=AE 1 (h:=AK 2 (h:=AE 3 (h:=AN 4 (h:=DO 5 (h:=AE 6 (h:=?_)))))))))))
  refine c_ 7 rfl (AG (NA p hop) ?_)
  rintro r rfl
  refine o_ (h:=Jf 8 (h:=?_))
  refine c_ 9 rfl (Kf rfl rfl rfl (by rw[Pl Du hcp];omega) HU (by omega) (by have:=congrArg List.length hacc;simp at this;omega) ?_ ?_)
  ·rintro hg row2 bx2 hs hb
   obtain rfl:=TY Du hs hg
   obtain rfl:bx2=[_,_,_,_]:=hb.one.2
   refine o_ (h:=?_)
   refine AK 10 (h:=?_)
   refine B0 11 rfl (Ay rfl rfl rfl rfl rfl rfl (by repeat constructor) (by repeat constructor) ?_)
   refine o_ (h:=z_ (h:=As (t_ (AQ (m_ (h:=B6 (h:=a_ (h:=AO (?_)))))))))
   refine AF ?_
   exact⟨t.ps.length - (j+1),_,by omega,⟨j+1,acc++[p],by omega,rfl,(by rw[hk,hacc]), .inr ⟨cap,by simpa using hg,by rw[List.length_append];rfl⟩⟩,Au 4 0 rfl rfl rfl (by simp[Aq,Ao,Ap,Bf Du,Bv,Cj,Db]) ((by repeat (first|exact Sub.nil|refine Sub.cons _ _ _ rfl rfl ?_|refine Sub.any _ _ ?_|refine Sub.sl _ _ _ _ _ rfl ?_|refine Sub.slnil _ _ _ rfl ?_)))⟩
  rintro hg cap3 k bx2 hcp3 hs
  rw[show((LB 14 BW acc cap).drop 0).take (acc.length * 14)++C9 (.agg (BW p))++List.replicate ((cap3 - (acc.length+1)) * 14) AV.any=LB 14 BW (acc++[p]) cap3 from TX Du acc p cap cap3]at hs
  obtain⟨rfl,rfl⟩:k=4∧bx2=[_,_,_,_,_]:=hs.eq
  refine o_ (h:=?_)
  refine AK 10 (h:=?_)
  refine B0 11 rfl (Ay rfl rfl rfl rfl rfl rfl (by repeat constructor) (by repeat constructor) ?_)
  refine o_ (h:=z_ (h:=As (t_ (AQ (m_ (h:=B6 (h:=a_ (h:=AO (?_)))))))))
  refine AF ?_
  first|exact⟨t.ps.length - (j+1),_,by omega,⟨j+1,acc++[p],by omega,rfl,(by rw[hk,hacc]), .inr ⟨cap,by simpa using hg,by rw[List.length_append];rfl⟩⟩,Au 4 0 rfl rfl rfl (by simp[Aq,Ao,Ap,Bf Du,Bv,Cj,Db]) ((by repeat (first|exact Sub.nil|refine Sub.cons _ _ _ rfl rfl ?_|refine Sub.any _ _ ?_|refine Sub.sl _ _ _ _ _ rfl ?_|refine Sub.slnil _ _ _ rfl ?_)))⟩|exact⟨t.ps.length - (j+1),_,by omega,⟨j+1,acc++[p],by omega,rfl,(by rw[hk,hacc]), .inr ⟨cap3,by simpa using hcp3,by rw[List.length_append];rfl⟩⟩,Ej [0,1,2,4] (fun i hi=>absurd hi (Nat.not_lt_zero i)) (by decide) (.cons _ _ _ _ _ rfl rfl (.cons _ _ _ _ _ rfl rfl (.cons _ _ _ _ _ rfl rfl (.cons _ _ _ _ _ rfl (JN Du _ _ _) .nil)))) (by repeat (first|exact SubK.nil|refine SubK.cons _ _ _ _ rfl (LeA.refl _) ?_))⟩
 have hc2:=bp hb2
 have e:=Cn BW hj hc2
 refine BM (Ak (Ak (BN (t_ (w_ (l_ (h:=s_ (h:=e_ (A4 (?_))))))))))
 rw[e,List.take_length]at hacc
 subst hacc
 refine Aw (r:= .agg (Cj t (.bs 3 0 14 t.ps.length cap))) none (h4:=(by simp[Aq,Ao,Ap,Bf Du,Bv,Cj])) (h5:=(LeA.refl _)) (h6:=⟨rfl,cap,hcp,rfl,rfl⟩)
theorem Tf(t:Tab)(pid:Int)(ht:TabB t):AFn Tryz.prog 63 [.agg (Bv t), .v (.int .i64 pid)] (fun r=>r= .tup [.agg (BW (Ax t pid)), .v (.bool (Da t pid))]):=by
 have hfew:=ht.few
 refine enter Tryz.func63 rfl rfl rfl rfl rfl 0 rfl ?_
 refine w_ (b_ (h:=AY (h:=a_ (h:=e_ (q_ (w_ (a_ (h:=e_ (Aj (?_))))))))))
 refine Bg (fun m s=>∃j:Nat,j≤t.ps.length∧m=t.ps.length - j∧(∀i y,i<j→t.ps[i]?=some y→decide (y.pid=pid)=false)∧s=⟨look [(1, .v (.int .i64 pid)),(2, .bp 0 0),(4, .bp 1 0),(6, .v (.int .i64 (j:Int)))],⟨[Bv t,[.v (.int .i64 0), .v (.int .i64 0), .v (.int .i64 0), .v (.int .i64 0), .v (.int .i64 0), .v (.int .i64 0), .v (.int .i64 0), .v (.int .i64 0), .v (.int .i64 0), .v (.int .i64 0), .v (.string ⟨#[]⟩), .v (.string ⟨#[]⟩), .v (.slice none 0 0), .v (.bool false)]],[]⟩⟩) (t.ps.length) ((wk 2 0)) (⟨0,Nat.zero_le _,rfl,fun i y hi=>by omega,rfl⟩) ?_
 rintro m s ⟨j,hj,rfl,ha,rfl⟩
 refine q_ (w_ (m_ (h:=f_ (h:=l_ (h:=n_ (h:=BH (h:=e_ (?_))))))))
 refine A8 rfl (fun hb1=>?_) (fun hb1=>?_)
 ·have hc1:=bp hb1
  obtain⟨hlt,p,hy,hrow, -⟩:=Ca BW hc1
  have hop:p.opens.length≤1000:=by have:=ht.opens p (Am hy);omega
  refine AM (q_ (Aj (w_ (f_ (h:=l_ (h:=m_ (h:=i_ (h:=f_ (h:=l_ (h:=m_ (h:=AW (h:=e_ (?_)))))))))))))
  refine A8 rfl (fun hb2=>?_) (fun hb2=>?_)
  ·have hc2:=bp hb2
   have hg:K5 t pid=some p:=G7 hy (decide_eq_true hc2) ha
   refine w_ (f_ (h:=l_ (h:=m_ (h:=i_ (h:=l_ (h:=?_))))))
   refine A6 rfl (AG (NA p hop) ?_)
   rintro r rfl
   refine s_ (h:=a_ (h:=e_ (A4 (AX (A7 (A7 (AX (A7 (?_)))))))))
   refine AB ?_
   rw[Ax,Da,hg];rfl
  have hc2:=bp hb2
  refine B4 (As (t_ (AQ (m_ (h:=B6 (h:=a_ (h:=AO (?_))))))))
  refine AF ?_
  refine⟨_,_,?_,⟨j+1,by omega,rfl,EO hy ha (decide_eq_false hc2),rfl⟩,(wk 2 0)⟩
  omega
 have hc1:=bp hb1
 have e:=Cn BW hj hc1
 subst e
 have hg:K5 t pid=none:=G8 ha
 refine BM (Ak (Ak (BN (t_ (w_ (AT (h:=s_ (h:=a_ (h:=e_ (A4 (?_)))))))))))
 refine Aw (r:= .tup [.agg (BW (Ax t pid)), .v (.bool (Da t pid))]) none (h5:=?_) (h6:=⟨rfl,rfl,rfl⟩)
 rw[Ax,Da,hg]
 exact(by repeat (first|exact LeA.refl _|exact LeA.nil _|exact LeL.refl _|refine LeA.agg ?_|refine LeA.tup ?_|exact LeL.nil|refine LeL.cons ?_ ?_|exact LeA.any _))
theorem ZQ(t:Tab)(p:Prc)(ht:TabB t)(h0:0<t.ps.length)(hp:p.opens.length≤1000):AFn Tryz.prog 188 [.agg (Bv t), .agg (BW p)] (fun r=>r= .agg (Bv (Fv t p))):=by
 have hfew:=ht.few
 refine enter Tryz.func188 rfl rfl rfl rfl rfl 0 rfl ?_
 refine w_ (b_ (h:=b_ (h:=AY (h:=e_ (?_)))))
 refine BB (fun s=>∃cap,t.ps.length≤cap∧s=⟨look [(3, .bp 1 0),(4, .bp 2 0),(5, .bp 3 0)],⟨[Bv t,BW p,Db,Cj t (.bs 4 0 14 (D9 (Et p) t.ps 0).length cap),LB 14 BW (D9 (Et p) t.ps 0) cap],[]⟩⟩) ?_ ?_
 ·skip
  refine AQ (l_ (h:=?_))
  refine A6 rfl (Cs [] rfl (.cons _ _ _ _ _ rfl (LeA.refl _) .nil) (by decide) .nil (ZP t ht h0) ?_)
  rintro r bc tc ⟨rfl,cap,hcap,rfl,rfl⟩
  refine⟨rfl,_,(ZN (n:=3) rfl t cap:Back _ [] _ [_,_,_,_,_,_,_]),?_⟩
  refine AY (h:=s_ (h:=AO (?_)))
  refine AF ?_
  exact⟨_,⟨cap,hcap,rfl⟩,Ej [0,1,2,7,6] (fun i hi=>absurd hi (Nat.not_lt_zero i)) (by decide) (.cons _ _ _ _ _ rfl rfl (.cons _ _ _ _ _ rfl rfl (.cons _ _ _ _ _ rfl rfl (.cons _ _ _ _ _ rfl (by rw[Hn];rfl) (.cons _ _ _ _ _ rfl (JN Du _ _ _) .nil))))) (by repeat (first|exact SubK.nil|refine SubK.cons _ _ _ _ rfl (LeA.refl _) ?_))⟩
 rintro s ⟨cap,hcap,rfl⟩
 refine BB (fun s=>s=⟨look [(4, .bp 2 0),(5, .bp 3 0)],⟨[Bv t,BW p,Db,Bv (Fv t p)],[]⟩⟩) ?_ ?_
 ·skip
  refine w_ (a_ (h:=e_ (Aj (?_))))
  refine Bg (fun m s=>∃j:Nat,j≤t.ps.length∧m=t.ps.length - j∧s=⟨look [(3, .bp 1 0),(4, .bp 2 0),(5, .bp 3 0),(6, .v (.int .i64 (j:Int)))],⟨[Bv t,BW p,Db,Cj t (.bs 4 0 14 (D9 (Et p) t.ps j).length cap),LB 14 BW (D9 (Et p) t.ps j) cap],[]⟩⟩) (t.ps.length) (Bm 5 0 (by simp[Aq,Ao,Ap,Bf Du,Bv,Cj,Db,BW])) (⟨0,Nat.zero_le _,rfl,rfl⟩) ?_
  rintro m s ⟨j,hj,rfl,rfl⟩
  refine q_ (w_ (m_ (h:=f_ (h:=l_ (h:=?_)))))
  refine A6 rfl (O4 rfl ?_)
  refine BH (h:=e_ (?_))
  refine A8 rfl (fun hb1=>?_) (fun hb1=>?_)
  ·have hc1:=bp hb1
   have hlt:j<t.ps.length:=by rw[Hn]at hc1;omega
   obtain⟨x,hy⟩:∃x,t.ps[j]?=some x:=⟨_,B9 hlt⟩
   have hl1:j<(D9 (Et p) t.ps j).length:=by rw[Hn];exact hlt
   refine AM (q_ (Aj (q_ (DC 9 (h:=AK 0 (h:=AE 1 (h:=AN 2 (h:=?_))))))))
   refine E9 (i:=3) rfl (Cq (m:=j) rfl rfl rfl hl1 ⟨rfl,rfl⟩) ?_
   refine AK 4 (h:=?_)
   refine E9 (i:=5) rfl (CZ rfl rfl (ZH Du (Pp hy) rfl) ⟨rfl,rfl⟩) ?_
   refine AK 6 (h:=AE 7 (h:=GU 8 (h:=z_ (h:=t_ (?_)))))
   refine A8 rfl (fun hb2=>?_) (fun hb2=>?_)
   ·have hc2:=bp hb2
    have hu:(D9 (Et p) t.ps j).set j p=D9 (Et p) t.ps (j+1):=by rw[←Td hy,Et,if_pos hc2]
    refine AQ (f_ (h:=l_ (h:=m_ (h:=l_ (h:=?_)))))
    refine A6 rfl (Cq (m:=j) rfl rfl rfl hl1 ?_)
    refine Kc (Ay rfl rfl rfl rfl rfl rfl (TV Du (x':=p) (Pp hy)) (by repeat constructor) ?_)
    refine AO (As (t_ (AQ (m_ (h:=B6 (h:=a_ (h:=AO (?_))))))))
    refine AF ?_
    exact⟨t.ps.length - (j+1),_,by omega,⟨j+1,by omega,rfl,rfl⟩,(by first|(rw[hu,show(D9 (Et p) t.ps j).length=(D9 (Et p) t.ps (j+1)).length by rw[Hn,Hn]];exact Bm 5 0 (by simp[Aq,Ao,Ap,Bf Du,Bv,Cj,Db,BW]))|(rw[hu];exact Bm 5 0 (by simp[Aq,Ao,Ap,Bf Du,Bv,Cj,Db,BW])))⟩
   have hc2:=bp hb2
   have hu:D9 (Et p) t.ps j=D9 (Et p) t.ps (j+1):=ZJ hy (if_neg hc2)
   refine B4 (As (t_ (AQ (m_ (h:=B6 (h:=a_ (h:=AO (?_))))))))
   refine AF ?_
   exact⟨t.ps.length - (j+1),_,by omega,⟨j+1,by omega,rfl,rfl⟩,(by first|(rw[hu,show(D9 (Et p) t.ps j).length=(D9 (Et p) t.ps (j+1)).length by rw[Hn,Hn]];exact Bm 5 0 (by simp[Aq,Ao,Ap,Bf Du,Bv,Cj,Db,BW]))|(rw[hu];exact Bm 5 0 (by simp[Aq,Ao,Ap,Bf Du,Bv,Cj,Db,BW])))⟩
  have hc1:=bp hb1
  obtain rfl:j=t.ps.length:=by rw[Hn]at hc1;omega
  rw[ZK]
  refine BM (Ak (Ak (BN (?_))))
  refine AF ?_
  exact⟨_,rfl,Ez 4 1 rfl (congrArg (fun x=>[Bv t,BW p,Db,[.v (.int .i64 t.next), .v (.int .i64 t.nextS),x]]) (Pn Du rfl rfl (by rw[List.length_map];exact hcap))) (.cons _ _ _ _ rfl (LeA.refl _) (.cons _ _ _ _ rfl (LeA.refl _) .nil))⟩
 rintro s rfl
 refine w_ (l_ (h:=s_ (h:=e_ (A4 (?_)))))
 refine AB ?_
 rfl
end
end Go.Proofs.YtbglbmnhgbgelaaGreatDoor
