/-
  Part 11 of the proof of WatchPlacesP: what the statement's proof uses of the texts in wip/tpl.
-/
import Derived.Lib.AppendZerosOnto
import Derived.Test.YtbglbmnhgbgelaaGreatDoorQa10
set_option maxRecDepth 10000
set_option maxHeartbeats 4000000
set_option linter.unusedVariables false
set_option linter.unusedSimpArgs false
namespace Go.Proofs.YtbglbmnhgbgelaaGreatDoor
open Go.RowKit
def CV(s:AB):List AV:=[.v (.string s)]
theorem TA{P:Program}{ev:Operand→Option AV}{h:AH}{R:AV→AH→Prop}{d:Option Tmp}{ty:TypeId}{pos:String}{af:Array Edge}{gd:Option (Nat×Bool)}{T:TypeId}{x lo hi:Operand}{s:ByteArray}{a k:Nat}{i j:Int}(hu:P.underlying T=some .string)
    (hx:ev x=some (.v (.string s))) (hl:ev lo=some (.v (.int .i64 i))) (hh:ev hi=some (.v (.int .i64 j))) (hi':i=(a:Int)) (hj:j=(k:Int)) (h1:a≤k) (h2:k≤s.size) (hR:R (.v (.string (s.extract a k))) h):AStep P ⟨d, .slice T x (some lo) (some hi) none,ty,pos,af,gd⟩ ev h R:=by
 refine Cc (fun _ G w ec _ he=>?_) hR
 have k1:=he x (by simp[Op.operands]) _ hx
 have k2:=he lo (by simp[Op.operands]) _ hl
 have k3:=he hi (by simp[Op.operands]) _ hh
 simp only[rep]at k1 k2 k3
 subst hi' hj
 refine⟨.string (s.extract a k),?_,by simp only[rep]⟩
 simp[execOp,k1,k2,k3,Instr.sliceAt,Instr.slice,Instr.sliceBounds,Instr.sliceBound,asIntOf,run_underlying hu,h1,h2]
def CN(s:AB):Bool:=decide (s.data.toList.head?=some 47)
def B0(s:AB):Bool:=decide (s.data.toList.getLast?=some 47)
theorem N5{s:AB}(h:0<s.size):CN s=decide (((s[0]'h).toNat:Int)=47):=by
 unfold CN
 rw[Wt s h,Bool.eq_iff_iff];simp
theorem N6{s:AB}(h:0<s.size):B0 s=decide (((s[s.size - 1]'(by omega)).toNat:Int)=47):=by
 unfold B0
 rw[Wu s h,Bool.eq_iff_iff];simp
theorem Pc{s:AB}(h:¬0<s.size):CN s=false:=by
 have:s.data.toList=[]:=List.eq_nil_of_length_eq_zero (by rw[←Lib.size_eq];omega)
 unfold CN
 rw[this];rfl
theorem Pd{s:AB}(h:¬0<s.size):B0 s=false:=by
 have:s.data.toList=[]:=List.eq_nil_of_length_eq_zero (by rw[←Lib.size_eq];omega)
 unfold B0
 rw[this];rfl
theorem TB{s:AB}{k:Nat}(h:k<s.size)(h47:((s[k]'h).toNat:Int)=47):s.data.toList[k]?=some 47:=by
 rw[Lib.data_getElem? s k h]
 congr 1
 refine UInt8.toNat_inj.1 ?_
 show _=47
 omega
theorem TC{s:AB}{f k:Nat}{ps:List AB}(hI:DX s.data.toList f k (Bv ps))(h:k=s.size∨s.data.toList[k]?=some 47):DX s.data.toList (k+1) (k+1) (Bv ps++one_ ((s.data.toList.drop f).take (k - f))):=by
 rcases h with h|h
 ·rw[Lib.size_eq]at h
  subst h
  exact Wp hI
 exact Wo hI h
theorem TD{s:AB}{f k:Nat}{ps:List AB}(hI:DX s.data.toList f k (Bv ps))(hk:k≤s.size)(h:k=s.size∨s.data.toList[k]?=some 47)(hf:f<k):DX s.data.toList (k+1) (k+1) (Bv (ps++[s.extract f k])):=Wv (TC hI h) (Wr (Ws s hf hk))
theorem TE{s:AB}{f k:Nat}{ps:List AB}(hI:DX s.data.toList f k (Bv ps))(h:k=s.size∨s.data.toList[k]?=some 47)(hf:¬f<k):DX s.data.toList (k+1) (k+1) (Bv ps):=Ww (TC hI h) (by omega)
theorem Yf{s:AB}{f k:Nat}{ps:List AB}(hI:DX s.data.toList f k (Bv ps))(h:k<s.size)(h47:¬((s[k]'h).toNat:Int)=47):DX s.data.toList f (k+1) (Bv ps):=Wn hI (Lib.data_getElem? s k h) (fun e=>h47 (by rw[e];rfl))
theorem TF(ps:List AB):ps.length≤(Ci (Bv ps)).length:=by
 induction ps with
 |nil=>simp
 |cons p ps ih=>
   have:Bv (p::ps)=p.data.toList::Bv ps:=rfl
   rw[this,FS]
   simp
   omega
theorem Pe{s:AB}{ps:List AB}(h:Bv ps=Ba s.data.toList){i:Nat}{x:AB}(hx:ps[i]?=some x):x.size≤s.size:=by
 rw[Lib.size_eq,Lib.size_eq s]
 refine X3 ?_
 rw[←h]
 exact List.mem_map.2 ⟨x,Aj hx,rfl⟩
theorem Yg{ps:List AB}{j:Nat}{x t:AB}(hx:ps[j]?=some x)(h:t.data.toList=Ci ((Bv ps).take j)):(t++(⟨#[47]⟩++x)).data.toList=Ci ((Bv ps).take (j+1)):=by
 have e:(Bv ps)[j]?=some x.data.toList:=by unfold Bv;rw[List.getElem?_map,hx];rfl
 rw[List.take_add_one,e,Oq,←h]
 simp[Ci]
theorem LY{a b:AB}(h:a.data.toList=b.data.toList):a=b:=ByteArray.ext (Array.toList_inj.1 h)
theorem Yh{s:AB}{ps:List AB}(h:Bv ps=Ba s.data.toList){i:Nat}{x:AB}(hx:ps[i]?=some x)(hn:Cm x=false):DH s.data.toList=false:=by
 rw[←Ov]
 unfold L6
 rw[←h]
 have:(Bv ps).all DW=false:=List.all_eq_false.2 ⟨x.data.toList,List.mem_map.2 ⟨x,Aj hx,rfl⟩,by rw[←Mp,hn];simp⟩
 rw[this,Bool.false_and]
theorem Yi{s t1:AB}{ps:List AB}(h:Bv ps=Ba s.data.toList)(ha:∀(i:Nat) (y:AB),i<ps.length→ps[i]?=some y→Cm y=true)(ht:t1.data.toList=Ci ((Bv ps).take ps.length))(h3:¬s=⟨#[47]⟩)(h0:0<ps.length):DH s.data.toList=decide (s=t1):=by
 have hl:(Bv ps).length=ps.length:=by simp[Bv]
 rw[List.take_of_length_le (by omega)]at ht
 rw[←Ov]
 unfold L6
 rw[←h,←ht]
 have h1:(Bv ps).all DW=true:=List.all_eq_true.2 fun y hy=>by
  obtain⟨z,hz,rfl⟩:=List.mem_map.1 hy
  obtain⟨i,hi⟩:=List.getElem?_of_mem hz
  rw[←Mp]
  exact ha i z (Ag.1 hi).1 hi
 have h2:decide (s.data.toList=[47])=false:=decide_eq_false fun e=>h3 (LY e)
 have h4:Bv ps≠[]:=fun e=>by rw[e]at hl;simp at hl;omega
 rw[h1,h2,decide_eq_true h4]
 simp only[Bool.true_and,Bool.false_or]
 rw[Bool.eq_iff_iff,decide_eq_true_iff,decide_eq_true_iff]
 exact⟨fun e=>LY e,fun e=>by rw[e]⟩
theorem Yj{s:AB}{ps:List AB}(h:Bv ps=Ba s.data.toList)(h3:¬s=⟨#[47]⟩)(h0:ps.length=0):DH s.data.toList=false:=by
 have e:Bv ps=[]:=by rw[List.eq_nil_of_length_eq_zero h0];rfl
 rw[←Ov]
 unfold L6
 rw[←h,e]
 have h2:decide (s.data.toList=[47])=false:=decide_eq_false fun e=>h3 (LY e)
 rw[h2]
 simp
section
theorem Pg(s:AB)(hs:s.size≤100000):AFn Tryz.prog 98 [.v (.string s)] (fun r=>∃ps:List AB,Bv ps=Ba s.data.toList∧r= .tup [.sl 1 (ps.map CV) none, .v (.bool (CN s)), .v (.bool (B0 s))]):=by
 have hsz:=Lib.size_eq s
 refine enter Tryz.func98 rfl rfl rfl rfl rfl 0 rfl ?_
 refine w_ (a_ (h:=a_ (h:=a_ (h:=e_ (w_ (a_ (h:=e_ (w_ (a_ (h:=e_ (q_ (w_ (a_ (h:=e_ (Ao (?_))))))))))))))))
 refine Ql 5 9 1 rfl (by repeat constructor) ?_
 refine Bh (fun m t=>∃(f k:Nat) (ps:List AB),k≤s.size+1∧f≤k∧ps.length≤k∧m=s.size+1 - k∧DX s.data.toList f k (Bv ps)∧t=⟨look [(0, .v (.string s)),(5, .sl 1 (ps.map CV) (some 0)),(6, .v (.int .i64 (f:Int))),(7, .v (.int .i64 (k:Int)))],⟨[],[(9,1,ps.map CV)]⟩⟩) (s.size+1) ((wk 0 1)) (⟨0,0,[],by omega,by omega,by simp,rfl,Wq _,rfl⟩) ?_
 rintro m t ⟨f,k,ps,hk,hfk,hpl,rfl,hI,rfl⟩
 refine q_ (w_ (m_ (h:=m_ (h:=n_ (h:=Kl (h:=e_ (?_)))))))
 refine A9 rfl (fun hb1=>?_) (fun hb1=>?_)
 ·have hc1:=bp hb1
  refine AM (q_ (Ao (w_ (m_ (h:=m_ (h:=n_ (h:=AW (h:=m_ (h:=?_)))))))))
  refine At false rfl rfl (fun hb2=>?_) (fun hb2=>?_)
  ·have hc2:=bp hb2
   refine A3 (h:=A3 (h:=A3 (h:=A3 (h:=AZ (h:=e_ (Bx (h:=q_ (w_ (m_ (h:=m_ (h:=CD (h:=e_ (?_)))))))))))))
   refine A9 rfl (fun hb3=>?_) (fun hb3=>?_)
   ·have hc3:=bp hb3
    have hnx:=TD hI (by omega) (.inl (by omega)) (by omega)
    refine AQ (m_ (h:=m_ (h:=m_ (h:=m_ (h:=?_)))))
    refine A6 rfl (TA (a:=f) (k:=k) Tryz.underlying9 rfl rfl rfl rfl rfl (by omega) (by omega) ?_)
    refine Bi (h:=?_)
    refine A6 rfl (EL rfl rfl rfl (by simp;omega) (by repeat constructor) ?_)
    refine a_ (h:=e_ (AQ (m_ (h:=B3 (h:=a_ (h:=AP (Aw (t_ (AQ (m_ (h:=B3 (h:=a_ (h:=AP (?_))))))))))))))
    refine AF ?_
    refine⟨_,_,?_,⟨_,k+1,_,by omega,by omega,(by(try simp only[List.length_append,List.length_cons,List.length_nil]);omega),rfl,hnx,rfl⟩,(by(try simp only[List.map_append,List.map_cons,List.map_nil]);exact B1 0 1 rfl rfl rfl rfl ((by repeat (first|exact Sub.nil|refine Sub.cons _ _ _ rfl rfl ?_|refine Sub.any _ _ ?_|refine Sub.sl _ _ _ _ _ rfl ?_|refine Sub.slnil _ _ _ rfl ?_))))⟩
    omega
   have hc3:=bp hb3
   have hnx:=TE hI (.inl (by omega)) (by omega)
   refine AM (AQ (m_ (h:=B3 (h:=a_ (h:=AP (Aw (t_ (AQ (m_ (h:=B3 (h:=a_ (h:=AP (?_)))))))))))))
   refine AF ?_
   refine⟨_,_,?_,⟨_,k+1,_,by omega,by omega,(by(try simp only[List.length_append,List.length_cons,List.length_nil]);omega),rfl,hnx,rfl⟩,(by(try simp only[List.map_append,List.map_cons,List.map_nil]);exact B1 0 1 rfl rfl rfl rfl ((by repeat (first|exact Sub.nil|refine Sub.cons _ _ _ rfl rfl ?_|refine Sub.any _ _ ?_|refine Sub.sl _ _ _ _ _ rfl ?_|refine Sub.slnil _ _ _ rfl ?_))))⟩
   omega
  have hc2:=bp hb2
  refine m_ (h:=m_ (h:=?_))
  refine Ay (GV (n:=k) Tryz.underlying9 rfl rfl rfl (by omega) ?_)
  refine AW (h:=Ai (h:=e_ (?_)))
  refine A9 rfl (fun hb4=>?_) (fun hb4=>?_)
  ·have hc4:=bp hb4
   refine q_ (w_ (m_ (h:=m_ (h:=CD (h:=e_ (?_))))))
   refine A9 rfl (fun hb5=>?_) (fun hb5=>?_)
   ·have hc5:=bp hb5
    have hnx:=TD hI (by omega) (.inr (TB (by omega) hc4)) (by omega)
    refine AQ (m_ (h:=m_ (h:=m_ (h:=m_ (h:=?_)))))
    refine A6 rfl (TA (a:=f) (k:=k) Tryz.underlying9 rfl rfl rfl rfl rfl (by omega) (by omega) ?_)
    refine Bi (h:=?_)
    refine A6 rfl (EL rfl rfl rfl (by simp;omega) (by repeat constructor) ?_)
    refine a_ (h:=e_ (AQ (m_ (h:=B3 (h:=a_ (h:=AP (Aw (t_ (AQ (m_ (h:=B3 (h:=a_ (h:=AP (?_))))))))))))))
    refine AF ?_
    refine⟨_,_,?_,⟨_,k+1,_,by omega,by omega,(by(try simp only[List.length_append,List.length_cons,List.length_nil]);omega),rfl,hnx,rfl⟩,(by(try simp only[List.map_append,List.map_cons,List.map_nil]);exact B1 0 1 rfl rfl rfl rfl ((by repeat (first|exact Sub.nil|refine Sub.cons _ _ _ rfl rfl ?_|refine Sub.any _ _ ?_|refine Sub.sl _ _ _ _ _ rfl ?_|refine Sub.slnil _ _ _ rfl ?_))))⟩
    omega
   have hc5:=bp hb5
   have hnx:=TE hI (.inr (TB (by omega) hc4)) (by omega)
   refine AM (AQ (m_ (h:=B3 (h:=a_ (h:=AP (Aw (t_ (AQ (m_ (h:=B3 (h:=a_ (h:=AP (?_)))))))))))))
   refine AF ?_
   refine⟨_,_,?_,⟨_,k+1,_,by omega,by omega,(by(try simp only[List.length_append,List.length_cons,List.length_nil]);omega),rfl,hnx,rfl⟩,(by(try simp only[List.map_append,List.map_cons,List.map_nil]);exact B1 0 1 rfl rfl rfl rfl ((by repeat (first|exact Sub.nil|refine Sub.cons _ _ _ rfl rfl ?_|refine Sub.any _ _ ?_|refine Sub.sl _ _ _ _ _ rfl ?_|refine Sub.slnil _ _ _ rfl ?_))))⟩
   omega
  have hc4:=bp hb4
  have hnx:=Yf hI (by omega) hc4
  refine B4 (Aw (t_ (AQ (m_ (h:=B3 (h:=a_ (h:=AP (?_))))))))
  refine AF ?_
  refine⟨_,_,?_,⟨_,k+1,_,by omega,by omega,(by(try simp only[List.length_append,List.length_cons,List.length_nil]);omega),rfl,hnx,rfl⟩,(by(try simp only[List.map_append,List.map_cons,List.map_nil]);exact B1 0 1 rfl rfl rfl rfl ((by repeat (first|exact Sub.nil|refine Sub.cons _ _ _ rfl rfl ?_|refine Sub.any _ _ ?_|refine Sub.sl _ _ _ _ _ rfl ?_|refine Sub.slnil _ _ _ rfl ?_))))⟩
  omega
 have hc1:=bp hb1
 refine BM (Al (Al (BN (t_ (q_ (DM 23 (h:=AN 0 (h:=AN 1 (h:=Jc 2 (h:=OH 3 (h:=AN 4 (h:=?_))))))))))))
 refine Fx (j:=4) rfl (fun hb6=>?_) (fun hb6=>?_)
 ·have hc6:=bp hb6
  refine AN 5 (h:=?_)
  refine Ed (i:=6) rfl (GV (n:=0) Tryz.underlying9 rfl rfl rfl (by omega) ⟨rfl,rfl⟩) ?_
  refine GR 7 (h:=G4 8 (h:=AN 9 (h:=Jc 10 (h:=OH 11 (h:=AN 12 (h:=?_))))))
  refine Fx (j:=12) rfl (fun hb7=>?_) (fun hb7=>?_)
  ·have hc7:=bp hb7
   refine AN 13 (h:=AN 14 (h:=Jc 15 (h:=OG 16 (h:=?_))))
   refine Ed (i:=17) rfl (GV (n:=s.size - 1) Tryz.underlying9 rfl rfl (by omega) (by omega) ⟨rfl,rfl⟩) ?_
   refine GR 18 (h:=G4 19 (h:=B2 20 (h:=B2 21 (h:=B2 22 (h:=z_ (h:=t_ (A4 (?_))))))))
   refine AD ?_
   refine⟨ps,Mo hI (by omega),?_⟩
   (rw[N5 (by omega),N6 (by omega)];rfl)
  have hc7:=bp hb7
  refine B6 13 (h:=B6 14 (h:=B6 15 (h:=B6 16 (h:=B6 17 (h:=B6 18 (h:=EW 19 (h:=B2 20 (h:=B2 21 (h:=B2 22 (h:=z_ (h:=t_ (A4 (?_)))))))))))))
  refine AD ?_
  refine⟨ps,Mo hI (by omega),?_⟩
  first|(rw[N5 (by omega),N6 (by omega)];rfl)|(rw[Pc (by omega),Pd (by omega)];rfl)|(exfalso;omega)
 have hc6:=bp hb6
 refine B6 5 (h:=B6 6 (h:=B6 7 (h:=EW 8 (h:=AN 9 (h:=Jc 10 (h:=OH 11 (h:=AN 12 (h:=?_))))))))
 refine Fx (j:=12) rfl (fun hb8=>?_) (fun hb8=>?_)
 ·have hc8:=bp hb8
  refine AN 13 (h:=AN 14 (h:=Jc 15 (h:=OG 16 (h:=?_))))
  refine Ed (i:=17) rfl (GV (n:=s.size - 1) Tryz.underlying9 rfl rfl (by omega) (by omega) ⟨rfl,rfl⟩) ?_
  refine GR 18 (h:=G4 19 (h:=B2 20 (h:=B2 21 (h:=B2 22 (h:=z_ (h:=t_ (A4 (?_))))))))
  refine AD ?_
  refine⟨ps,Mo hI (by omega),?_⟩
  first|(rw[N5 (by omega),N6 (by omega)];rfl)|(rw[Pc (by omega),Pd (by omega)];rfl)|(exfalso;omega)
 have hc8:=bp hb8
 refine B6 13 (h:=B6 14 (h:=B6 15 (h:=B6 16 (h:=B6 17 (h:=B6 18 (h:=EW 19 (h:=B2 20 (h:=B2 21 (h:=B2 22 (h:=z_ (h:=t_ (A4 (?_)))))))))))))
 refine AD ?_
 refine⟨ps,Mo hI (by omega),?_⟩
 first|(rw[N5 (by omega),N6 (by omega)];rfl)|(rw[Pc (by omega),Pd (by omega)];rfl)
theorem TG(s:AB)(hs:s.size≤50000):AFn Tryz.prog 55 [.v (.string s)] (fun r=>r= .v (.bool (DH s.data.toList))):=by
 have hsz:=Lib.size_eq s
 refine enter Tryz.func55 rfl rfl rfl rfl rfl 0 rfl ?_
 refine w_ (a_ (h:=e_ (w_ (m_ (h:=?_)))))
 refine A6 rfl (AJ (Pg s (by omega)) ?_)
 rintro r ⟨ps,hps,rfl⟩
 have hpl:(ps.map CV).length=ps.length:=by simp
 have hfl:=Ox s.data.toList
 rw[←hps]at hfl
 have hpm:=TF ps
 refine m_ (h:=x_ (h:=x_ (h:=x_ (h:=a_ (h:=a_ (h:=a_ (h:=e_ (w_ (a_ (h:=e_ (q_ (w_ (a_ (h:=e_ (Ao (?_))))))))))))))))
 refine Bh (fun m t=>∃(j:Nat) (t1:AB),j≤ps.length∧m=ps.length - j∧(∀i y,i<j→ps[i]?=some y→Cm y=true)∧t1.data.toList=Ci ((Bv ps).take j)∧t=⟨look [(0, .v (.string s)),(3, .sl 1 (ps.map CV) none),(6, .v (.string t1)),(7, .v (.int .i64 (j:Int)))],⟨[],[]⟩⟩) (ps.length) ((wk 0 0)) (⟨0,⟨#[]⟩,by omega,rfl,fun i y hi=>by omega,rfl,rfl⟩) ?_
 rintro m t ⟨j,t1,hj,rfl,ha,ht1,rfl⟩
 refine q_ (w_ (m_ (h:=m_ (h:=n_ (h:=BJ (h:=e_ (?_)))))))
 refine A9 rfl (fun hb1=>?_) (fun hb1=>?_)
 ·have hc1:=bp hb1
  obtain⟨hlt,x,hy,hrow, -⟩:=CY CV hc1
  have ht2:t1.size≤s.size+1:=by rw[Lib.size_eq,ht1];exact Nat.le_trans (X0 _ _) (by omega)
  refine AM (q_ (Ao (q_ (w_ (m_ (h:=m_ (h:=?_)))))))
  refine A6 rfl (Cg (n:=j) rfl rfl rfl hrow ?_)
  refine l_ (h:=?_)
  refine A6 rfl (AJ (OM x (by have:=Pe hps hy;omega)) ?_)
  rintro r rfl
  refine BR (h:=e_ (?_))
  refine A9 rfl (fun hb2=>?_) (fun hb2=>?_)
  ·have hc2:=bp hb2
   refine w_ (a_ (h:=e_ (A4 (A8 (Af (A8 (A8 (Af (A8 (?_))))))))))
   refine AD ?_
   exact vb (Yh hps hy hc2).symm
  have hc2:=bp hb2
  refine AM (AQ (m_ (h:=m_ (h:=m_ (h:=?_)))))
  refine A6 rfl (Cg (n:=j) rfl rfl rfl hrow ?_)
  refine l_ (h:=?_)
  refine A6 rfl (E9 rfl rfl (by have:=Pe hps hy;show 1+x.size≤_;omega) ?_)
  refine A6 rfl (E9 rfl rfl (by have:=Pe hps hy;rw[ByteArray.size_append];show t1.size+(1+x.size)≤_;omega) ?_)
  refine a_ (h:=AP (Aw (t_ (AQ (m_ (h:=B3 (h:=a_ (h:=AP (?_)))))))))
  refine AF ?_
  refine⟨_,_,?_,⟨j+1,t1++(⟨#[47]⟩++x),by omega,rfl,EM hy ha hc2,Yg hy ht1,rfl⟩,(wk 0 0)⟩
  omega
 have hc1:=bp hb1
 refine BM (Al (Al (BN (t_ (w_ (m_ (h:=AW (h:=m_ (h:=?_)))))))))
 refine At false rfl rfl (fun hb3=>?_) (fun hb3=>?_)
 ·have hc3:=bp hb3
  refine A3 (h:=A3 (h:=A3 (h:=A3 (h:=EC (h:=EC (h:=EC (h:=A3 (h:=AZ (h:=a_ (h:=e_ (A4 (?_))))))))))))
  refine AD ?_
  exact vb (by rw[hc3];rfl)
 have hc3:=bp hb3
 refine m_ (h:=n_ (h:=CD (h:=m_ (h:=?_))))
 refine At true rfl rfl (fun hb4=>?_) (fun hb4=>?_)
 ·have hc4:=bp hb4
  refine m_ (h:=m_ (h:=AW (h:=AZ (h:=Ai (h:=a_ (h:=e_ (A4 (?_))))))))
  refine AD ?_
  have e:=Cn CV hj hc1
  subst e
  exact vb (Yi hps ha ht1 hc3 (by omega)).symm
 have hc4:=bp hb4
 refine A3 (h:=A3 (h:=A3 (h:=Ai (h:=Ai (h:=a_ (h:=e_ (A4 (?_))))))))
 refine AD ?_
 have e:=Cn CV hj hc1
 subst e
 exact vb (Yj hps hc3 (by omega)).symm
end
theorem TH{f:AR}{a:A7}(h:Ab f a=true):(AT f a).ino=a.2:=by
 obtain⟨q,d,m,_,_,_,h4,h5,_⟩:=Hg (f:=f) (a:=a) (by rw[h];simp)
 rw[h5,h4]
theorem Ph{s:Spc}{d:Int}(h:(BX s d).isSome=true):BX s d=some ((BX s d).getD (0,0)):=by
 cases ho:BX s d with
 |none=>rw[ho]at h;cases h
 |some o=>rfl
theorem Yk{s:Spc}{d:Int}(h:(BX s d).isSome=false):BX s d=none:=by
 cases ho:BX s d with
 |none=>rfl
 |some o=>rw[ho]at h;cases h
theorem N7{s:Spc}{a:A7}(k:Nat)(h:Ab s.files a=false):D4 s (k+1) a=(0,0):=by unfold D4;rw[h];rfl
theorem Pi{s:Spc}{a:A7}(k:Nat)(h:Ab s.files a=true)(h1:¬a.2=1):D4 s (k+1) a=(a.1,(AT s.files a).parent):=by unfold D4;rw[if_pos h,if_pos h1]
theorem Pj{s:Spc}{a:A7}(k:Nat)(h:Ab s.files a=true)(h1:a.2=1)(ho:(BX s a.1).isSome=true):D4 s (k+1) a=D4 s k ((BX s a.1).getD (0,0)):=by
 conv=>lhs;unfold D4
 rw[if_pos h,if_neg (by simpa using h1),Ph ho]
 rfl
theorem Pk{s:Spc}{a:A7}(k:Nat)(h:Ab s.files a=true)(h1:a.2=1)(ho:(BX s a.1).isSome=false):D4 s (k+1) a=a:=by
 conv=>lhs;unfold D4
 rw[if_pos h,if_neg (by simpa using h1),Yk ho]
section
theorem TJ{s:Spc}(hs:SpcB s)(hv:SpcV s)(a:A7)
    (hrec:Ab s.files a=true→∀b,CP s a=some b→AFn Tryz.prog 102 [.agg (Ar s), .agg (AA b)] (fun r=>r= .tup [.v (.string (BT s b).1), .v (.bool (BT s b).2)])):
    AFn Tryz.prog 102 [.agg (Ar s), .agg (AA a)] (fun r=>r= .tup [.v (.string (BT s a).1), .v (.bool (BT s a).2)]):=by
 have hnm:=PX hv.files a
 have hwz:=Pb hv
 refine enter Tryz.func102 rfl rfl rfl rfl rfl 0 rfl ?_
 refine w_ (b_ (h:=b_ (h:=a_ (h:=a_ (h:=e_ (q_ (w_ (f_ (h:=l_ (h:=l_ (h:=?_)))))))))))
 refine A6 rfl (AJ (Fi s.files a hs.files) ?_)
 rintro r rfl
 refine BR (h:=m_ (h:=?_))
 refine At false rfl rfl (fun hb1=>?_) (fun hb1=>?_)
 ·have hc1:=bp hb1
  refine A3 (h:=A3 (h:=A3 (h:=A3 (h:=A3 (h:=AZ (h:=e_ (Bx (h:=w_ (a_ (h:=a_ (h:=e_ (A4 (A8 (?_))))))))))))))
  refine AD ?_
  (rw[Jz hv (by simp_all)];rfl)
 have hc1:=bp hb1
 refine l_ (h:=f_ (h:=l_ (h:=?_)))
 refine Ay (AJ (OP s a.1 hs) ?_)
 rintro r rfl
 refine BR (h:=Ai (h:=e_ (?_)))
 refine A9 rfl (fun hb2=>?_) (fun hb2=>?_)
 ·have hc2:=bp hb2
  refine w_ (a_ (h:=a_ (h:=e_ (A4 (A8 (?_))))))
  refine AD ?_
  (rw[Jz hv (by simp_all)];rfl)
 have hc2:=bp hb2
 refine AM (q_ (w_ (f_ (h:=l_ (h:=AW (h:=e_ (?_)))))))
 refine A9 rfl (fun hb3=>?_) (fun hb3=>?_)
 ·have hc3:=bp hb3
  refine q_ (w_ (l_ (h:=f_ (h:=l_ (h:=?_)))))
  refine A6 rfl (AJ (OO s a.1 hs) ?_)
  rintro r rfl
  refine m_ (h:=x_ (h:=x_ (h:=Aa (h:=s_ (h:=a_ (h:=e_ (w_ (m_ (h:=e_ (?_))))))))))
  refine A9 rfl (fun hb4=>?_) (fun hb4=>?_)
  ·have hc4:=bp hb4
   have hst:CP s a=some ((BX s a.1).getD (0,0)):=by unfold CP;rw[if_neg (by simpa using hc3)];exact Ph hc4
   obtain⟨hw1,hw2⟩:=T2 hv hc1 hc2 (fun e=>by rw[e,Pa hv]at hc4;cases hc4) hst
   rw[if_pos hc3]at hw1
   refine w_ (l_ (h:=l_ (h:=?_)))
   refine A6 rfl (AJ (hrec hc1 _ hst) ?_)
   rintro r rfl
   skip
   refine x_ (h:=x_ (h:=a_ (h:=a_ (h:=e_ (A4 (A8 (A8 (?_))))))))
   refine AD ?_
   first|(rw[Jz hv (by simp_all)];rfl)|(rw[hw1];first|rfl|(rw[←hw2];rfl))
  have hc4:=bp hb4
  have h00:a=(0,1):=by
   refine Prod.ext ?_ hc3
   have:=hc2
   unfold Bu at this
   rw[hc4,Bool.false_or]at this
   exact of_decide_eq_true this
  refine AM (w_ (a_ (h:=a_ (h:=e_ (A4 (A8 (?_)))))))
  refine AD ?_
  first|(rw[Jz hv (by simp_all)];rfl)|(rw[hw1];first|rfl|(rw[←hw2];rfl))|(rw[h00,YV hv (by rw[←h00];exact hc1)];rfl)
 have hc3:=bp hb3
 have hst:CP s a=some (a.1,(AT s.files a).parent):=if_pos hc3
 obtain⟨hw1,hw2⟩:=T2 hv hc1 hc2 (fun e=>hc3 (by rw[e])) hst
 rw[if_neg hc3]at hw1
 refine AM (w_ (f_ (h:=l_ (h:=l_ (h:=?_)))))
 refine A6 rfl (AJ (DV s.files a hs.files) ?_)
 rintro r rfl
 refine m_ (h:=x_ (h:=x_ (h:=Aa (h:=s_ (h:=a_ (h:=e_ (w_ (l_ (h:=f_ (h:=l_ (h:=f_ (h:=l_ (h:=AU (h:=?_))))))))))))))
 refine A6 rfl (AJ (hrec hc1 _ hst) ?_)
 rintro r rfl
 skip
 refine m_ (h:=x_ (h:=x_ (h:=a_ (h:=a_ (h:=e_ (w_ (m_ (h:=f_ (h:=l_ (h:=l_ (h:=?_)))))))))))
 refine A6 rfl (AJ (Ye s a hs) ?_)
 rintro r rfl
 refine A6 rfl (AJ (T9 (BT s (a.1,(AT s.files a).parent)).1 (Bq s a) (by have:=hwz (a.1,(AT s.files a).parent);omega) (by omega)) ?_)
 rintro r rfl
 refine m_ (h:=a_ (h:=a_ (h:=e_ (A4 (?_)))))
 refine AD ?_
 first|(rw[Jz hv (by simp_all)];rfl)|(rw[hw1];first|rfl|(rw[←hw2];rfl))
theorem Yl{s:Spc}(hs:SpcB s)(hv:SpcV s)(a:A7):AFn Tryz.prog 102 [.agg (Ar s), .agg (AA a)] (fun r=>r= .tup [.v (.string (BT s a).1), .v (.bool (BT s a).2)]):=by
 have key:∀(k:Nat) (a:A7),ends s k a→AFn Tryz.prog 102 [.agg (Ar s), .agg (AA a)] (fun r=>r= .tup [.v (.string (BT s a).1), .v (.bool (BT s a).2)]):=by
  intro k
  induction k with
  |zero=>intro a h;exact TJ hs hv a fun hd=>by rw[show Ab s.files a=false from h]at hd;cases hd
  |succ k ih=>intro a h;exact TJ hs hv a fun hd b hb=>ih b (h.resolve_left (by rw[hd];simp) b hb)
 exact key _ a (GE hv a)
theorem Ym{s:Spc}(hs:SpcB s)(a:A7)(p:Nat)(hrec:(BX s a.1).isSome=true→AFn Tryz.prog 101 [.agg (Ar s), .agg (AA ((BX s a.1).getD (0,0)))] (fun r=>r= .agg (AA (D4 s p ((BX s a.1).getD (0,0)))))):
    AFn Tryz.prog 101 [.agg (Ar s), .agg (AA a)] (fun r=>r= .agg (AA (D4 s (p+1) a))):=by
 have hde:=FP s.files a
 refine enter Tryz.func101 rfl rfl rfl rfl rfl 0 rfl ?_
 refine w_ (b_ (h:=b_ (h:=Aa (h:=e_ (w_ (f_ (h:=l_ (h:=l_ (h:=?_)))))))))
 refine A6 rfl (AJ (DV s.files a hs.files) ?_)
 rintro r rfl
 refine m_ (h:=x_ (h:=x_ (h:=Aa (h:=s_ (h:=a_ (h:=e_ (q_ (w_ (m_ (h:=BR (h:=m_ (h:=?_))))))))))))
 refine At false rfl rfl (fun hb1=>?_) (fun hb1=>?_)
 ·have hc1:=bp hb1
  refine A3 (h:=A3 (h:=A3 (h:=AZ (h:=e_ (Bx (h:=w_ (AU (h:=s_ (h:=e_ (A4 (A8 (?_))))))))))))
  refine AD ?_
  rw[N7 p (by rw[hde,hc1];rfl)]
  rfl
 have hc1:=bp hb1
 refine f_ (h:=l_ (h:=BS (h:=Ai (h:=e_ (?_)))))
 refine A9 rfl (fun hb2=>?_) (fun hb2=>?_)
 ·have hc2:=bp hb2
  refine w_ (AU (h:=s_ (h:=e_ (A4 (A8 (?_))))))
  refine AD ?_
  rw[N7 p (by rw[hde,decide_eq_false hc2,Bool.and_false])]
  rfl
 have hc2:=bp hb2
 refine AM (q_ (w_ (f_ (h:=l_ (h:=BS (h:=e_ (?_)))))))
 refine A9 rfl (fun hb3=>?_) (fun hb3=>?_)
 ·have hc3:=bp hb3
  refine w_ (f_ (h:=l_ (h:=f_ (h:=l_ (h:=AU (h:=s_ (h:=e_ (A4 (A8 (?_))))))))))
  refine AD ?_
  rw[Pi p (by rw[hde,hc1,decide_eq_true hc2];rfl) hc3]
  rfl
 have hc3:=bp hb3
 refine AM (q_ (w_ (l_ (h:=f_ (h:=l_ (h:=?_))))))
 refine A6 rfl (AJ (OO s a.1 hs) ?_)
 rintro r rfl
 refine m_ (h:=x_ (h:=x_ (h:=Aa (h:=s_ (h:=a_ (h:=e_ (w_ (m_ (h:=e_ (?_))))))))))
 refine A9 rfl (fun hb4=>?_) (fun hb4=>?_)
 ·have hc4:=bp hb4
  refine w_ (l_ (h:=l_ (h:=?_)))
  refine A6 rfl (AJ (hrec hc4) ?_)
  rintro r rfl
  refine s_ (h:=e_ (A4 (A8 (?_))))
  refine AD ?_
  rw[Pj p (by rw[hde,hc1,decide_eq_true hc2];rfl) hc3 hc4]
  rfl
 have hc4:=bp hb4
 refine AM (w_ (l_ (h:=s_ (h:=e_ (A4 (?_))))))
 refine AD ?_
 rw[Pk p (by rw[hde,hc1,decide_eq_true hc2];rfl) hc3 hc4]
 rfl
theorem Yn{s:Spc}(hs:SpcB s)(hv:SpcV s):∀(p:Nat) (a:A7),Hh s a.1<p→AFn Tryz.prog 101 [.agg (Ar s), .agg (AA a)] (fun r=>r= .agg (AA (D4 s p a))):=by
 intro p
 induction p with
 |zero=>intro a h;omega
 |succ p ih=>intro a hp;exact Ym hs a p fun ho=>ih _ (by have:=So hv (Ph ho);omega)
theorem Yo{s:Spc}(hs:SpcB s)(hv:SpcV s)(a:A7):AFn Tryz.prog 135 [.agg (Ar s), .agg (AA a)] (fun r=>r= .agg (AA (D4 s (s.mounts.length+1) a))):=by
 have hfew:=hs.few
 have hml:(s.mounts.map Ch).length=s.mounts.length:=by simp
 refine enter Tryz.func135 rfl rfl rfl rfl rfl 0 rfl ?_
 refine w_ (b_ (h:=b_ (h:=Aa (h:=e_ (q_ (w_ (f_ (h:=l_ (h:=n_ (h:=B3 (h:=m_ (h:=e_ (Ao (?_))))))))))))))
 refine Bh (fun m t=>∃(j:Nat) (b:A7),j≤s.mounts.length+1∧m=s.mounts.length+1 - j∧D4 s (s.mounts.length+1 - j) b=D4 s (s.mounts.length+1) a∧t=⟨look [(2, .bp 0 0),(3, .bp 1 0),(4, .bp 2 0),(11, .v (.int .i64 (((s.mounts.map Ch).length:Int)+1))),(12, .v (.int .i64 (j:Int)))],⟨[Ar s,AA b,[.v (.int .i64 0), .v (.int .i64 0)]],[]⟩⟩) (s.mounts.length+1) ((wk 3 0)) (⟨0,a,by omega,rfl,rfl,rfl⟩) ?_
 rintro m t ⟨j,b,hj,rfl,hit,rfl⟩
 have hde:=FP s.files b
 refine w_ (BJ (h:=e_ (q_ (?_))))
 refine A9 rfl (fun hb1=>?_) (fun hb1=>?_)
 ·have hc1:=bp hb1
  obtain⟨k,hk⟩:∃k,s.mounts.length+1 - j=k+1:=⟨s.mounts.length - j,by omega⟩
  rw[hk]at hit
  refine AM (q_ (Ao (w_ (f_ (h:=l_ (h:=l_ (h:=?_)))))))
  refine A6 rfl (AJ (G8 s.files b hs.files) ?_)
  rintro r rfl
  refine m_ (h:=x_ (h:=x_ (h:=Aa (h:=s_ (h:=a_ (h:=e_ (q_ (w_ (m_ (h:=BR (h:=m_ (h:=?_))))))))))))
  refine At false rfl rfl (fun hb2=>?_) (fun hb2=>?_)
  ·have hc2:=bp hb2
   refine A3 (h:=A3 (h:=A3 (h:=AZ (h:=e_ (Bx (h:=w_ (AU (h:=s_ (h:=e_ (A4 (A8 (Af (A8 (A8 (Af (A8 (?_)))))))))))))))))
   refine AD ?_
   rw[←hit,N7 k (by rw[hde,hc2];rfl)]
   rfl
  have hc2:=bp hb2
  refine f_ (h:=l_ (h:=BS (h:=Ai (h:=e_ (?_)))))
  refine A9 rfl (fun hb3=>?_) (fun hb3=>?_)
  ·have hc3:=bp hb3
   refine w_ (AU (h:=s_ (h:=e_ (A4 (A8 (Af (A8 (A8 (Af (A8 (?_)))))))))))
   refine AD ?_
   rw[←hit,N7 k (by rw[hde,decide_eq_false hc3,Bool.and_false])]
   rfl
  have hc3:=bp hb3
  refine AM (q_ (w_ (f_ (h:=l_ (h:=BS (h:=e_ (?_)))))))
  refine A9 rfl (fun hb4=>?_) (fun hb4=>?_)
  ·have hc4:=bp hb4
   have hdd:Ab s.files b=true:=by rw[hde,hc2,decide_eq_true hc3];rfl
   have hb1:¬b.2=1:=by rw[←TH hdd];exact hc4
   refine w_ (f_ (h:=l_ (h:=f_ (h:=l_ (h:=AU (h:=s_ (h:=e_ (A4 (A8 (Af (A8 (A8 (Af (A8 (?_)))))))))))))))
   refine AD ?_
   rw[←hit,Pi k hdd hb1]
   rfl
  have hc4:=bp hb4
  have hdd:Ab s.files b=true:=by rw[hde,hc2,decide_eq_true hc3];rfl
  have hb1:b.2=1:=by rw[←TH hdd];exact hc4
  refine AM (w_ (l_ (h:=f_ (h:=l_ (h:=?_)))))
  refine A6 rfl (AJ (OQ s b.1 hs) ?_)
  rintro r rfl
  refine m_ (h:=x_ (h:=x_ (h:=Aa (h:=s_ (h:=a_ (h:=e_ (q_ (w_ (m_ (h:=BR (h:=m_ (h:=?_))))))))))))
  refine At false rfl rfl (fun hb5=>?_) (fun hb5=>?_)
  ·have hc5:=bp hb5
   refine A3 (h:=A3 (h:=A3 (h:=AZ (h:=e_ (Bx (h:=w_ (l_ (h:=s_ (h:=e_ (A4 (A8 (Af (A8 (A8 (Af (A8 (?_)))))))))))))))))
   refine AD ?_
   rw[←hit,Pk k hdd hb1 hc5]
   rfl
  have hc5:=bp hb5
  refine f_ (h:=l_ (h:=AW (h:=Ai (h:=e_ (?_)))))
  refine A9 rfl (fun hb6=>?_) (fun hb6=>?_)
  ·have hc6:=bp hb6
   refine w_ (l_ (h:=s_ (h:=e_ (A4 (A8 (Af (A8 (A8 (Af (A8 (?_)))))))))))
   refine AD ?_
   exfalso
   rw[hc6,Pa hv]at hc5
   cases hc5
  have hc6:=bp hb6
  refine AM (AQ (l_ (h:=s_ (h:=AP (Aw (t_ (AQ (B3 (h:=m_ (h:=AP (?_)))))))))))
  refine AF ?_
  refine⟨_,_,?_,⟨j+1,((BX s b.1).getD (0,0)),by omega,rfl,(by rw[←hit,Pj k hdd hb1 hc5,show s.mounts.length+1 - (j+1)=k by omega]),rfl⟩,(wk 3 0)⟩
  omega
 have hc1:=bp hb1
 refine BM (Al (Al (BN (t_ (w_ (l_ (h:=s_ (h:=e_ (A4 (?_))))))))))
 refine AD ?_
 have ej:s.mounts.length+1 - j=0:=by omega
 rw[ej]at hit
 rw[←hit]
 rfl
end
end Go.Proofs.YtbglbmnhgbgelaaGreatDoor
namespace Go.Proofs.YtbglbmnhgbgelaaGreatDoor
section
variable {s:Spc}(hv:SpcV s)
include hv
omit hv in
theorem K0{a:A7}(h:(BT s a).2=true):Ab s.files a=true∧Bu s a.1=true:=by
 unfold BT at h
 split at h
 ·rename_i c;exact⟨c.1,c.2.1⟩
 cases h
theorem Pl{d:Int}(h0:0≤d)(h1:d<(s.files.length:Int)):Ab s.files (d,1)=true:=by
 obtain⟨q,rfl⟩:=Int.eq_ofNat_of_zero_le h0
 have hq:s.files[q]?=some s.files[q]:=B8 (by omega)
 obtain⟨r,rest,hr,h2,h3,_⟩:=(hv.files.vd _ (Aj hq)).root
 exact(JG (PY hv hq (by rw[hr];exact List.mem_cons_self ..) h2)).2 h3
end
end Go.Proofs.YtbglbmnhgbgelaaGreatDoor
namespace Go.Proofs.YtbglbmnhgbgelaaGreatDoor
structure Fnd where
 dir:A7
 name:AB
 file:A7
 ex:Bool
 slash:Bool
 path:AB
def Cw:Fnd:=⟨(0,0),⟨#[]⟩,(0,0),false,false,⟨#[]⟩⟩
def As(x:Fnd):List AV:=[.v (.int .i64 x.dir.1), .v (.int .i64 x.dir.2), .v (.string x.name), .v (.int .i64 x.file.1), .v (.int .i64 x.file.2), .v (.bool x.ex), .v (.bool x.slash), .v (.string x.path)]
def CF(s:AB):List AB:=(Ba s.data.toList).map fun l=>⟨l.toArray⟩
theorem TK(s:AB):Bv (CF s)=Ba s.data.toList:=by
 unfold Bv CF
 rw[List.map_map]
 have:((fun x:AB=>x.data.toList) ∘ fun l:Bs=>(⟨l.toArray⟩:AB))=id:=by funext l;simp
 rw[this,List.map_id]
theorem TL:∀{a b:List AB},Bv a=Bv b→a=b
 |[],[],_=>rfl
 |[],_::_,h=>by simp[Bv]at h
 |_::_,[],h=>by simp[Bv]at h
 |x::a,y::b,h=>by
   simp only[Bv,List.map_cons,List.cons.injEq]at h
   rw[LY h.1,TL (a:=a) (b:=b) h.2]
theorem Pm{s:AB}{ps:List AB}(h:Bv ps=Ba s.data.toList):ps=CF s:=TL (h.trans (TK s).symm)
theorem K1(s:AB):(CF s).length≤s.size+1:=by
 have h1:=TF (CF s)
 have h2:=Ox s.data.toList
 rw[←TK]at h2
 rw[Lib.size_eq]
 omega
def Ck(s:Spc):A7:=CL s s.mounts.length (0,1)
structure Lk where
 ps:List AB
 dir:A7
 name:AB
 file:A7
 ex:Bool
 links:Nat
abbrev N8:AB:=⟨#[46]⟩
abbrev LZ:AB:=⟨#[46,46]⟩
def BY(s:Spc)(fl:Bool)(p:AB)(ps:List AB)(a:A7)(lk:Nat):Int ⊕ Lk:=
 if Ab s.files a=false then .inl 20
 else if 12<p.size then .inl 36
 else if p=N8 then .inr ⟨ps,a,⟨#[]⟩,a,true,lk⟩
 else if p=LZ then .inr ⟨ps,CL s s.mounts.length (D4 s (s.mounts.length+1) a),⟨#[]⟩,CL s s.mounts.length (D4 s (s.mounts.length+1) a),true,lk⟩
 else if(AG s.files a p).2≠0 then(if ps≠[]∨Cm p=false then .inl 2 else .inr ⟨[],a,p,(0,0),false,lk⟩)
 else if(AT s.files (AG s.files a p).1).kind=3∧(ps≠[]∨fl=true)then
  (if lk=8 then .inl 40 else
    .inr ⟨CF (AT s.files (AG s.files a p).1).target++ps,if CN (AT s.files (AG s.files a p).1).target=true then Ck s else a,⟨#[]⟩,if CN (AT s.files (AG s.files a p).1).target=true then Ck s else a,true,lk+1⟩)
 else .inr ⟨ps,a,p,CL s s.mounts.length (AG s.files a p).1,true,lk⟩
def La:Lk:=⟨[],(0,0),⟨#[]⟩,(0,0),false,0⟩
def D7(s:Spc)(fl:Bool):Nat→Lk→Int×Lk
 |0,σ=>(0,σ)
 |k+1,σ=>match σ.ps with
   |[]=>(0,σ)
   |p::ps=>match BY s fl p ps σ.file σ.links with
     | .inl e=>(e,La)
     | .inr τ=>D7 s fl k τ
def Dk(σ:Lk):Nat:=(8 - σ.links) * 200+σ.ps.length
section
variable {s:Spc}(hv:FlsV s.files)
include hv
theorem Pn{fl:Bool}{p:AB}{ps:List AB}{a:A7}{lk:Nat}{τ:Lk}(h8:lk≤8)(h:BY s fl p ps a lk= .inr τ):τ.links≤8∧Dk τ<(8 - lk) * 200+(ps.length+1):=by
 unfold BY at h
 split at h
 ·cases h
 split at h
 ·cases h
 split at h
 ·injection h with h;subst h;exact⟨h8,by unfold Dk;simp only;omega⟩
 split at h
 ·injection h with h;subst h;exact⟨h8,by unfold Dk;simp only;omega⟩
 split at h
 ·split at h
  ·cases h
  injection h with h;subst h;exact⟨h8,by unfold Dk;simp only[List.length_nil];omega⟩
 split at h
 ·split at h
  ·cases h
  rename_i h9
  injection h with h
  subst h
  have ht:=LR hv (AG s.files a p).1
  have hl:=K1 (AT s.files (AG s.files a p).1).target
  refine⟨by simp only;omega,?_⟩
  unfold Dk
  simp only[List.length_append]
  have:(8 - lk) * 200=(8 - (lk+1)) * 200+200:=by
   rw[show 8 - lk=(8 - (lk+1))+1 by omega,Nat.add_mul]
  omega
 injection h with h;subst h;exact⟨h8,by unfold Dk;simp only;omega⟩
theorem Yp(fl:Bool):∀(k k':Nat) (σ:Lk),σ.links≤8→Dk σ≤k→Dk σ≤k'→D7 s fl k σ=D7 s fl k' σ:=by
 intro k
 induction k with
 |zero=>
   intro k' σ h8 h h'
   have he:σ.ps=[]:=by
    unfold Dk at h
    exact List.eq_nil_of_length_eq_zero (by omega)
   cases k' with
   |zero=>rfl
   |succ k'=>unfold D7;rw[he]
 |succ k ih=>
   intro k' σ h8 h h'
   cases hps:σ.ps with
   |nil=>cases k'<;>(unfold D7;rw[hps])
   |cons p ps=>
     have hm:Dk σ=(8 - σ.links) * 200+(ps.length+1):=by unfold Dk;rw[hps];rfl
     cases k' with
     |zero=>rw[hm]at h';omega
     |succ k'=>
       unfold D7
       rw[hps]
       simp only
       cases hs:BY s fl p ps σ.file σ.links with
       |inl e=>rfl
       |inr τ=>
         simp only
         obtain⟨h1,h2⟩:=Pn hv h8 hs
         exact ih k' τ h1 (by omega) (by omega)
end
def D8(s:Spc)(fl:Bool)(σ:Lk):Int×Lk:=D7 s fl (Dk σ) σ
theorem Po{s:Spc}{fl:Bool}{σ:Lk}(h:σ.ps=[]):D8 s fl σ=(0,σ):=by
 unfold D8
 cases Dk σ with
 |zero=>rfl
 |succ k=>unfold D7;rw[h]
theorem TM{s:Spc}(hv:FlsV s.files){fl:Bool}{σ:Lk}{p:AB}{ps:List AB}(h8:σ.links≤8)(h:σ.ps=p::ps):D8 s fl σ=match BY s fl p ps σ.file σ.links with
    | .inl e=>(e,La)
    | .inr τ=>D8 s fl τ:=by
 have hm:Dk σ=((8 - σ.links) * 200+ps.length)+1:=by unfold Dk;rw[h];rfl
 unfold D8
 rw[hm]
 conv=>lhs;unfold D7
 rw[h]
 simp only
 cases hs:BY s fl p ps σ.file σ.links with
 |inl e=>rfl
 |inr τ=>
   simp only
   obtain⟨h1,h2⟩:=Pn hv h8 hs
   exact Yp hv fl _ _ τ h1 (by omega) (Nat.le_refl _)
def F8(s:Spc)(sl:Bool)(τ:Lk):Fnd:=⟨τ.dir,τ.name,τ.file,τ.ex,sl,if(BT s τ.dir).2=true then(if τ.name=⟨#[]⟩then(BT s τ.dir).1 else Cj (BT s τ.dir).1 τ.name)else⟨#[]⟩⟩
def En(ps:List AB)(a:A7):Lk:=⟨ps,a,⟨#[]⟩,a,true,0⟩
def BE(s:Spc)(start:A7)(p:AB)(fl:Bool):Fnd×Int:=
 if p=⟨#[]⟩then(Cw,2)else if 128<p.size then(Cw,36)
 else if Ab s.files (if CN p=true then Ck s else start)=false then(Cw,2)
 else if(D8 s (fl||B0 p) (En (CF p) (if CN p=true then Ck s else start))).1≠0 then(Cw,(D8 s (fl||B0 p) (En (CF p) (if CN p=true then Ck s else start))).1)
 else if B0 p=true∧(D8 s (fl||B0 p) (En (CF p) (if CN p=true then Ck s else start))).2.ex=true∧Ab s.files (D8 s (fl||B0 p) (En (CF p) (if CN p=true then Ck s else start))).2.file=false then(Cw,20)
 else(F8 s (B0 p) (D8 s (fl||B0 p) (En (CF p) (if CN p=true then Ck s else start))).2,0)
end Go.Proofs.YtbglbmnhgbgelaaGreatDoor
namespace Go.Proofs.YtbglbmnhgbgelaaGreatDoor
open Go.RowKit
structure Dsc where
 fd:Int
 file:A7
 flags:Int
structure Prc where
 pid:Int
 ppid:Int
 uid:Int
 euid:Int
 gid:Int
 egid:Int
 auid:Int
 ses:Int
 cwd:A7
 comm:AB
 exe:AB
 opens:List Dsc
 audited:Bool
structure Tab where
 next:Int
 nextS:Int
 ps:List Prc
structure Syst where
 spc:Spc
 tab:Tab
structure Cal where
 num:Int
 a0:Int
 a1:Int
 a2:Int
 a3:Int
 paths:List AB
 args:List AB
structure Res where
 exit:Int
 child:Int
 gone:Int
 items:List Itm
 changes:List DG
structure Wrk where
 s:Syst
 p:Prc
 c:Cal
 found:List Fnd
 r:Res
def Yq:Prc:=⟨0,0,0,0,0,0,0,0,(0,0),⟨#[]⟩,⟨#[]⟩,[],false⟩
def Cz:Tab:=⟨0,0,[]⟩
def F9:Res:=⟨0,0,0,[],[]⟩
def Pp(cwd:A7):Tab:=⟨2,1,[⟨1,0,0,0,0,0,4294967295,4294967295,cwd,⟨#[105,110,105,116]⟩,⟨#[47,105,110,105,116]⟩,[],true⟩]⟩
def K4(t:Tab)(pid:Int):Option Prc:=t.ps.find? fun p=>decide (p.pid=pid)
def DZ(t:Tab)(pid:Int):Bool:=(K4 t pid).isSome
def Au(t:Tab)(pid:Int):Prc:=(K4 t pid).getD Yq
def Fp(t:Tab)(p:Prc):Tab:=⟨t.next,t.nextS,t.ps.map fun x=>if x.pid=p.pid then p else x⟩
def Pq(t:Tab)(pid:Int):Tab×Int×Int:=
 if DZ t pid=false then(Cz,0,3)else if 16≤(t.ps.length:Int)∨t.next=1073741824 then(Cz,0,11)
 else(⟨t.next+1,t.nextS,t.ps++[{Au t pid with pid:=t.next,ppid:=pid}]⟩,t.next,0)
def Yr(pid:Int)(p:Prc):Prc:=if p.ppid=pid then{p with ppid:=1}else p
def TN(t:Tab)(pid:Int):Tab×Int:=
 if DZ t pid=false then(Cz,3)else if pid=1 then(Cz,1)
 else(⟨t.next,t.nextS,(t.ps.filter fun p=>decide (p.pid≠pid)).map (Yr pid)⟩,0)
def Hj(priv:Bool)(real eff n:Int):Int×Int×Int:=if priv=true then(n,n,0)else if n=real∨n=eff then(real,n,0)else(0,0,1)
def Pr(n:Int):Bool:=decide (0≤n)&&decide (n<4294967295)
def Ys(t:Tab)(pid u:Int):Tab×Int:=
 if DZ t pid=false then(Cz,3)else if Pr u=false then(Cz,22)
 else if(Hj (decide ((Au t pid).euid=0)) (Au t pid).uid (Au t pid).euid u).2.2≠0 then(Cz,(Hj (decide ((Au t pid).euid=0)) (Au t pid).uid (Au t pid).euid u).2.2)
 else(Fp t {Au t pid with uid:=(Hj (decide ((Au t pid).euid=0)) (Au t pid).uid (Au t pid).euid u).1,euid:=(Hj (decide ((Au t pid).euid=0)) (Au t pid).uid (Au t pid).euid u).2.1},0)
def Yt(t:Tab)(pid u:Int):Tab×Int:=
 if DZ t pid=false then(Cz,3)else if Pr u=false then(Cz,22)
 else if(Hj (decide ((Au t pid).euid=0)) (Au t pid).gid (Au t pid).egid u).2.2≠0 then(Cz,(Hj (decide ((Au t pid).euid=0)) (Au t pid).gid (Au t pid).egid u).2.2)
 else(Fp t {Au t pid with gid:=(Hj (decide ((Au t pid).euid=0)) (Au t pid).gid (Au t pid).egid u).1,egid:=(Hj (decide ((Au t pid).euid=0)) (Au t pid).gid (Au t pid).egid u).2.1},0)
def Yu(t:Tab)(pid auid:Int):Tab×Int:=
 if DZ t pid=false then(Cz,3)else if Pr auid=false then(Cz,22)
 else if(Au t pid).auid≠4294967295∧(Au t pid).euid≠0 then(Cz,1)else if t.nextS=1073741824 then(Cz,11)
 else(⟨t.next,t.nextS+1,(Fp t {Au t pid with auid:=auid,ses:=t.nextS}).ps⟩,0)
def Dl:Nat→List Dsc→Nat
 |k,[]=>k
 |k,d::r=>if d.fd=(k:Int)then Dl (k+1) r else k
def K5(l:List Dsc)(fd:Nat)(x:Dsc):List Dsc:=l.take fd++x::l.drop fd
def EH(t:Tab)(pid:Int)(a:A7)(flags:Int):Tab×Int×Int:=
 if DZ t pid=false then(Cz,0,3)else if 8≤((Au t pid).opens.length:Int)then(Cz,0,24)
 else(Fp t {Au t pid with opens:=K5 (Au t pid).opens (Dl 0 (Au t pid).opens) ⟨(Dl 0 (Au t pid).opens:Nat),a,flags⟩},(Dl 0 (Au t pid).opens:Nat),0)
def Yv(t:Tab)(pid fd:Int):Tab×Int:=
 if DZ t pid=false then(Cz,3)else if(((Au t pid).opens.filter fun d=>decide (d.fd≠fd)).length:Int)=((Au t pid).opens.length:Int)then(Cz,9)
 else(Fp t {Au t pid with opens:=(Au t pid).opens.filter fun d=>decide (d.fd≠fd)},0)
def Yw(t:Tab)(pid:Int)(dir:A7):Tab×Int:=if DZ t pid=false then(Cz,3)else(Fp t {Au t pid with cwd:=dir},0)
def Yx(t:Tab)(pid:Int)(exe comm:AB):Tab×Int:=if DZ t pid=false then(Cz,3)else(Fp t {Au t pid with exe:=exe,comm:=comm},0)
def Yy(t:Tab)(pid target:Int)(ends:Bool):Tab×Int:=
 if DZ t pid=false then(Cz,3)else if DZ t target=false then(Cz,3)
 else if target=1∨(Au t pid).euid≠0∧(Au t pid).euid≠(Au t target).uid then(Cz,1)
 else if ends=true then TN t target else(t,0)
def JK:List (AB×Int×Int×Int×Int):=[(⟨#[102,111,114,107]⟩,0,0,0,0),
 (⟨#[101,120,101,99,118,101]⟩,0,1,0,4),
 (⟨#[101,120,105,116]⟩,1,0,0,0),
 (⟨#[115,101,116,117,105,100]⟩,1,0,0,0),
 (⟨#[115,101,116,103,105,100]⟩,1,0,0,0),
 (⟨#[108,111,103,105,110]⟩,1,0,0,0),
 (⟨#[111,112,101,110]⟩,2,1,0,0),
 (⟨#[99,108,111,115,101]⟩,1,0,0,0),
 (⟨#[108,105,110,107]⟩,0,2,0,0),
 (⟨#[115,121,109,108,105,110,107]⟩,0,1,1,1),
 (⟨#[117,110,108,105,110,107]⟩,0,1,0,0),
 (⟨#[109,107,100,105,114]⟩,1,1,0,0),
 (⟨#[114,109,100,105,114]⟩,0,1,0,0),
 (⟨#[114,101,110,97,109,101]⟩,0,2,0,0),
 (⟨#[99,104,109,111,100]⟩,1,1,0,0),
 (⟨#[99,104,111,119,110]⟩,2,1,0,0),
 (⟨#[99,104,100,105,114]⟩,0,1,0,0),
 (⟨#[109,111,117,110,116]⟩,1,1,0,0),
 (⟨#[117,109,111,117,110,116]⟩,1,0,0,0),
 (⟨#[99,111,110,110,101,99,116]⟩,1,0,1,1),
 (⟨#[107,105,108,108]⟩,2,0,0,0),
 (⟨#[116,114,117,110,99,97,116,101]⟩,1,1,0,0)]
def DQ(n:Int):AB×Int×Int×Int×Int:=if n<0∨22≤n then(⟨#[]⟩,0,0,0,0)else(JK[n.toNat]?).getD (⟨#[]⟩,0,0,0,0)
def K6(c:Cal):List Int:=[c.a0,c.a1,c.a2,c.a3]
def BU(c:Cal):Int:=
 if(DQ c.num).1=⟨#[]⟩then 100 else if(((K6 c).drop (DQ c.num).2.1.toNat).any fun x=>decide (x≠0))=true then 101
 else if(c.paths.length:Int)≠(DQ c.num).2.2.1∨(c.args.length:Int)<(DQ c.num).2.2.2.1∨(DQ c.num).2.2.2.2<(c.args.length:Int)then 101
 else if(c.paths.any fun p=>decide (128<p.size))=true then 102 else if(c.args.any fun p=>decide (64<p.size))=true then 102 else 0
def EJ(n:Nod)(euid egid:Int):Int:=
 if euid=n.uid then Fd .i64 (MG .i64 n.mode 6) 7 else if egid=n.gid then Fd .i64 (MG .i64 n.mode 3) 7 else Fd .i64 n.mode 7
def E3(n:Nod)(euid egid want:Int):Bool:=
 if want<0∨7<want then false
 else if euid=0 then decide (Fd .i64 want 1=0)||decide (n.kind=2)||decide (Fd .i64 n.mode 73≠0)
 else decide (Fd .i64 (EJ n euid egid) want=want)
def Bg(a f:Int):Bool:=decide (Fd .i64 a f≠0)
def CG(c:Cal):List Int:=
 if c.num=1 then[1]else if c.num=6 then[(if Bg c.a0 1=true then 4 else 0)+(if Bg c.a0 22=true then 2 else 0)]
 else if c.num=8 then[8,2]else if c.num=13 then[2,2]else if c.num=14∨c.num=15∨c.num=17 then[8]else if c.num=16 then[4]else[2]
def CR(c:Cal):Bool:=
 if c.num=6 then decide (Fd .i64 c.a0 32=0)else decide (c.num=1∨c.num=14∨c.num=15∨c.num=16∨c.num=17∨c.num=21)
def Lb(n:Int):Bool:=decide (0≤n)&&decide (n≤511)
def K7(c:Cal):AB:=c.args.headD ⟨#[]⟩
def Cx(p:Prc)(c:Cal):Int:=
 if c.num=6 then(if c.a0<0∨63<c.a0∨Fd .i64 c.a0 3=0∨Lb c.a1=false then 22 else if 8≤(p.opens.length:Int)then 24 else 0)
 else if c.num=9 then(if K7 c=⟨#[]⟩then 2 else if(K7 c).data.toList.any (fun b=>decide (b=0))=true then 22 else 0)
 else if c.num=11∨c.num=14 then(if Lb c.a0=false then 22 else 0)
 else if c.num=15 then(if c.a0<0∨4294967295<c.a0∨c.a1<0∨4294967295<c.a1 then 22 else 0)
 else if c.num=17 then(if p.euid≠0 then 1 else 0)
 else if c.num=21 then(if c.a0<0 then 22 else 0)else 0
def Lc(s:Spc)(given:AB)(perm:Int)(f:Fnd):Itm:=
 ⟨given,f.path,f.dir,f.name,f.file,1,(AT s.files f.file).kind,(AT s.files f.file).mode,(AT s.files f.file).uid,(AT s.files f.file).gid,perm⟩
def Eo(given:AB)(perm:Int):Itm:=⟨given,⟨#[]⟩,(0,0),⟨#[]⟩,(0,0),1,0,0,0,0,perm⟩
def ER(s:Spc)(cwd:A7)(fl:Bool)(x:List Itm×List Fnd×Int)(g:AB×Int):List Itm×List Fnd×Int:=
 if x.2.2=0 then
  (if(BE s cwd g.1 fl).2=0 then(x.1++[Lc s g.1 g.2 (BE s cwd g.1 fl).1],x.2.1++[(BE s cwd g.1 fl).1],0)else(x.1++[Eo g.1 g.2],x.2.1++[(BE s cwd g.1 fl).1],(BE s cwd g.1 fl).2))
 else(x.1++[Eo g.1 g.2],x.2.1++[Cw],x.2.2)
def Gd(s:Spc)(cwd:A7)(fl:Bool)(l:List (AB×Int))(e:Int):List Itm×List Fnd×Int:=l.foldl (ER s cwd fl) ([],[],e)
def Aq(w:Wrk)(i:Nat):Fnd:=(w.found[i]?).getD Cw
def D9(w:Wrk)(a:A7)(want:Int):Bool:=E3 (AT w.s.spc.files a) w.p.euid w.p.egid want
def Ge(w:Wrk)(i:Nat):Bool:=Ab w.s.spc.files (Aq w i).file
def Gf(w:Wrk)(a:A7):Bool:=(Bm w.s.spc a).isSome||w.s.tab.ps.any fun p=>decide (p.cwd=a)
def Bk(w:Wrk)(R:De):Wrk×Int:=if R.2.2=0 then({w with s:=⟨⟨R.1,w.s.spc.mounts⟩,w.s.tab⟩,r:={w.r with changes:=R.2.1}},0)else(w,R.2.2)
def DR(w:Wrk)(R:Tab×Int):Wrk×Int:=if R.2=0 then({w with s:=⟨w.s.spc,R.1⟩},0)else(w,R.2)
def TO(n:Nod)(a:A7)(x:Itm):Itm:={x with role:=2,file:=a,kind:=n.kind,mode:=n.mode,uid:=n.uid,gid:=n.gid}
def GF(w:Wrk)(i:Nat)(a:A7):Wrk:={w with r:={w.r with items:=w.r.items.modify i (TO (AT w.s.spc.files a) a)}}
def Yz:DG:=((0,0),⟨#[]⟩,(0,0),(0,0))
def TP(l:List DG):A7:=(l.headD Yz).2.2.2
def Ld(w:Wrk)(n:Nod):Nod:={n with uid:=w.p.euid,gid:=w.p.egid}
def Dm(w:Wrk)(i:Nat)(n:Nod):De:=Di w.s.spc.files (Aq w i).dir (Aq w i).name (Ld w n)
def Ca(w:Wrk)(i:Nat)(n:Nod):Wrk×Int:=
 if(Dm w i n).2.2=0 then(GF (Bk w (Dm w i n)).1 i (TP (Dm w i n).2.1),0)else(w,(Dm w i n).2.2)
def Ep(w:Wrk)(i:Nat)(role:Int):Wrk:={w with r:={w.r with items:=w.r.items.modify i fun x=>{x with role:=role}}}
def TQ(w:Wrk)(n:Int):Wrk:={w with r:={w.r with exit:=n}}
def FY(mode:Int):Nod:=⟨0,1,mode,0,0,0,⟨#[]⟩,[]⟩
def Gg(w:Wrk)(a:A7):Wrk×Int:=DR (TQ w (EH w.s.tab w.p.pid a w.c.a0).2.1) ((EH w.s.tab w.p.pid a w.c.a0).1,(EH w.s.tab w.p.pid a w.c.a0).2.2)
def Gi(a:Int):Int:=(if Bg a 1=true then 4 else 0)+(if Bg a 18=true then 2 else 0)
def C4(w:Wrk):Wrk×Int:=
 if(Aq w 0).ex=true then
  (if Bg w.c.a0 4=true∧Bg w.c.a0 8=true then(w,17)
  else if(AT w.s.spc.files (Aq w 0).file).kind=3 then(w,40)
  else if(AT w.s.spc.files (Aq w 0).file).kind=2∧Bg w.c.a0 22=true then(w,21)
  else if D9 w (Aq w 0).file (Gi w.c.a0)=false then(w,13)
  else Gg w (Aq w 0).file)
 else
  (if Bg w.c.a0 4=false then(w,2)else if(Aq w 0).slash=true then(w,21)else if D9 w (Aq w 0).dir 2=false then(w,13)
  else if(Ca w 0 (FY w.c.a1)).2≠0 then Ca w 0 (FY w.c.a1)
  else Gg (Ca w 0 (FY w.c.a1)).1 (TP (Ca w 0 (FY w.c.a1)).1.r.changes))
def Z0(w:Wrk):Wrk×Int:=
 if(Aq w 0).ex=false then(w,2)else if Ge w 0=true then(w,1)else if(Aq w 1).ex=true then(w,17)else if(Aq w 1).slash=true then(w,2)
 else if(Aq w 0).file.1≠(Aq w 1).dir.1 then(w,18)else if D9 w (Aq w 1).dir 2=false then(w,13)
 else if(Du w.s.spc.files (Aq w 1).dir (Aq w 1).name (Aq w 0).file).2.2≠0 then(w,(Du w.s.spc.files (Aq w 1).dir (Aq w 1).name (Aq w 0).file).2.2)
 else(GF (Bk w (Du w.s.spc.files (Aq w 1).dir (Aq w 1).name (Aq w 0).file)).1 1 (Aq w 0).file,0)
def TR(w:Wrk)(R:De):Wrk×Int:=if R.2.2≠0 then(w,R.2.2)else(Ep (Bk w R).1 0 3,0)
def Z1(w:Wrk):Wrk×Int:=
 if(Aq w 0).ex=false then(w,2)
 else if w.c.num=10 then
  (if(Aq w 0).name=⟨#[]⟩∨Ge w 0=true then(w,21)else if D9 w (Aq w 0).dir 2=false then(w,13)
  else TR w (FV w.s.spc.files (Aq w 0).dir (Aq w 0).name))
 else
  (if(Aq w 0).name=⟨#[]⟩then(w,16)else if Ge w 0=false then(w,20)
  else if Gf w (AG w.s.spc.files (Aq w 0).dir (Aq w 0).name).1=true then(w,16)else if D9 w (Aq w 0).dir 2=false then(w,13)
  else TR w (El w.s.spc.files (Aq w 0).dir (Aq w 0).name))
def GG(w:Wrk)(R:De)(x:A7):Wrk×Int:=
 if R.2.2≠0 then(w,R.2.2)else if 0<(R.2.1.length:Int)then(GF (Ep (Bk w R).1 0 3) 1 x,0)else((Bk w R).1,0)
def Dn(w:Wrk):Wrk×Int:=
 if(Aq w 0).ex=false then(w,2)else if(Aq w 0).name=⟨#[]⟩∨(Aq w 1).name=⟨#[]⟩then(w,16)
 else if(Aq w 1).slash=true∧Ge w 0=false then(w,20)else if(Aq w 0).dir.1≠(Aq w 1).dir.1 then(w,18)
 else if D9 w (Aq w 0).dir 2=false∨D9 w (Aq w 1).dir 2=false then(w,13)
 else if(AG w.s.spc.files (Aq w 1).dir (Aq w 1).name).2=0∧(AG w.s.spc.files (Aq w 1).dir (Aq w 1).name).1≠(AG w.s.spc.files (Aq w 0).dir (Aq w 0).name).1∧Ab w.s.spc.files (AG w.s.spc.files (Aq w 1).dir (Aq w 1).name).1=true∧Gf w (AG w.s.spc.files (Aq w 1).dir (Aq w 1).name).1=true then(w,16)
 else GG w (EG w.s.spc.files (Aq w 0).dir (Aq w 0).name (Aq w 1).dir (Aq w 1).name) (AG w.s.spc.files (Aq w 0).dir (Aq w 0).name).1
def TS(w:Wrk)(R:AR×Int):Wrk×Int:=Bk w (R.1,[],R.2)
def Z2(w:Wrk):Wrk×Int:=
 if(Aq w 0).ex=false then(w,2)
 else if w.c.num=14 then
  (if w.p.euid≠0∧w.p.euid≠(AT w.s.spc.files (Aq w 0).file).uid then(w,1)
  else TS w (FW w.s.spc.files (Aq w 0).file w.c.a0 (AT w.s.spc.files (Aq w 0).file).uid (AT w.s.spc.files (Aq w 0).file).gid))
 else if w.p.euid≠0 then(w,1)else TS w (FW w.s.spc.files (Aq w 0).file (AT w.s.spc.files (Aq w 0).file).mode w.c.a0 w.c.a1)
def Z3(w:Wrk)(R:Spc×Int):Wrk×Int:=if R.2=0 then({w with s:=⟨R.1,w.s.tab⟩},0)else(w,R.2)
def Z4(w:Wrk):Wrk×Int:=
 if(Aq w 0).ex=false then(w,2)
 else if w.c.num=1 then(if Ge w 0=true∨D9 w (Aq w 0).file 1=false then(w,13)else DR w (Yx w.s.tab w.p.pid (Aq w 0).path (Aq w 0).name))
 else if w.c.num=16 then(if Ge w 0=false then(w,20)else if D9 w (Aq w 0).file 1=false then(w,13)else DR w (Yw w.s.tab w.p.pid (Aq w 0).file))
 else if w.c.num=17 then(if Ge w 0=false then(w,20)else Z3 w (Co w.s.spc w.c.a0 (Aq w 0).file))
 else if Ge w 0=true then(w,21)else if D9 w (Aq w 0).file 2=false then(w,13)else(w,0)
def Z5(t:AB):Nod:=⟨0,3,511,0,0,0,t,[]⟩
def Z6(mode:Int):Nod:=⟨0,2,mode,0,0,0,⟨#[]⟩,[]⟩
def Z7(w:Wrk):Wrk×Int:=
 if(Aq w 0).ex=true then(w,17)else if(Aq w 0).slash=true∧w.c.num=9 then(w,2)else if D9 w (Aq w 0).dir 2=false then(w,13)
 else if w.c.num=9 then Ca w 0 (Z5 (K7 w.c))else Ca w 0 (Z6 w.c.a0)
def Z8(t:Tab)(dev:Int):Bool:=t.ps.any fun p=>decide (p.cwd.1=dev)||p.opens.any fun d=>decide (d.file.1=dev)
def Z9(w:Wrk)(R:Spc×Int):Wrk×Int:=if R.2=0 then({w with s:=⟨R.1,w.s.tab⟩,r:={w.r with gone:=w.c.a0}},0)else(w,R.2)
def ZA(w:Wrk):Wrk×Int:=
 if w.p.euid≠0 then(w,1)else if w.c.a0=0∨Bu w.s.spc w.c.a0=false then(w,22)else if Z8 w.s.tab w.c.a0=true then(w,16)
 else Z9 w (Xm w.s.spc w.c.a0)
def ZB(w:Wrk)(n:Int):Wrk:={w with r:={w.r with exit:=n,child:=n}}
def ZC(w:Wrk):Wrk×Int:=
 if w.c.num=0 then DR (ZB w (Pq w.s.tab w.p.pid).2.1) ((Pq w.s.tab w.p.pid).1,(Pq w.s.tab w.p.pid).2.2)
 else if w.c.num=2 then DR w (TN w.s.tab w.p.pid)
 else if w.c.num=3 then DR w (Ys w.s.tab w.p.pid w.c.a0)
 else if w.c.num=4 then DR w (Yt w.s.tab w.p.pid w.c.a0)
 else if w.c.num=5 then DR w (Yu w.s.tab w.p.pid w.c.a0)
 else if w.c.num=7 then DR w (Yv w.s.tab w.p.pid w.c.a0)
 else if w.c.num=18 then ZA w
 else if w.c.num=19 then(if w.c.a0<0∨65535<w.c.a0∨K7 w.c=⟨#[]⟩then(w,22)else if w.c.a0=0 then(w,111)else(w,0))
 else if w.c.a1<0∨64<w.c.a1 then(w,22)else DR w (Yy w.s.tab w.p.pid w.c.a0 (decide (w.c.a1≠0)))
def D0(w:Wrk):Wrk×Int:=
 if w.c.num=6 then C4 w else if w.c.num=8 then Z0 w else if w.c.num=10∨w.c.num=12 then Z1 w else if w.c.num=13 then Dn w
 else if w.c.num=14∨w.c.num=15 then Z2 w else if w.c.num=1∨w.c.num=16∨w.c.num=17∨w.c.num=21 then Z4 w
 else if w.c.num=9∨w.c.num=11 then Z7 w else ZC w
def FZ(s:Syst)(p:Prc)(c:Cal):List Itm×List Fnd×Int:=Gd s.spc p.cwd (CR c) (c.paths.zip (CG c)) (Cx p c)
def EX(s:Syst)(pid:Int)(c:Cal):Wrk:=⟨s,Au s.tab pid,c,(FZ s (Au s.tab pid) c).2.1,{F9 with items:=(FZ s (Au s.tab pid) c).1}⟩
def GH(n:Int):Syst×Int:=if(Dz n).2≠0 then(⟨⟨[],[]⟩,Cz⟩,(Dz n).2)else(⟨⟨(Dz n).1,[]⟩,Pp (0,1)⟩,0)
def Hk(d:Dsc):List AV:=[.v (.int .i64 d.fd), .v (.int .i64 d.file.1), .v (.int .i64 d.file.2), .v (.int .i64 d.flags)]
def BV(p:Prc):List AV:=[.v (.int .i64 p.pid), .v (.int .i64 p.ppid), .v (.int .i64 p.uid), .v (.int .i64 p.euid), .v (.int .i64 p.gid), .v (.int .i64 p.egid), .v (.int .i64 p.auid), .v (.int .i64 p.ses), .v (.int .i64 p.cwd.1), .v (.int .i64 p.cwd.2), .v (.string p.comm), .v (.string p.exe), .sl 4 (p.opens.map Hk) none, .v (.bool p.audited)]
def Bw(t:Tab):List AV:=[.v (.int .i64 t.next), .v (.int .i64 t.nextS), .sl 14 (t.ps.map BV) none]
def D1(s:Syst):List AV:=[.sl 2 (s.spc.files.map BW) none, .sl 3 (s.spc.mounts.map Ch) none, .v (.int .i64 s.tab.next), .v (.int .i64 s.tab.nextS), .sl 14 (s.tab.ps.map BV) none]
def Er(s:AB):List AV:=[.v (.string s)]
def ES(c:Cal):List AV:=[.v (.int .i64 c.num), .v (.int .i64 c.a0), .v (.int .i64 c.a1), .v (.int .i64 c.a2), .v (.int .i64 c.a3), .sl 1 (c.paths.map Er) none, .sl 1 (c.args.map Er) none]
def CH(y:Itm):List AV:=[.v (.string y.given), .v (.string y.path), .v (.int .i64 y.dir.1), .v (.int .i64 y.dir.2), .v (.string y.name), .v (.int .i64 y.file.1), .v (.int .i64 y.file.2), .v (.int .i64 y.role), .v (.int .i64 y.kind), .v (.int .i64 y.mode), .v (.int .i64 y.uid), .v (.int .i64 y.gid), .v (.int .i64 y.perm)]
def EY(r:Res):List AV:=[.v (.int .i64 r.exit), .v (.int .i64 r.child), .v (.int .i64 r.gone), .sl 13 (r.items.map CH) none, .sl 7 (r.changes.map C0) none]
def Ce(w:Wrk)(fnd its:AV):List AV:=
 [.sl 2 (w.s.spc.files.map BW) none, .sl 3 (w.s.spc.mounts.map Ch) none, .v (.int .i64 w.s.tab.next), .v (.int .i64 w.s.tab.nextS), .sl 14 (w.s.tab.ps.map BV) none,
 .v (.int .i64 w.p.pid), .v (.int .i64 w.p.ppid), .v (.int .i64 w.p.uid), .v (.int .i64 w.p.euid), .v (.int .i64 w.p.gid), .v (.int .i64 w.p.egid), .v (.int .i64 w.p.auid), .v (.int .i64 w.p.ses), .v (.int .i64 w.p.cwd.1), .v (.int .i64 w.p.cwd.2), .v (.string w.p.comm), .v (.string w.p.exe), .sl 4 (w.p.opens.map Hk) none, .v (.bool w.p.audited),
 .v (.int .i64 w.c.num), .v (.int .i64 w.c.a0), .v (.int .i64 w.c.a1), .v (.int .i64 w.c.a2), .v (.int .i64 w.c.a3), .sl 1 (w.c.paths.map Er) none, .sl 1 (w.c.args.map Er) none,fnd,
 .v (.int .i64 w.r.exit), .v (.int .i64 w.r.child), .v (.int .i64 w.r.gone),its, .sl 7 (w.r.changes.map C0) none]
structure TabB(t:Tab):Prop where
 few:t.ps.length≤16
 opens:∀p∈t.ps,p.opens.length≤8
 next:t.next≤1073741824
 nextS:t.nextS≤1073741824
structure RowF(sz:Nat){α:Type}(F:α→List AV):Prop where
 len:∀x,(F x).length=sz
 flat:∀x,∀y∈F x,(∃v,y= .v v)∨∃s r,y= .sl s r none
 pos:0<sz
def LB(sz:Nat){α:Type}(F:α→List AV)(l:List α)(cap:Nat):List AV:=Bz sz cap (l.map F)
section
variable {α:Type}{sz:Nat}{F:α→List AV}(hF:RowF sz F)
include hF
theorem JL(l:List α):∀r∈l.map F,r.length=sz:=by
 intro r hr
 obtain⟨x,_,rfl⟩:=List.mem_map.1 hr
 exact hF.len x
theorem Ps{l:List α}{cap:Nat}(h:l.length≤cap):(LB sz F l cap).length=cap * sz:=OW (JL hF l) (by simpa using h)
theorem ZD{g:AV→AV}(hv:∀x,g (.v x)= .v x)(hs:∀sz rows,g (.sl sz rows none)= .sl sz rows none)(x:α):(F x).map g=F x:=by
 conv=>rhs;rw[←List.map_id (F x)]
 apply List.map_congr_left
 intro y hy
 rcases hF.flat x y hy with⟨v,rfl⟩|⟨s,r,rfl⟩
 ·exact hv v
 exact hs s r
theorem Pt{g:AV→AV}(hany:g .any= .any)(hv:∀x,g (.v x)= .v x)(hs:∀sz rows,g (.sl sz rows none)= .sl sz rows none)(l:List α)(cap:Nat):(LB sz F l cap).map g=LB sz F l cap:=by
 unfold LB
 rw[Ky g hany,List.map_map]
 congr 1
 apply List.map_congr_left
 intro x _
 exact ZD hF hv hs x
theorem Fa(g:Nat→Option Nat)(l:List α)(cap:Nat):Cr g (LB sz F l cap)=LB sz F l cap:=by
 rw[Kw];exact Pt hF rfl (fun _=>rfl) (fun _ _=>rfl) l cap
theorem JM(g:Nat→Option Nat)(l:List α)(cap:Nat):Ef g (LB sz F l cap)=LB sz F l cap:=by
 rw[Mi];exact Pt hF rfl (fun _=>rfl) (fun _ _=>rfl) l cap
theorem ZE(g:Nat→Option (List AV))(l:List α)(cap:Nat):FM g (LB sz F l cap)=LB sz F l cap:=by
 rw[Kx];exact Pt hF rfl (fun _=>rfl) (fun _ _=>rfl) l cap
theorem ZF{n m:Nat}(x:α):Ak n m (F x)=true:=by
 refine Of.2 fun y hy=>?_
 rcases hF.flat x y hy with⟨v,rfl⟩|⟨s,r,rfl⟩<;>rfl
theorem Bf{n m:Nat}{l:List α}{cap:Nat}:Ak n m (LB sz F l cap)=true:=by
 refine Og fun r hr=>?_
 obtain⟨x,_,rfl⟩:=List.mem_map.1 hr
 exact ZF hF x
theorem ZG{n:Nat}{bx:List (List AV)}{k j:Nat}{l:List α}{cap:Nat}(hn:n≤j)(hj:bx[j]?=some (LB sz F l cap)):D3 n bx (k+1) j=some (LB sz F l cap):=by
 have:Nat.blt j n=false:=by rw[←Bool.not_eq_true,Nat.blt_eq];omega
 simp only[D3,this,hj,Option.map_some,ZE hF]
theorem Pu{n:Nat}{bx:List (List AV)}{k j:Nat}{l:List α}{cap cap0:Nat}(hn:Nat.ble n j=true)(hj:bx[j]?=some (LB sz F l cap))(hc:l.length≤cap):EB n (D3 n bx (k+1)) (.bs j 0 sz l.length cap0)= .sl sz (l.map F) none:=
 Sf (BB hn) (ZG hF (BB hn) hj) (JL hF l) (by simp) (by simpa using hc)
theorem ZH{l:List α}{cap i k:Nat}{x:α}{y:AV}(h:l[i]?=some x)(hx:(F x)[k]?=some y):(LB sz F l cap)[0+i * sz+k]?=some y:=L0 (JL hF l) (by rw[List.getElem?_map,h];rfl) hx
theorem Hl{l:List α}{cap i k:Nat}{x x':α}{cs:List AV}(h:l[i]?=some x)(hs:SetAt (F x) k cs (F x'))(hne:cs≠[]):SetAt (LB sz F l cap) (0+i * sz+k) cs (LB sz F (l.set i x') cap):=by
 have key:=Oj (cap:=cap) (JL hF l) (by rw[List.getElem?_map,h];rfl) hs hne
 rw[←List.map_set]at key
 exact key
theorem TT{l:List α}{cap i:Nat}{x x':α}(h:l[i]?=some x):SetAt (LB sz F l cap) (0+i * sz) (F x') (LB sz F (l.set i x') cap):=by
 have hne:F x'≠[]:=fun e=>by have h1:=hF.len x';have h2:=hF.pos;rw[e]at h1;simp at h1;omega
 have hs:SetAt (F x) 0 (F x') (F x'):=by
  have:=SetAt.whole (xs:=F x') (l:=F x) (b:=[]) (by rw[hF.len,hF.len])
  simpa using this
 have key:=Hl hF (cap:=cap) h hs hne
 simpa using key
theorem TU(x:α)(cap:Nat):F x++List.replicate ((cap - 1) * sz) .any=LB sz F [x] cap:=by
 have _:=hF
 unfold LB Bz
 simp
theorem TV(acc:List α)(x:α)(cap0 cap:Nat):((LB sz F acc cap0).drop 0).take (acc.length * sz)++F x++List.replicate ((cap - (acc.length+1)) * sz) .any=LB sz F (acc++[x]) cap:=by
 unfold LB
 rw[Rc (JL hF acc) (by simp),List.map_append]
 rfl
theorem TW{acc:List α}{x:α}{cap:Nat}{row:List AV}(hs:SetAt (LB sz F acc cap) (0+acc.length * sz) (F x) row)(hc:acc.length+1≤cap):row=LB sz F (acc++[x]) cap:=by
 have key:=Rb (rows:=acc.map F) (sz:=sz) (cap:=cap) (r:=F x) (row':=row) (JL hF acc) (hF.len x) hF.pos (by simpa using hc) (by rw[List.length_map];exact hs)
 rw[key]
 unfold LB
 rw[List.map_append]
 rfl
end
theorem Dv:RowF 14 BV:=⟨fun _=>rfl,fun x y h=>by simp[BV]at h;rcases h with h|h|h|h|h|h|h|h|h|h|h|h|h|h<;>first|exact .inl ⟨_,h⟩|exact .inr ⟨_,_,h⟩,by decide⟩
theorem B9:RowF 13 CH:=⟨fun _=>rfl,fun x y h=>by simp[CH]at h;rcases h with h|h|h|h|h|h|h|h|h|h|h|h|h<;>exact .inl ⟨_,h⟩,by decide⟩
theorem Cl{f:Nat→Option AV}{bx:List (List AV)}{tk:List (Nat×Nat×List (List AV))}{l:List (Nat×AV)}{N:Dim}(n m:Nat){bx':List (List AV)}{tk':List (Nat×Nat×List (List AV))}(hbp:Ap n m bx'=true)(hn:Nat.ble N.ni n=true:=by rfl)(hb:bx.take n=bx':=by rfl)(ht:tk.take m=tk':=by rfl)(hl:Sub n m f l:=by repeat (first|exact Sub.nil|refine Sub.cons _ _ _ rfl rfl ?_|refine Sub.any _ _ ?_|refine Sub.sl _ _ _ _ _ rfl ?_|refine Sub.slnil _ _ _ rfl ?_|(apply Sub.of;(focus exact rfl);(focus exact LeA.of_eq (vb (by simp[*])));(focus exact rfl)))):Weak N ⟨f,⟨bx,tk⟩⟩ ⟨look l,⟨bx',tk'⟩⟩:=B1 n m hn hb ht hbp hl
def DA(bx:List (List AV))(g:Nat→Option Nat):List Nat→List (List AV)→List (List AV)
 |[],bc=>bx++bc.map (Cr g)
 |i::is,[]=>DA bx g is []
 |i::is,r::bc=>DA (bx.set i (Cr g r)) g is bc
theorem TX{g:Nat→Option Nat}:∀(is:List Nat) (bx bc:List (List AV)),is.length≤bc.length→(DA bx g is bc).length=bx.length+(bc.length - is.length)
 |[],bx,bc,_=>by simp[DA]
 |i::is,bx,[],h=>by simp at h
 |i::is,bx,r::bc,h=>by
   unfold DA
   rw[TX is _ bc (by simpa using h)]
   simp
theorem N9{g:Nat→Option Nat}:∀(is:List Nat) (bx bc:List (List AV)) (i:Nat),i∉is→i<bx.length→(DA bx g is bc)[i]?=bx[i]?
 |[],bx,bc,i,_,hi=>by unfold DA;rw[List.getElem?_append_left hi]
 |j::is,bx,[],i,h,hi=>by
   unfold DA
   exact N9 is bx [] i (fun hm=>h (List.mem_cons_of_mem _ hm)) hi
 |j::is,bx,r::bc,i,h,hi=>by
   unfold DA
   rw[N9 is _ bc i (fun hm=>h (List.mem_cons_of_mem _ hm)) (by simpa using hi),List.getElem?_set_ne (fun e=>h (by rw[e];exact List.mem_cons_self ..))]
theorem TY{g:Nat→Option Nat}:∀(is:List Nat) (bx bc:List (List AV)) (k i:Nat) (row:List AV),is.Nodup→i<bx.length→is[k]?=some i→bc[k]?=some row→(DA bx g is bc)[i]?=some (Cr g row)
 |[],_,_,_,_,_,_,_,h,_=>by simp at h
 |j::is,bx,[],k,i,row,_,_,_,h=>by simp at h
 |j::is,bx,r::bc,0,i,row,hn,hi,h1,h2=>by
   simp at h1 h2
   subst h1 h2
   unfold DA
   rw[N9 is _ bc j (List.nodup_cons.1 hn).1 (by simpa using hi),List.getElem?_set_self hi]
 |j::is,bx,r::bc,k+1,i,row,hn,hi,h1,h2=>by
   unfold DA
   exact TY is _ bc k i row (List.nodup_cons.1 hn).2 (by simpa using hi) (by simpa using h1) (by simpa using h2)
theorem TZ{g:Nat→Option Nat}:∀(is:List Nat) (bx bc:List (List AV)) (k:Nat) (row:List AV),bc[is.length+k]?=some row→(DA bx g is bc)[bx.length+k]?=some (Cr g row)
 |[],bx,bc,k,row,h=>by
   unfold DA
   rw[List.getElem?_append_right (by omega),show bx.length+k - bx.length=k by omega,List.getElem?_map]
   simp at h
   rw[h];rfl
 |j::is,bx,[],k,row,h=>by simp at h
 |j::is,bx,r::bc,k,row,h=>by
   unfold DA
   have:=TZ (g:=g) is (bx.set j (Cr g r)) bc k row (by simpa[Nat.add_right_comm]using h)
   simpa using this
theorem Pv{bx:List (List AV)}{is:List Nat}{bc:List (List AV)}(hn:is.Nodup)(hi:∀i∈is,i<bx.length)(hl:is.length≤bc.length):Back bx is bc (DA bx (DU is bx.length) is bc):=by
 refine⟨TX is bx bc hl,fun i row h1 h2=>?_,fun k i row h1 h2=>?_,fun k row h=>TZ is bx bc k row h⟩
 ·rw[N9 is bx bc i h1 (Ag.1 h2).1];exact h2
 exact TY is bx bc k i row hn (hi i (Aj h1)) h1 h2
def Da:List AV:=[.v (.int .i64 0), .v (.int .i64 0), .v (.slice none 0 0)]
def Cf(t:Tab)(x:AV):List AV:=[.v (.int .i64 t.next), .v (.int .i64 t.nextS),x]
def DC(f:Prc→Prc)(l:List Prc)(j:Nat):List Prc:=(l.take j).map f++l.drop j
def Es(p x:Prc):Prc:=if x.pid=p.pid then p else x
theorem Hm(f:Prc→Prc)(l:List Prc)(j:Nat):(DC f l j).length=l.length:=by
 unfold DC
 simp
 omega
theorem Pw{f:Prc→Prc}{l:List Prc}{j:Nat}{x:Prc}(h:l[j]?=some x):(DC f l j)[j]?=some x:=by
 have hl:=(Ag.1 h).1
 unfold DC
 rw[List.getElem?_append_right (by simp;omega)]
 simp only[List.length_map,List.length_take,List.getElem?_drop]
 rw[show j+(j - min j l.length)=j by omega]
 exact h
theorem Ta{f:Prc→Prc}{l:List Prc}{j:Nat}{x:Prc}(h:l[j]?=some x):(DC f l j).set j (f x)=DC f l (j+1):=by
 obtain⟨hl,e⟩:=Ag.1 h
 unfold DC
 rw[List.take_add_one,h,List.drop_eq_getElem_cons hl,List.set_append_right _ _ (by simp;omega)]
 simp only[List.length_map,List.length_take,List.map_append,List.append_assoc]
 rw[show j - min j l.length=0 by omega]
 rfl
theorem ZJ{f:Prc→Prc}{l:List Prc}{j:Nat}{x:Prc}(h:l[j]?=some x)(hf:f x=x):DC f l j=DC f l (j+1):=by
 rw[←Ta h,hf]
 have h2:=Pw (f:=f) h
 obtain⟨h3,h4⟩:=Ag.1 h2
 rw[←h4,List.set_getElem_self]
theorem ZK(f:Prc→Prc)(l:List Prc):DC f l l.length=l.map f:=by
 unfold DC
 simp
theorem Tc{t:Tab}{pid:Int}{p:Prc}(h:K4 t pid=some p):p∈t.ps:=List.mem_of_find?_eq_some h
theorem ZL{t:Tab}(ht:TabB t)(pid:Int):(Au t pid).opens.length≤8:=by
 unfold Au
 cases h:K4 t pid with
 |none=>exact Nat.zero_le _
 |some p=>exact ht.opens p (Tc h)
theorem ZM{t:Tab}{pid:Int}(h:DZ t pid=true):0<t.ps.length:=by
 unfold DZ at h
 obtain⟨p,hp⟩:=Option.isSome_iff_exists.1 h
 exact List.length_pos_of_mem (Tc hp)
theorem ZN{bx:List (List AV)}{n:Nat}(hn:bx.length=n)(t:Tab)(cap:Nat):Back bx [] [Bw t,Cf t (.bs 3 0 14 t.ps.length cap),Cf t (.bs 3 0 14 t.ps.length cap),LB 14 BV t.ps cap] (bx++[Bw t,Cf t (.bs (n+3) 0 14 t.ps.length cap),Cf t (.bs (n+3) 0 14 t.ps.length cap),LB 14 BV t.ps cap]):=by
 subst hn
 have:=Pv (bx:=bx) (is:=[]) (bc:=[Bw t,Cf t (.bs 3 0 14 t.ps.length cap),Cf t (.bs 3 0 14 t.ps.length cap),LB 14 BV t.ps cap]) List.nodup_nil (by simp) (by simp)
 have e1:Cr (DU [] bx.length) (Bw t)=Bw t:=rfl
 have e2:Cr (DU [] bx.length) (Cf t (.bs 3 0 14 t.ps.length cap))=Cf t (.bs (bx.length+3) 0 14 t.ps.length cap):=by simp[Cr,Cf,EA,DU]
 simpa[DA,Fa Dv,e1,e2]using this
section
theorem NA(p:Prc)(hp:p.opens.length≤1000):AFn Tryz.prog 107 [.agg (BV p)] (fun r=>r= .agg (BV p)):=by
 refine enter Tryz.func107 rfl rfl rfl rfl rfl 0 rfl ?_
 refine w_ (b_ (h:=Aa (h:=e_ (w_ (f_ (h:=l_ (h:=?_)))))))
 first|refine A6 rfl (EL rfl rfl rfl (by simp;omega) (by repeat constructor) ?_)|refine A6 rfl (GO rfl rfl (by simp;omega) (by repeat constructor) ?_)
 refine f_ (h:=s_ (h:=e_ (w_ (l_ (h:=s_ (h:=e_ (A4 (?_))))))))
 refine AD ?_
 rfl
theorem ZO(t:Tab)(ht:TabB t):AFn Tryz.prog 108 [.agg (Bw t)] (fun r=>r= .agg (Bw t)):=by
 have hfew:=ht.few
 refine enter Tryz.func108 rfl rfl rfl rfl rfl 0 rfl ?_
 refine w_ (b_ (h:=Aa (h:=e_ (w_ (f_ (h:=l_ (h:=f_ (h:=l_ (h:=AU (h:=Aa (h:=s_ (h:=e_ (q_ (w_ (a_ (h:=e_ (Ao (?_))))))))))))))))))
 refine O5 2 2 61 14 rfl rfl (by repeat constructor) (by repeat constructor) (by repeat constructor) ?_
 refine Bh (fun m s=>∃j:Nat,j≤t.ps.length∧m=t.ps.length - j∧s=⟨look [(1, .bp 0 0),(2, .bp 1 0),(3, .bp 2 0),(4, .v (.int .i64 (j:Int)))],⟨[Bw t,Da,Cf t (.sl 14 ((t.ps.take j).map BV) (some 0))],[(61,14,(t.ps.take j).map BV)]⟩⟩) (t.ps.length) ((wk 3 1)) (⟨0,Nat.zero_le _,rfl,rfl⟩) ?_
 rintro m s ⟨j,hj,rfl,rfl⟩
 refine q_ (w_ (m_ (h:=f_ (h:=l_ (h:=n_ (h:=BJ (h:=e_ (?_))))))))
 refine A9 rfl (fun hb1=>?_) (fun hb1=>?_)
 ·have hc1:=bp hb1
  obtain⟨hlt,p,hy,hrow,e⟩:=CY BV hc1
  have hop:p.opens.length≤1000:=by have:=ht.opens p (Aj hy);omega
  refine AM (q_ (Ao (BQ ([(0,Bw t),(1,Da),(2,Cf t (.sl 14 ((t.ps.take j).map BV) (some 0)))]) 11 (h:=AK 0 (h:=AE 1 (h:=AK 2 (h:=AE 3 (h:=AN 4 (h:=DN 5 (h:=AE 6 (h:=?_)))))))))))
  refine c_ 7 rfl (AJ (NA p hop) ?_)
  rintro r rfl
  refine o_ (h:=Jd 8 (h:=?_))
  refine c_ 9 rfl (EL rfl rfl rfl (by simp;omega) (by repeat constructor) ?_)
  refine o_ (h:=AK 10 (h:=?_))
  refine Az 11 rfl (Ax rfl rfl rfl rfl rfl rfl (by repeat constructor) (by repeat constructor) ?_)
  refine o_ (h:=z_ (h:=Aw (t_ (AQ (m_ (h:=B3 (h:=a_ (h:=AP (?_)))))))))
  refine AF ?_
  refine⟨_,_,?_,⟨j+1,by omega,rfl,rfl⟩,(by rw[e];exact B1 3 1 rfl rfl rfl rfl ((by repeat (first|exact Sub.nil|refine Sub.cons _ _ _ rfl rfl ?_|refine Sub.any _ _ ?_|refine Sub.sl _ _ _ _ _ rfl ?_|refine Sub.slnil _ _ _ rfl ?_))))⟩
  omega
 have hc1:=bp hb1
 have e:=Cn BV hj hc1
 subst e
 rw[List.take_length]
 refine BM (Al (Al (BN (t_ (w_ (l_ (h:=s_ (h:=e_ (A4 (?_))))))))))
 refine AD ?_
 rfl
theorem ZP(t:Tab)(ht:TabB t)(h0:0<t.ps.length):ACall Tryz.prog 108 [.agg (Bw t)] [] (fun r b tk=>tk=[]∧∃cap,t.ps.length≤cap∧r= .agg (Cf t (.bs 3 0 14 t.ps.length cap))∧b=[Bw t,Cf t (.bs 3 0 14 t.ps.length cap),Cf t (.bs 3 0 14 t.ps.length cap),LB 14 BV t.ps cap]):=by
 have hfew:=ht.few
 refine enter Tryz.func108 rfl rfl rfl rfl rfl 4 rfl ?_
 refine w_ (b_ (h:=Aa (h:=e_ (w_ (f_ (h:=l_ (h:=f_ (h:=l_ (h:=AU (h:=Aa (h:=s_ (h:=e_ (q_ (w_ (a_ (h:=e_ (Ao (?_))))))))))))))))))
 refine Bh (fun m s=>∃(j:Nat) (acc:List Prc),j≤t.ps.length∧m=t.ps.length - j∧t.ps.take j=acc∧((acc=[]∧s=⟨look [(1, .bp 0 0),(2, .bp 1 0),(3, .bp 2 0),(4, .v (.int .i64 (j:Int)))],⟨[Bw t,Da,Cf t (.v (.slice none 0 0))],[]⟩⟩)∨(∃cap,acc.length≤cap∧s=⟨look [(1, .bp 0 0),(2, .bp 1 0),(3, .bp 2 0),(4, .v (.int .i64 (j:Int)))],⟨[Bw t,Da,Cf t (.bs 3 0 14 acc.length cap),LB 14 BV acc cap],[]⟩⟩))) (t.ps.length) ((wk 3 0)) (⟨0,[],Nat.zero_le _,rfl,rfl, .inl ⟨rfl,rfl⟩⟩) ?_
 rintro m s ⟨j,acc,hj,rfl,hacc,⟨rfl,rfl⟩|⟨cap,hcp,rfl⟩⟩
 ·skip
  refine q_ (w_ (m_ (h:=f_ (h:=l_ (h:=n_ (h:=BJ (h:=e_ (?_))))))))
  refine A9 rfl (fun hb1=>?_) (fun hb1=>?_)
  ·have hc1:=bp hb1
   obtain⟨hlt,p,hy,hrow, -⟩:=CY BV hc1
   have hk:t.ps.take (j+1)=t.ps.take j++[p]:=by rw[List.take_add_one,hy];rfl
   have hop:p.opens.length≤1000:=by have:=ht.opens p (Aj hy);omega
   refine AM (q_ (Ao (BQ ([(0,Bw t),(1,Da),(2,Cf t (.v (.slice none 0 0)))]) 11 (h:=AK 0 (h:=AE 1 (h:=AK 2 (h:=AE 3 (h:=AN 4 (h:=DN 5 (h:=AE 6 (h:=?_)))))))))))
   refine c_ 7 rfl (AJ (NA p hop) ?_)
   rintro r rfl
   refine o_ (h:=Jd 8 (h:=?_))
   refine c_ 9 rfl (MV rfl rfl HQ (by omega) (by omega) ?_)
   rintro cap2 k bx2 hcp hs
   rw[show C8 (.agg (BV p))++List.replicate ((cap2 - 1) * 14) AV.any=LB 14 BV [p] cap2 from TU Dv p cap2]at hs
   obtain⟨rfl,rfl⟩:k=3∧bx2=[_,_,_,_]:=hs.eq
   refine o_ (h:=?_)
   refine AK 10 (h:=?_)
   refine Az 11 rfl (Ax rfl rfl rfl rfl rfl rfl (by repeat constructor) (by repeat constructor) ?_)
   refine o_ (h:=z_ (h:=Aw (t_ (AQ (m_ (h:=B3 (h:=a_ (h:=AP (?_)))))))))
   refine AF ?_
   exact⟨t.ps.length - (j+1),_,by omega,⟨j+1,[p],by omega,rfl,(by rw[hk,hacc];rfl), .inr ⟨cap2,hcp,rfl⟩⟩,B1 4 0 rfl rfl rfl (by simp[Ap,Ak,Am,Bf Dv,Bw,Cf,Da]) ((by repeat (first|exact Sub.nil|refine Sub.cons _ _ _ rfl rfl ?_|refine Sub.any _ _ ?_|refine Sub.sl _ _ _ _ _ rfl ?_|refine Sub.slnil _ _ _ rfl ?_)))⟩
  have hc1:=bp hb1
  exfalso
  have e:=Cn BV hj hc1
  rw[e,List.take_length]at hacc
  rw[hacc]at h0
  exact absurd h0 (by simp)
 skip
 refine q_ (w_ (m_ (h:=f_ (h:=l_ (h:=n_ (h:=BJ (h:=e_ (?_))))))))
 refine A9 rfl (fun hb2=>?_) (fun hb2=>?_)
 ·have hc2:=bp hb2
  obtain⟨hlt,p,hy,hrow, -⟩:=CY BV hc2
  have hk:t.ps.take (j+1)=t.ps.take j++[p]:=by rw[List.take_add_one,hy];rfl
  have hop:p.opens.length≤1000:=by have:=ht.opens p (Aj hy);omega
  refine AM (q_ (Ao (BQ ([(0,Bw t),(1,Da),(2,Cf t (.bs 3 0 14 acc.length cap))]) 11 (h:=AK 0 (h:=AE 1 (h:=AK 2 (h:=AE 3 (h:=AN 4 (h:=DN 5 (h:=AE 6 (h:=?_)))))))))))
  refine c_ 7 rfl (AJ (NA p hop) ?_)
  rintro r rfl
  refine o_ (h:=Jd 8 (h:=?_))
  refine c_ 9 rfl (Kf rfl rfl rfl (by rw[Ps Dv hcp];omega) HQ (by omega) (by have:=congrArg List.length hacc;simp at this;omega) ?_ ?_)
  ·rintro hg row2 bx2 hs hb
   obtain rfl:=TW Dv hs hg
   obtain rfl:bx2=[_,_,_,_]:=hb.one.2
   refine o_ (h:=?_)
   refine AK 10 (h:=?_)
   refine Az 11 rfl (Ax rfl rfl rfl rfl rfl rfl (by repeat constructor) (by repeat constructor) ?_)
   refine o_ (h:=z_ (h:=Aw (t_ (AQ (m_ (h:=B3 (h:=a_ (h:=AP (?_)))))))))
   refine AF ?_
   exact⟨t.ps.length - (j+1),_,by omega,⟨j+1,acc++[p],by omega,rfl,(by rw[hk,hacc]), .inr ⟨cap,by simpa using hg,by rw[List.length_append];rfl⟩⟩,B1 4 0 rfl rfl rfl (by simp[Ap,Ak,Am,Bf Dv,Bw,Cf,Da]) ((by repeat (first|exact Sub.nil|refine Sub.cons _ _ _ rfl rfl ?_|refine Sub.any _ _ ?_|refine Sub.sl _ _ _ _ _ rfl ?_|refine Sub.slnil _ _ _ rfl ?_)))⟩
  rintro hg cap3 k bx2 hcp3 hs
  rw[show((LB 14 BV acc cap).drop 0).take (acc.length * 14)++C8 (.agg (BV p))++List.replicate ((cap3 - (acc.length+1)) * 14) AV.any=LB 14 BV (acc++[p]) cap3 from TV Dv acc p cap cap3]at hs
  obtain⟨rfl,rfl⟩:k=4∧bx2=[_,_,_,_,_]:=hs.eq
  refine o_ (h:=?_)
  refine AK 10 (h:=?_)
  refine Az 11 rfl (Ax rfl rfl rfl rfl rfl rfl (by repeat constructor) (by repeat constructor) ?_)
  refine o_ (h:=z_ (h:=Aw (t_ (AQ (m_ (h:=B3 (h:=a_ (h:=AP (?_)))))))))
  refine AF ?_
  first|exact⟨t.ps.length - (j+1),_,by omega,⟨j+1,acc++[p],by omega,rfl,(by rw[hk,hacc]), .inr ⟨cap,by simpa using hg,by rw[List.length_append];rfl⟩⟩,B1 4 0 rfl rfl rfl (by simp[Ap,Ak,Am,Bf Dv,Bw,Cf,Da]) ((by repeat (first|exact Sub.nil|refine Sub.cons _ _ _ rfl rfl ?_|refine Sub.any _ _ ?_|refine Sub.sl _ _ _ _ _ rfl ?_|refine Sub.slnil _ _ _ rfl ?_)))⟩|exact⟨t.ps.length - (j+1),_,by omega,⟨j+1,acc++[p],by omega,rfl,(by rw[hk,hacc]), .inr ⟨cap3,by simpa using hcp3,by rw[List.length_append];rfl⟩⟩,Eg [0,1,2,4] (fun i hi=>absurd hi (Nat.not_lt_zero i)) (by decide) (.cons _ _ _ _ _ rfl rfl (.cons _ _ _ _ _ rfl rfl (.cons _ _ _ _ _ rfl rfl (.cons _ _ _ _ _ rfl (JM Dv _ _ _) .nil)))) (by repeat (first|exact SubK.nil|refine SubK.cons _ _ _ _ rfl (LeA.refl _) ?_))⟩
 have hc2:=bp hb2
 have e:=Cn BV hj hc2
 refine BM (Al (Al (BN (t_ (w_ (l_ (h:=s_ (h:=e_ (A4 (?_))))))))))
 rw[e,List.take_length]at hacc
 subst hacc
 refine Av (r:= .agg (Cf t (.bs 3 0 14 t.ps.length cap))) none (h4:=(by simp[Ap,Ak,Am,Bf Dv,Bw,Cf])) (h5:=(LeA.refl _)) (h6:=⟨rfl,cap,hcp,rfl,rfl⟩)
theorem Td(t:Tab)(pid:Int)(ht:TabB t):AFn Tryz.prog 63 [.agg (Bw t), .v (.int .i64 pid)] (fun r=>r= .tup [.agg (BV (Au t pid)), .v (.bool (DZ t pid))]):=by
 have hfew:=ht.few
 refine enter Tryz.func63 rfl rfl rfl rfl rfl 0 rfl ?_
 refine w_ (b_ (h:=Aa (h:=a_ (h:=e_ (q_ (w_ (a_ (h:=e_ (Ao (?_))))))))))
 refine Bh (fun m s=>∃j:Nat,j≤t.ps.length∧m=t.ps.length - j∧(∀i y,i<j→t.ps[i]?=some y→decide (y.pid=pid)=false)∧s=⟨look [(1, .v (.int .i64 pid)),(2, .bp 0 0),(4, .bp 1 0),(6, .v (.int .i64 (j:Int)))],⟨[Bw t,[.v (.int .i64 0), .v (.int .i64 0), .v (.int .i64 0), .v (.int .i64 0), .v (.int .i64 0), .v (.int .i64 0), .v (.int .i64 0), .v (.int .i64 0), .v (.int .i64 0), .v (.int .i64 0), .v (.string ⟨#[]⟩), .v (.string ⟨#[]⟩), .v (.slice none 0 0), .v (.bool false)]],[]⟩⟩) (t.ps.length) ((wk 2 0)) (⟨0,Nat.zero_le _,rfl,fun i y hi=>by omega,rfl⟩) ?_
 rintro m s ⟨j,hj,rfl,ha,rfl⟩
 refine q_ (w_ (m_ (h:=f_ (h:=l_ (h:=n_ (h:=BJ (h:=e_ (?_))))))))
 refine A9 rfl (fun hb1=>?_) (fun hb1=>?_)
 ·have hc1:=bp hb1
  obtain⟨hlt,p,hy,hrow, -⟩:=CY BV hc1
  have hop:p.opens.length≤1000:=by have:=ht.opens p (Aj hy);omega
  refine AM (q_ (Ao (w_ (f_ (h:=l_ (h:=m_ (h:=i_ (h:=f_ (h:=l_ (h:=m_ (h:=AW (h:=e_ (?_)))))))))))))
  refine A9 rfl (fun hb2=>?_) (fun hb2=>?_)
  ·have hc2:=bp hb2
   have hg:K4 t pid=some p:=G5 hy (decide_eq_true hc2) ha
   refine w_ (f_ (h:=l_ (h:=m_ (h:=i_ (h:=l_ (h:=?_))))))
   refine A6 rfl (AJ (NA p hop) ?_)
   rintro r rfl
   refine s_ (h:=a_ (h:=e_ (A4 (Af (A8 (A8 (Af (A8 (?_)))))))))
   refine AD ?_
   rw[Au,DZ,hg];rfl
  have hc2:=bp hb2
  refine B4 (Aw (t_ (AQ (m_ (h:=B3 (h:=a_ (h:=AP (?_))))))))
  refine AF ?_
  refine⟨_,_,?_,⟨j+1,by omega,rfl,EM hy ha (decide_eq_false hc2),rfl⟩,(wk 2 0)⟩
  omega
 have hc1:=bp hb1
 have e:=Cn BV hj hc1
 subst e
 have hg:K4 t pid=none:=G6 ha
 refine BM (Al (Al (BN (t_ (w_ (AU (h:=s_ (h:=a_ (h:=e_ (A4 (?_)))))))))))
 refine Av (r:= .tup [.agg (BV (Au t pid)), .v (.bool (DZ t pid))]) none (h5:=?_) (h6:=⟨rfl,rfl,rfl⟩)
 rw[Au,DZ,hg]
 exact(by repeat (first|exact LeA.refl _|exact LeA.nil _|exact LeL.refl _|refine LeA.agg ?_|refine LeA.tup ?_|exact LeL.nil|refine LeL.cons ?_ ?_|exact LeA.any _))
theorem ZQ(t:Tab)(p:Prc)(ht:TabB t)(h0:0<t.ps.length)(hp:p.opens.length≤1000):AFn Tryz.prog 188 [.agg (Bw t), .agg (BV p)] (fun r=>r= .agg (Bw (Fp t p))):=by
 have hfew:=ht.few
 refine enter Tryz.func188 rfl rfl rfl rfl rfl 0 rfl ?_
 refine w_ (b_ (h:=b_ (h:=Aa (h:=e_ (?_)))))
 refine BG (fun s=>∃cap,t.ps.length≤cap∧s=⟨look [(3, .bp 1 0),(4, .bp 2 0),(5, .bp 3 0)],⟨[Bw t,BV p,Da,Cf t (.bs 4 0 14 (DC (Es p) t.ps 0).length cap),LB 14 BV (DC (Es p) t.ps 0) cap],[]⟩⟩) ?_ ?_
 ·skip
  refine AQ (l_ (h:=?_))
  refine A6 rfl (Cs [] rfl (.cons _ _ _ _ _ rfl (LeA.refl _) .nil) (by decide) .nil (ZP t ht h0) ?_)
  rintro r bc tc ⟨rfl,cap,hcap,rfl,rfl⟩
  refine⟨rfl,_,(ZN (n:=3) rfl t cap:Back _ [] _ [_,_,_,_,_,_,_]),?_⟩
  refine Aa (h:=s_ (h:=AP (?_)))
  refine AF ?_
  exact⟨_,⟨cap,hcap,rfl⟩,Eg [0,1,2,7,6] (fun i hi=>absurd hi (Nat.not_lt_zero i)) (by decide) (.cons _ _ _ _ _ rfl rfl (.cons _ _ _ _ _ rfl rfl (.cons _ _ _ _ _ rfl rfl (.cons _ _ _ _ _ rfl (by rw[Hm];rfl) (.cons _ _ _ _ _ rfl (JM Dv _ _ _) .nil))))) (by repeat (first|exact SubK.nil|refine SubK.cons _ _ _ _ rfl (LeA.refl _) ?_))⟩
 rintro s ⟨cap,hcap,rfl⟩
 refine BG (fun s=>s=⟨look [(4, .bp 2 0),(5, .bp 3 0)],⟨[Bw t,BV p,Da,Bw (Fp t p)],[]⟩⟩) ?_ ?_
 ·skip
  refine w_ (a_ (h:=e_ (Ao (?_))))
  refine Bh (fun m s=>∃j:Nat,j≤t.ps.length∧m=t.ps.length - j∧s=⟨look [(3, .bp 1 0),(4, .bp 2 0),(5, .bp 3 0),(6, .v (.int .i64 (j:Int)))],⟨[Bw t,BV p,Da,Cf t (.bs 4 0 14 (DC (Es p) t.ps j).length cap),LB 14 BV (DC (Es p) t.ps j) cap],[]⟩⟩) (t.ps.length) (Bl 5 0 (by simp[Ap,Ak,Am,Bf Dv,Bw,Cf,Da,BV])) (⟨0,Nat.zero_le _,rfl,rfl⟩) ?_
  rintro m s ⟨j,hj,rfl,rfl⟩
  refine q_ (w_ (m_ (h:=f_ (h:=l_ (h:=?_)))))
  refine A6 rfl (O6 rfl ?_)
  refine BJ (h:=e_ (?_))
  refine A9 rfl (fun hb1=>?_) (fun hb1=>?_)
  ·have hc1:=bp hb1
   have hlt:j<t.ps.length:=by rw[Hm]at hc1;omega
   obtain⟨x,hy⟩:∃x,t.ps[j]?=some x:=⟨_,B8 hlt⟩
   have hl1:j<(DC (Es p) t.ps j).length:=by rw[Hm];exact hlt
   refine AM (q_ (Ao (q_ (DM 9 (h:=AK 0 (h:=AE 1 (h:=AN 2 (h:=?_))))))))
   refine Ed (i:=3) rfl (Cq (m:=j) rfl rfl rfl hl1 ⟨rfl,rfl⟩) ?_
   refine AK 4 (h:=?_)
   refine Ed (i:=5) rfl (CX rfl rfl (ZH Dv (Pw hy) rfl) ⟨rfl,rfl⟩) ?_
   refine AK 6 (h:=AE 7 (h:=GR 8 (h:=z_ (h:=t_ (?_)))))
   refine A9 rfl (fun hb2=>?_) (fun hb2=>?_)
   ·have hc2:=bp hb2
    have hu:(DC (Es p) t.ps j).set j p=DC (Es p) t.ps (j+1):=by rw[←Ta hy,Es,if_pos hc2]
    refine AQ (f_ (h:=l_ (h:=m_ (h:=l_ (h:=?_)))))
    refine A6 rfl (Cq (m:=j) rfl rfl rfl hl1 ?_)
    refine Kc (Ax rfl rfl rfl rfl rfl rfl (TT Dv (x':=p) (Pw hy)) (by repeat constructor) ?_)
    refine AP (Aw (t_ (AQ (m_ (h:=B3 (h:=a_ (h:=AP (?_))))))))
    refine AF ?_
    exact⟨t.ps.length - (j+1),_,by omega,⟨j+1,by omega,rfl,rfl⟩,(by first|(rw[hu,show(DC (Es p) t.ps j).length=(DC (Es p) t.ps (j+1)).length by rw[Hm,Hm]];exact Bl 5 0 (by simp[Ap,Ak,Am,Bf Dv,Bw,Cf,Da,BV]))|(rw[hu];exact Bl 5 0 (by simp[Ap,Ak,Am,Bf Dv,Bw,Cf,Da,BV])))⟩
   have hc2:=bp hb2
   have hu:DC (Es p) t.ps j=DC (Es p) t.ps (j+1):=ZJ hy (if_neg hc2)
   refine B4 (Aw (t_ (AQ (m_ (h:=B3 (h:=a_ (h:=AP (?_))))))))
   refine AF ?_
   exact⟨t.ps.length - (j+1),_,by omega,⟨j+1,by omega,rfl,rfl⟩,(by first|(rw[hu,show(DC (Es p) t.ps j).length=(DC (Es p) t.ps (j+1)).length by rw[Hm,Hm]];exact Bl 5 0 (by simp[Ap,Ak,Am,Bf Dv,Bw,Cf,Da,BV]))|(rw[hu];exact Bl 5 0 (by simp[Ap,Ak,Am,Bf Dv,Bw,Cf,Da,BV])))⟩
  have hc1:=bp hb1
  obtain rfl:j=t.ps.length:=by rw[Hm]at hc1;omega
  rw[ZK]
  refine BM (Al (Al (BN (?_))))
  refine AF ?_
  exact⟨_,rfl,F0 4 1 rfl (congrArg (fun x=>[Bw t,BV p,Da,[.v (.int .i64 t.next), .v (.int .i64 t.nextS),x]]) (Pu Dv rfl rfl (by rw[List.length_map];exact hcap))) (.cons _ _ _ _ rfl (LeA.refl _) (.cons _ _ _ _ rfl (LeA.refl _) .nil))⟩
 rintro s rfl
 refine w_ (l_ (h:=s_ (h:=e_ (A4 (?_)))))
 refine AD ?_
 rfl
end
end Go.Proofs.YtbglbmnhgbgelaaGreatDoor
