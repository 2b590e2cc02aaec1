/-
  Part 11 of the proof of WatchHitsP: what the statement's proof uses of the texts in wip/tpl.
-/
import Derived.Lib.AppendZerosOnto
import Derived.Test.YtbglbmnhgbgelaaGreatDoorQd10
set_option maxRecDepth 10000
set_option maxHeartbeats 4000000
set_option linter.unusedVariables false
set_option linter.unusedSimpArgs false
namespace Go.Proofs.YtbglbmnhgbgelaaGreatDoor
open Go.RowKit
def D1(s:AG):List AV:=[.v (.string s)]
theorem Uk{P:Program}{ev:Operand→Option AV}{h:AH}{R:AV→AH→Prop}{d:Option Tmp}{ty:TypeId}{pos:String}{af:Array Edge}{gd:Option (Nat×Bool)}{T:TypeId}{x lo hi:Operand}{s:ByteArray}{a k:Nat}{i j:Int}(hu:P.underlying T=some .string)
    (hx:ev x=some (.v (.string s))) (hl:ev lo=some (.v (.int .i64 i))) (hh:ev hi=some (.v (.int .i64 j))) (hi':i=(a:Int)) (hj:j=(k:Int)) (h1:a≤k) (h2:k≤s.size) (hR:R (.v (.string (s.extract a k))) h):AStep P ⟨d, .slice T x (some lo) (some hi) none,ty,pos,af,gd⟩ ev h R:=by
 refine D4 (fun _ G w ec _ he=>?_) hR
 have k1:=he x (by simp[Op.operands]) _ hx
 have k2:=he lo (by simp[Op.operands]) _ hl
 have k3:=he hi (by simp[Op.operands]) _ hh
 simp only[rep]at k1 k2 k3
 subst hi' hj
 refine⟨.string (s.extract a k),?_,by simp only[rep]⟩
 simp[execOp,k1,k2,k3,Instr.sliceAt,Instr.slice,Instr.sliceBounds,Instr.sliceBound,asIntOf,run_underlying hu,h1,h2]
def D8(s:AG):Bool:=decide (s.data.toList.head?=some 47)
def BJ(s:AG):Bool:=decide (s.data.toList.getLast?=some 47)
theorem OO{s:AG}(h:0<s.size):D8 s=decide (((s[0]'h).toNat:Int)=47):=by
 unfold D8
 rw[Yw s h,Bool.eq_iff_iff];simp
theorem OP{s:AG}(h:0<s.size):BJ s=decide (((s[s.size - 1]'(by omega)).toNat:Int)=47):=by
 unfold BJ
 rw[Yx s h,Bool.eq_iff_iff];simp
theorem Qt{s:AG}(h:¬0<s.size):D8 s=false:=by
 have:s.data.toList=[]:=List.eq_nil_of_length_eq_zero (by rw[←Lib.size_eq];omega)
 unfold D8
 rw[this];rfl
theorem Qu{s:AG}(h:¬0<s.size):BJ s=false:=by
 have:s.data.toList=[]:=List.eq_nil_of_length_eq_zero (by rw[←Lib.size_eq];omega)
 unfold BJ
 rw[this];rfl
theorem Ul{s:AG}{k:Nat}(h:k<s.size)(h47:((s[k]'h).toNat:Int)=47):s.data.toList[k]?=some 47:=by
 rw[Lib.data_getElem? s k h]
 congr 1
 refine UInt8.toNat_inj.1 ?_
 show _=47
 omega
theorem Um{s:AG}{f k:Nat}{ps:List AG}(hI:E9 s.data.toList f k (CC ps))(h:k=s.size∨s.data.toList[k]?=some 47):E9 s.data.toList (k+1) (k+1) (CC ps++one_ ((s.data.toList.drop f).take (k - f))):=by
 rcases h with h|h
 ·rw[Lib.size_eq]at h
  subst h
  exact Ys hI
 exact Yr hI h
theorem Un{s:AG}{f k:Nat}{ps:List AG}(hI:E9 s.data.toList f k (CC ps))(hk:k≤s.size)(h:k=s.size∨s.data.toList[k]?=some 47)(hf:f<k):E9 s.data.toList (k+1) (k+1) (CC (ps++[s.extract f k])):=Yy (Um hI h) (Yu (Yv s hf hk))
theorem Uo{s:AG}{f k:Nat}{ps:List AG}(hI:E9 s.data.toList f k (CC ps))(h:k=s.size∨s.data.toList[k]?=some 47)(hf:¬f<k):E9 s.data.toList (k+1) (k+1) (CC ps):=Yz (Um hI h) (by omega)
theorem bR{s:AG}{f k:Nat}{ps:List AG}(hI:E9 s.data.toList f k (CC ps))(h:k<s.size)(h47:¬((s[k]'h).toNat:Int)=47):E9 s.data.toList f (k+1) (CC ps):=Yq hI (Lib.data_getElem? s k h) (fun e=>h47 (by rw[e];rfl))
theorem Up(ps:List AG):ps.length≤(DD (CC ps)).length:=by
 induction ps with
 |nil=>simp
 |cons p ps ih=>
   have:CC (p::ps)=p.data.toList::CC ps:=rfl
   rw[this,GO]
   simp
   omega
theorem Qv{s:AG}{ps:List AG}(h:CC ps=Bq s.data.toList){i:Nat}{x:AG}(hx:ps[i]?=some x):x.size≤s.size:=by
 rw[Lib.size_eq,Lib.size_eq s]
 refine Z4 ?_
 rw[←h]
 exact List.mem_map.2 ⟨x,Au hx,rfl⟩
theorem bS{ps:List AG}{j:Nat}{x t:AG}(hx:ps[j]?=some x)(h:t.data.toList=DD ((CC ps).take j)):(t++(⟨#[47]⟩++x)).data.toList=DD ((CC ps).take (j+1)):=by
 have e:(CC ps)[j]?=some x.data.toList:=by unfold CC;rw[List.getElem?_map,hx];rfl
 rw[List.take_add_one,e,Q8,←h]
 simp[DD]
theorem Mp{a b:AG}(h:a.data.toList=b.data.toList):a=b:=ByteArray.ext (Array.toList_inj.1 h)
theorem bT{s:AG}{ps:List AG}(h:CC ps=Bq s.data.toList){i:Nat}{x:AG}(hx:ps[i]?=some x)(hn:DV x=false):Dp s.data.toList=false:=by
 rw[←QB]
 unfold MP
 rw[←h]
 have:(CC ps).all E8=false:=List.all_eq_false.2 ⟨x.data.toList,List.mem_map.2 ⟨x,Au hx,rfl⟩,by rw[←O9,hn];simp⟩
 rw[this,Bool.false_and]
theorem bU{s t1:AG}{ps:List AG}(h:CC ps=Bq s.data.toList)(ha:∀(i:Nat) (y:AG),i<ps.length→ps[i]?=some y→DV y=true)(ht:t1.data.toList=DD ((CC ps).take ps.length))(h3:¬s=⟨#[47]⟩)(h0:0<ps.length):Dp s.data.toList=decide (s=t1):=by
 have hl:(CC ps).length=ps.length:=by simp[CC]
 rw[List.take_of_length_le (by omega)]at ht
 rw[←QB]
 unfold MP
 rw[←h,←ht]
 have h1:(CC ps).all E8=true:=List.all_eq_true.2 fun y hy=>by
  obtain⟨z,hz,rfl⟩:=List.mem_map.1 hy
  obtain⟨i,hi⟩:=List.getElem?_of_mem hz
  rw[←O9]
  exact ha i z (Ar.1 hi).1 hi
 have h2:decide (s.data.toList=[47])=false:=decide_eq_false fun e=>h3 (Mp e)
 have h4:CC ps≠[]:=fun e=>by rw[e]at hl;simp at hl;omega
 rw[h1,h2,decide_eq_true h4]
 simp only[Bool.true_and,Bool.false_or]
 rw[Bool.eq_iff_iff,decide_eq_true_iff,decide_eq_true_iff]
 exact⟨fun e=>Mp e,fun e=>by rw[e]⟩
theorem bV{s:AG}{ps:List AG}(h:CC ps=Bq s.data.toList)(h3:¬s=⟨#[47]⟩)(h0:ps.length=0):Dp s.data.toList=false:=by
 have e:CC ps=[]:=by rw[List.eq_nil_of_length_eq_zero h0];rfl
 rw[←QB]
 unfold MP
 rw[←h,e]
 have h2:decide (s.data.toList=[47])=false:=decide_eq_false fun e=>h3 (Mp e)
 rw[h2]
 simp
section
theorem Qw(s:AG)(hs:s.size≤100000):AFn Tryz.prog 98 [.v (.string s)] (fun r=>∃ps:List AG,CC ps=Bq s.data.toList∧r= .tup [.sl 1 (ps.map D1) none, .v (.bool (D8 s)), .v (.bool (BJ s))]):=by
 have hsz:=Lib.size_eq s
 refine enter Tryz.func98 rfl rfl rfl rfl rfl 0 rfl ?_
 refine w_ (a_ (h:=a_ (h:=a_ (h:=e_ (w_ (a_ (h:=e_ (w_ (a_ (h:=e_ (q_ (w_ (a_ (h:=e_ (Am (?_))))))))))))))))
 refine NX 5 9 1 rfl (by repeat constructor) ?_
 refine Ba (fun m t=>∃(f k:Nat) (ps:List AG),k≤s.size+1∧f≤k∧ps.length≤k∧m=s.size+1 - k∧E9 s.data.toList f k (CC ps)∧t=⟨look [(0, .v (.string s)),(5, .sl 1 (ps.map D1) (some 0)),(6, .v (.int .i64 (f:Int))),(7, .v (.int .i64 (k:Int)))],⟨[],[(9,1,ps.map D1)]⟩⟩) (s.size+1) ((wk 0 1)) (⟨0,0,[],by omega,by omega,by simp,rfl,Yt _,rfl⟩) ?_
 rintro m t ⟨f,k,ps,hk,hfk,hpl,rfl,hI,rfl⟩
 refine q_ (w_ (m_ (h:=m_ (h:=n_ (h:=M4 (h:=e_ (?_)))))))
 refine A8 rfl (fun hb1=>?_) (fun hb1=>?_)
 ·have hc1:=bp hb1
  refine AJ (q_ (Am (w_ (m_ (h:=m_ (h:=n_ (h:=AQ (h:=m_ (h:=?_)))))))))
  refine Ay false rfl rfl (fun hb2=>?_) (fun hb2=>?_)
  ·have hc2:=bp hb2
   refine A3 (h:=A3 (h:=A3 (h:=A3 (h:=Af (h:=e_ (Bm (h:=q_ (w_ (m_ (h:=m_ (h:=CW (h:=e_ (?_)))))))))))))
   refine A8 rfl (fun hb3=>?_) (fun hb3=>?_)
   ·have hc3:=bp hb3
    have hnx:=Un hI (by omega) (.inl (by omega)) (by omega)
    refine AP (m_ (h:=m_ (h:=m_ (h:=m_ (h:=?_)))))
    refine A6 rfl (Uk (a:=f) (k:=k) Tryz.underlying9 rfl rfl rfl rfl rfl (by omega) (by omega) ?_)
    refine Bk (h:=?_)
    refine A6 rfl (Dz rfl rfl rfl (by simp;omega) (by repeat constructor) ?_)
    refine a_ (h:=e_ (AP (m_ (h:=B8 (h:=a_ (h:=AO (Ax (t_ (AP (m_ (h:=B8 (h:=a_ (h:=AO (?_))))))))))))))
    refine AF ?_
    refine⟨_,_,?_,⟨_,k+1,_,by omega,by omega,(by(try simp only[List.length_append,List.length_cons,List.length_nil]);omega),rfl,hnx,rfl⟩,(by(try simp only[List.map_append,List.map_cons,List.map_nil]);exact B1 0 1 rfl rfl rfl rfl ((by repeat (first|exact Sub.nil|refine Sub.cons _ _ _ rfl rfl ?_|refine Sub.any _ _ ?_|refine Sub.sl _ _ _ _ _ rfl ?_|refine Sub.slnil _ _ _ rfl ?_))))⟩
    omega
   have hc3:=bp hb3
   have hnx:=Uo hI (.inl (by omega)) (by omega)
   refine AJ (AP (m_ (h:=B8 (h:=a_ (h:=AO (Ax (t_ (AP (m_ (h:=B8 (h:=a_ (h:=AO (?_)))))))))))))
   refine AF ?_
   refine⟨_,_,?_,⟨_,k+1,_,by omega,by omega,(by(try simp only[List.length_append,List.length_cons,List.length_nil]);omega),rfl,hnx,rfl⟩,(by(try simp only[List.map_append,List.map_cons,List.map_nil]);exact B1 0 1 rfl rfl rfl rfl ((by repeat (first|exact Sub.nil|refine Sub.cons _ _ _ rfl rfl ?_|refine Sub.any _ _ ?_|refine Sub.sl _ _ _ _ _ rfl ?_|refine Sub.slnil _ _ _ rfl ?_))))⟩
   omega
  have hc2:=bp hb2
  refine m_ (h:=m_ (h:=?_))
  refine B4 (J4 (n:=k) Tryz.underlying9 rfl rfl rfl (by omega) ?_)
  refine AQ (h:=Ak (h:=e_ (?_)))
  refine A8 rfl (fun hb4=>?_) (fun hb4=>?_)
  ·have hc4:=bp hb4
   refine q_ (w_ (m_ (h:=m_ (h:=CW (h:=e_ (?_))))))
   refine A8 rfl (fun hb5=>?_) (fun hb5=>?_)
   ·have hc5:=bp hb5
    have hnx:=Un hI (by omega) (.inr (Ul (by omega) hc4)) (by omega)
    refine AP (m_ (h:=m_ (h:=m_ (h:=m_ (h:=?_)))))
    refine A6 rfl (Uk (a:=f) (k:=k) Tryz.underlying9 rfl rfl rfl rfl rfl (by omega) (by omega) ?_)
    refine Bk (h:=?_)
    refine A6 rfl (Dz rfl rfl rfl (by simp;omega) (by repeat constructor) ?_)
    refine a_ (h:=e_ (AP (m_ (h:=B8 (h:=a_ (h:=AO (Ax (t_ (AP (m_ (h:=B8 (h:=a_ (h:=AO (?_))))))))))))))
    refine AF ?_
    refine⟨_,_,?_,⟨_,k+1,_,by omega,by omega,(by(try simp only[List.length_append,List.length_cons,List.length_nil]);omega),rfl,hnx,rfl⟩,(by(try simp only[List.map_append,List.map_cons,List.map_nil]);exact B1 0 1 rfl rfl rfl rfl ((by repeat (first|exact Sub.nil|refine Sub.cons _ _ _ rfl rfl ?_|refine Sub.any _ _ ?_|refine Sub.sl _ _ _ _ _ rfl ?_|refine Sub.slnil _ _ _ rfl ?_))))⟩
    omega
   have hc5:=bp hb5
   have hnx:=Uo hI (.inr (Ul (by omega) hc4)) (by omega)
   refine AJ (AP (m_ (h:=B8 (h:=a_ (h:=AO (Ax (t_ (AP (m_ (h:=B8 (h:=a_ (h:=AO (?_)))))))))))))
   refine AF ?_
   refine⟨_,_,?_,⟨_,k+1,_,by omega,by omega,(by(try simp only[List.length_append,List.length_cons,List.length_nil]);omega),rfl,hnx,rfl⟩,(by(try simp only[List.map_append,List.map_cons,List.map_nil]);exact B1 0 1 rfl rfl rfl rfl ((by repeat (first|exact Sub.nil|refine Sub.cons _ _ _ rfl rfl ?_|refine Sub.any _ _ ?_|refine Sub.sl _ _ _ _ _ rfl ?_|refine Sub.slnil _ _ _ rfl ?_))))⟩
   omega
  have hc4:=bp hb4
  have hnx:=bR hI (by omega) hc4
  refine BA (Ax (t_ (AP (m_ (h:=B8 (h:=a_ (h:=AO (?_))))))))
  refine AF ?_
  refine⟨_,_,?_,⟨_,k+1,_,by omega,by omega,(by(try simp only[List.length_append,List.length_cons,List.length_nil]);omega),rfl,hnx,rfl⟩,(by(try simp only[List.map_append,List.map_cons,List.map_nil]);exact B1 0 1 rfl rfl rfl rfl ((by repeat (first|exact Sub.nil|refine Sub.cons _ _ _ rfl rfl ?_|refine Sub.any _ _ ?_|refine Sub.sl _ _ _ _ _ rfl ?_|refine Sub.slnil _ _ _ rfl ?_))))⟩
  omega
 have hc1:=bp hb1
 refine BR (Aq (Aq (BS (t_ (q_ (DU 23 (h:=AN 0 (h:=AN 1 (h:=K7 2 (h:=PZ 3 (h:=AN 4 (h:=?_))))))))))))
 refine H8 (j:=4) rfl (fun hb6=>?_) (fun hb6=>?_)
 ·have hc6:=bp hb6
  refine AN 5 (h:=?_)
  refine EF (i:=6) rfl (J4 (n:=0) Tryz.underlying9 rfl rfl rfl (by omega) ⟨rfl,rfl⟩) ?_
  refine J0 7 (h:=HQ 8 (h:=AN 9 (h:=K7 10 (h:=PZ 11 (h:=AN 12 (h:=?_))))))
  refine H8 (j:=12) rfl (fun hb7=>?_) (fun hb7=>?_)
  ·have hc7:=bp hb7
   refine AN 13 (h:=AN 14 (h:=K7 15 (h:=PY 16 (h:=?_))))
   refine EF (i:=17) rfl (J4 (n:=s.size - 1) Tryz.underlying9 rfl rfl (by omega) (by omega) ⟨rfl,rfl⟩) ?_
   refine J0 18 (h:=HQ 19 (h:=BB 20 (h:=BB 21 (h:=BB 22 (h:=z_ (h:=t_ (A4 (?_))))))))
   refine AB ?_
   refine⟨ps,O8 hI (by omega),?_⟩
   (rw[OO (by omega),OP (by omega)];rfl)
  have hc7:=bp hb7
  refine BE 13 (h:=BE 14 (h:=BE 15 (h:=BE 16 (h:=BE 17 (h:=BE 18 (h:=FW 19 (h:=BB 20 (h:=BB 21 (h:=BB 22 (h:=z_ (h:=t_ (A4 (?_)))))))))))))
  refine AB ?_
  refine⟨ps,O8 hI (by omega),?_⟩
  first|(rw[OO (by omega),OP (by omega)];rfl)|(rw[Qt (by omega),Qu (by omega)];rfl)|(exfalso;omega)
 have hc6:=bp hb6
 refine BE 5 (h:=BE 6 (h:=BE 7 (h:=FW 8 (h:=AN 9 (h:=K7 10 (h:=PZ 11 (h:=AN 12 (h:=?_))))))))
 refine H8 (j:=12) rfl (fun hb8=>?_) (fun hb8=>?_)
 ·have hc8:=bp hb8
  refine AN 13 (h:=AN 14 (h:=K7 15 (h:=PY 16 (h:=?_))))
  refine EF (i:=17) rfl (J4 (n:=s.size - 1) Tryz.underlying9 rfl rfl (by omega) (by omega) ⟨rfl,rfl⟩) ?_
  refine J0 18 (h:=HQ 19 (h:=BB 20 (h:=BB 21 (h:=BB 22 (h:=z_ (h:=t_ (A4 (?_))))))))
  refine AB ?_
  refine⟨ps,O8 hI (by omega),?_⟩
  first|(rw[OO (by omega),OP (by omega)];rfl)|(rw[Qt (by omega),Qu (by omega)];rfl)|(exfalso;omega)
 have hc8:=bp hb8
 refine BE 13 (h:=BE 14 (h:=BE 15 (h:=BE 16 (h:=BE 17 (h:=BE 18 (h:=FW 19 (h:=BB 20 (h:=BB 21 (h:=BB 22 (h:=z_ (h:=t_ (A4 (?_)))))))))))))
 refine AB ?_
 refine⟨ps,O8 hI (by omega),?_⟩
 first|(rw[OO (by omega),OP (by omega)];rfl)|(rw[Qt (by omega),Qu (by omega)];rfl)
theorem Uq(s:AG)(hs:s.size≤50000):AFn Tryz.prog 55 [.v (.string s)] (fun r=>r= .v (.bool (Dp s.data.toList))):=by
 have hsz:=Lib.size_eq s
 refine enter Tryz.func55 rfl rfl rfl rfl rfl 0 rfl ?_
 refine w_ (a_ (h:=e_ (w_ (m_ (h:=?_)))))
 refine A6 rfl (AK (Qw s (by omega)) ?_)
 rintro r ⟨ps,hps,rfl⟩
 have hpl:(ps.map D1).length=ps.length:=by simp
 have hfl:=QD s.data.toList
 rw[←hps]at hfl
 have hpm:=Up ps
 refine m_ (h:=x_ (h:=x_ (h:=x_ (h:=a_ (h:=a_ (h:=a_ (h:=e_ (w_ (a_ (h:=e_ (q_ (w_ (a_ (h:=e_ (Am (?_))))))))))))))))
 refine Ba (fun m t=>∃(j:Nat) (t1:AG),j≤ps.length∧m=ps.length - j∧(∀i y,i<j→ps[i]?=some y→DV y=true)∧t1.data.toList=DD ((CC ps).take j)∧t=⟨look [(0, .v (.string s)),(3, .sl 1 (ps.map D1) none),(6, .v (.string t1)),(7, .v (.int .i64 (j:Int)))],⟨[],[]⟩⟩) (ps.length) ((wk 0 0)) (⟨0,⟨#[]⟩,by omega,rfl,fun i y hi=>by omega,rfl,rfl⟩) ?_
 rintro m t ⟨j,t1,hj,rfl,ha,ht1,rfl⟩
 refine q_ (w_ (m_ (h:=m_ (h:=n_ (h:=BG (h:=e_ (?_)))))))
 refine A8 rfl (fun hb1=>?_) (fun hb1=>?_)
 ·have hc1:=bp hb1
  obtain⟨hlt,x,hy,hrow, -⟩:=CZ D1 hc1
  have ht2:t1.size≤s.size+1:=by rw[Lib.size_eq,ht1];exact Nat.le_trans (Z3 _ _) (by omega)
  refine AJ (q_ (Am (q_ (w_ (m_ (h:=m_ (h:=?_)))))))
  refine A6 rfl (CF (n:=j) rfl rfl rfl hrow ?_)
  refine l_ (h:=?_)
  refine A6 rfl (AK (Pd x (by have:=Qv hps hy;omega)) ?_)
  rintro r rfl
  refine BC (h:=e_ (?_))
  refine A8 rfl (fun hb2=>?_) (fun hb2=>?_)
  ·have hc2:=bp hb2
   refine w_ (a_ (h:=e_ (A4 (A7 (AR (A7 (A7 (AR (A7 (?_))))))))))
   refine AB ?_
   exact vb (bT hps hy hc2).symm
  have hc2:=bp hb2
  refine AJ (AP (m_ (h:=m_ (h:=m_ (h:=?_)))))
  refine A6 rfl (CF (n:=j) rfl rfl rfl hrow ?_)
  refine l_ (h:=?_)
  refine A6 rfl (Em rfl rfl (by have:=Qv hps hy;show 1+x.size≤_;omega) ?_)
  refine A6 rfl (Em rfl rfl (by have:=Qv hps hy;rw[ByteArray.size_append];show t1.size+(1+x.size)≤_;omega) ?_)
  refine a_ (h:=AO (Ax (t_ (AP (m_ (h:=B8 (h:=a_ (h:=AO (?_)))))))))
  refine AF ?_
  refine⟨_,_,?_,⟨j+1,t1++(⟨#[47]⟩++x),by omega,rfl,E1 hy ha hc2,bS hy ht1,rfl⟩,(wk 0 0)⟩
  omega
 have hc1:=bp hb1
 refine BR (Aq (Aq (BS (t_ (w_ (m_ (h:=AQ (h:=m_ (h:=?_)))))))))
 refine Ay false rfl rfl (fun hb3=>?_) (fun hb3=>?_)
 ·have hc3:=bp hb3
  refine A3 (h:=A3 (h:=A3 (h:=A3 (h:=Db (h:=Db (h:=Db (h:=A3 (h:=Af (h:=a_ (h:=e_ (A4 (?_))))))))))))
  refine AB ?_
  exact vb (by rw[hc3];rfl)
 have hc3:=bp hb3
 refine m_ (h:=n_ (h:=CW (h:=m_ (h:=?_))))
 refine Ay true rfl rfl (fun hb4=>?_) (fun hb4=>?_)
 ·have hc4:=bp hb4
  refine m_ (h:=m_ (h:=AQ (h:=Af (h:=Ak (h:=a_ (h:=e_ (A4 (?_))))))))
  refine AB ?_
  have e:=Ck D1 hj hc1
  subst e
  exact vb (bU hps ha ht1 hc3 (by omega)).symm
 have hc4:=bp hb4
 refine A3 (h:=A3 (h:=A3 (h:=Ak (h:=Ak (h:=a_ (h:=e_ (A4 (?_))))))))
 refine AB ?_
 have e:=Ck D1 hj hc1
 subst e
 exact vb (bV hps hc3 (by omega)).symm
end
theorem Ur{f:AZ}{a:A9}(h:AY f a=true):(Aa f a).ino=a.2:=by
 obtain⟨q,d,m,_,_,_,h4,h5,_⟩:=Jh (f:=f) (a:=a) (by rw[h];simp)
 rw[h5,h4]
theorem Qx{s:Spc}{d:Int}(h:(Bf s d).isSome=true):Bf s d=some ((Bf s d).getD (0,0)):=by
 cases ho:Bf s d with
 |none=>rw[ho]at h;cases h
 |some o=>rfl
theorem bW{s:Spc}{d:Int}(h:(Bf s d).isSome=false):Bf s d=none:=by
 cases ho:Bf s d with
 |none=>rfl
 |some o=>rw[ho]at h;cases h
theorem OQ{s:Spc}{a:A9}(k:Nat)(h:AY s.files a=false):De s (k+1) a=(0,0):=by unfold De;rw[h];rfl
theorem Us{s:Spc}{a:A9}(k:Nat)(h:AY s.files a=true)(h1:¬a.2=1):De s (k+1) a=(a.1,(Aa s.files a).parent):=by unfold De;rw[if_pos h,if_pos h1]
theorem Ut{s:Spc}{a:A9}(k:Nat)(h:AY s.files a=true)(h1:a.2=1)(ho:(Bf s a.1).isSome=true):De s (k+1) a=De s k ((Bf s a.1).getD (0,0)):=by
 conv=>lhs;unfold De
 rw[if_pos h,if_neg (by simpa using h1),Qx ho]
 rfl
theorem Uu{s:Spc}{a:A9}(k:Nat)(h:AY s.files a=true)(h1:a.2=1)(ho:(Bf s a.1).isSome=false):De s (k+1) a=a:=by
 conv=>lhs;unfold De
 rw[if_pos h,if_neg (by simpa using h1),bW ho]
section
theorem Uv{s:Spc}(hs:SpcB s)(hv:SpcV s)(a:A9)
    (hrec:AY s.files a=true→∀b,Cd s a=some b→AFn Tryz.prog 102 [.agg (Ah s), .agg (AA b)] (fun r=>r= .tup [.v (.string (Bg s b).1), .v (.bool (Bg s b).2)])):
    AFn Tryz.prog 102 [.agg (Ah s), .agg (AA a)] (fun r=>r= .tup [.v (.string (Bg s a).1), .v (.bool (Bg s a).2)]):=by
 have hnm:=Ql hv.files a
 have hwz:=Qs hv
 refine enter Tryz.func102 rfl rfl rfl rfl rfl 0 rfl ?_
 refine w_ (b_ (h:=b_ (h:=a_ (h:=a_ (h:=e_ (q_ (w_ (f_ (h:=l_ (h:=l_ (h:=?_)))))))))))
 refine A6 rfl (AK (Gl s.files a hs.files) ?_)
 rintro r rfl
 refine BC (h:=m_ (h:=?_))
 refine Ay false rfl rfl (fun hb1=>?_) (fun hb1=>?_)
 ·have hc1:=bp hb1
  refine A3 (h:=A3 (h:=A3 (h:=A3 (h:=A3 (h:=Af (h:=e_ (Bm (h:=w_ (a_ (h:=a_ (h:=e_ (A4 (A7 (?_))))))))))))))
  refine AB ?_
  (rw[LA hv (by simp_all)];rfl)
 have hc1:=bp hb1
 refine l_ (h:=f_ (h:=l_ (h:=?_)))
 refine B4 (AK (M6 s a.1 hs) ?_)
 rintro r rfl
 refine BC (h:=Ak (h:=e_ (?_)))
 refine A8 rfl (fun hb2=>?_) (fun hb2=>?_)
 ·have hc2:=bp hb2
  refine w_ (a_ (h:=a_ (h:=e_ (A4 (A7 (?_))))))
  refine AB ?_
  (rw[LA hv (by simp_all)];rfl)
 have hc2:=bp hb2
 refine AJ (q_ (w_ (f_ (h:=l_ (h:=AQ (h:=e_ (?_)))))))
 refine A8 rfl (fun hb3=>?_) (fun hb3=>?_)
 ·have hc3:=bp hb3
  refine q_ (w_ (l_ (h:=f_ (h:=l_ (h:=?_)))))
  refine A6 rfl (AK (Nv s a.1 hs) ?_)
  rintro r rfl
  refine m_ (h:=x_ (h:=x_ (h:=AW (h:=s_ (h:=a_ (h:=e_ (w_ (m_ (h:=e_ (?_))))))))))
  refine A8 rfl (fun hb4=>?_) (fun hb4=>?_)
  ·have hc4:=bp hb4
   have hst:Cd s a=some ((Bf s a.1).getD (0,0)):=by unfold Cd;rw[if_neg (by simpa using hc3)];exact Qx hc4
   obtain⟨hw1,hw2⟩:=Uc hv hc1 hc2 (fun e=>by rw[e,Qr hv]at hc4;cases hc4) hst
   rw[if_pos hc3]at hw1
   refine w_ (l_ (h:=l_ (h:=?_)))
   refine A6 rfl (AK (hrec hc1 _ hst) ?_)
   rintro r rfl
   skip
   refine x_ (h:=x_ (h:=a_ (h:=a_ (h:=e_ (A4 (A7 (A7 (?_))))))))
   refine AB ?_
   first|(rw[LA hv (by simp_all)];rfl)|(rw[hw1];first|rfl|(rw[←hw2];rfl))
  have hc4:=bp hb4
  have h00:a=(0,1):=by
   refine Prod.ext ?_ hc3
   have:=hc2
   unfold By at this
   rw[hc4,Bool.false_or]at this
   exact of_decide_eq_true this
  refine AJ (w_ (a_ (h:=a_ (h:=e_ (A4 (A7 (?_)))))))
  refine AB ?_
  first|(rw[LA hv (by simp_all)];rfl)|(rw[hw1];first|rfl|(rw[←hw2];rfl))|(rw[h00,bD hv (by rw[←h00];exact hc1)];rfl)
 have hc3:=bp hb3
 have hst:Cd s a=some (a.1,(Aa s.files a).parent):=if_pos hc3
 obtain⟨hw1,hw2⟩:=Uc hv hc1 hc2 (fun e=>hc3 (by rw[e])) hst
 rw[if_neg hc3]at hw1
 refine AJ (w_ (f_ (h:=l_ (h:=l_ (h:=?_)))))
 refine A6 rfl (AK (Dn s.files a hs.files) ?_)
 rintro r rfl
 refine m_ (h:=x_ (h:=x_ (h:=AW (h:=s_ (h:=a_ (h:=e_ (w_ (l_ (h:=f_ (h:=l_ (h:=f_ (h:=l_ (h:=AT (h:=?_))))))))))))))
 refine A6 rfl (AK (hrec hc1 _ hst) ?_)
 rintro r rfl
 skip
 refine m_ (h:=x_ (h:=x_ (h:=a_ (h:=a_ (h:=e_ (w_ (m_ (h:=f_ (h:=l_ (h:=l_ (h:=?_)))))))))))
 refine A6 rfl (AK (bQ s a hs) ?_)
 rintro r rfl
 refine A6 rfl (AK (Uj (Bg s (a.1,(Aa s.files a).parent)).1 (C7 s a) (by have:=hwz (a.1,(Aa s.files a).parent);omega) (by omega)) ?_)
 rintro r rfl
 refine m_ (h:=a_ (h:=a_ (h:=e_ (A4 (?_)))))
 refine AB ?_
 first|(rw[LA hv (by simp_all)];rfl)|(rw[hw1];first|rfl|(rw[←hw2];rfl))
theorem bY{s:Spc}(hs:SpcB s)(hv:SpcV s)(a:A9):AFn Tryz.prog 102 [.agg (Ah s), .agg (AA a)] (fun r=>r= .tup [.v (.string (Bg s a).1), .v (.bool (Bg s a).2)]):=by
 have key:∀(k:Nat) (a:A9),ends s k a→AFn Tryz.prog 102 [.agg (Ah s), .agg (AA a)] (fun r=>r= .tup [.v (.string (Bg s a).1), .v (.bool (Bg s a).2)]):=by
  intro k
  induction k with
  |zero=>intro a h;exact Uv hs hv a fun hd=>by rw[show AY s.files a=false from h]at hd;cases hd
  |succ k ih=>intro a h;exact Uv hs hv a fun hd b hb=>ih b (h.resolve_left (by rw[hd];simp) b hb)
 exact key _ a (Gt hv a)
theorem bZ{s:Spc}(hs:SpcB s)(a:A9)(p:Nat)(hrec:(Bf s a.1).isSome=true→AFn Tryz.prog 101 [.agg (Ah s), .agg (AA ((Bf s a.1).getD (0,0)))] (fun r=>r= .agg (AA (De s p ((Bf s a.1).getD (0,0)))))):
    AFn Tryz.prog 101 [.agg (Ah s), .agg (AA a)] (fun r=>r= .agg (AA (De s (p+1) a))):=by
 have hde:=Fv s.files a
 refine enter Tryz.func101 rfl rfl rfl rfl rfl 0 rfl ?_
 refine w_ (b_ (h:=b_ (h:=AW (h:=e_ (w_ (f_ (h:=l_ (h:=l_ (h:=?_)))))))))
 refine A6 rfl (AK (Dn s.files a hs.files) ?_)
 rintro r rfl
 refine m_ (h:=x_ (h:=x_ (h:=AW (h:=s_ (h:=a_ (h:=e_ (q_ (w_ (m_ (h:=BC (h:=m_ (h:=?_))))))))))))
 refine Ay false rfl rfl (fun hb1=>?_) (fun hb1=>?_)
 ·have hc1:=bp hb1
  refine A3 (h:=A3 (h:=A3 (h:=Af (h:=e_ (Bm (h:=w_ (AT (h:=s_ (h:=e_ (A4 (A7 (?_))))))))))))
  refine AB ?_
  rw[OQ p (by rw[hde,hc1];rfl)]
  rfl
 have hc1:=bp hb1
 refine f_ (h:=l_ (h:=BK (h:=Ak (h:=e_ (?_)))))
 refine A8 rfl (fun hb2=>?_) (fun hb2=>?_)
 ·have hc2:=bp hb2
  refine w_ (AT (h:=s_ (h:=e_ (A4 (A7 (?_))))))
  refine AB ?_
  rw[OQ p (by rw[hde,decide_eq_false hc2,Bool.and_false])]
  rfl
 have hc2:=bp hb2
 refine AJ (q_ (w_ (f_ (h:=l_ (h:=BK (h:=e_ (?_)))))))
 refine A8 rfl (fun hb3=>?_) (fun hb3=>?_)
 ·have hc3:=bp hb3
  refine w_ (f_ (h:=l_ (h:=f_ (h:=l_ (h:=AT (h:=s_ (h:=e_ (A4 (A7 (?_))))))))))
  refine AB ?_
  rw[Us p (by rw[hde,hc1,decide_eq_true hc2];rfl) hc3]
  rfl
 have hc3:=bp hb3
 refine AJ (q_ (w_ (l_ (h:=f_ (h:=l_ (h:=?_))))))
 refine A6 rfl (AK (Nv s a.1 hs) ?_)
 rintro r rfl
 refine m_ (h:=x_ (h:=x_ (h:=AW (h:=s_ (h:=a_ (h:=e_ (w_ (m_ (h:=e_ (?_))))))))))
 refine A8 rfl (fun hb4=>?_) (fun hb4=>?_)
 ·have hc4:=bp hb4
  refine w_ (l_ (h:=l_ (h:=?_)))
  refine A6 rfl (AK (hrec hc4) ?_)
  rintro r rfl
  refine s_ (h:=e_ (A4 (A7 (?_))))
  refine AB ?_
  rw[Ut p (by rw[hde,hc1,decide_eq_true hc2];rfl) hc3 hc4]
  rfl
 have hc4:=bp hb4
 refine AJ (w_ (l_ (h:=s_ (h:=e_ (A4 (?_))))))
 refine AB ?_
 rw[Uu p (by rw[hde,hc1,decide_eq_true hc2];rfl) hc3 hc4]
 rfl
theorem cA{s:Spc}(hs:SpcB s)(hv:SpcV s):∀(p:Nat) (a:A9),Ji s a.1<p→AFn Tryz.prog 101 [.agg (Ah s), .agg (AA a)] (fun r=>r= .agg (AA (De s p a))):=by
 intro p
 induction p with
 |zero=>intro a h;omega
 |succ p ih=>intro a hp;exact bZ hs a p fun ho=>ih _ (by have:=UK hv (Qx ho);omega)
theorem cB{s:Spc}(hs:SpcB s)(hv:SpcV s)(a:A9):AFn Tryz.prog 135 [.agg (Ah s), .agg (AA a)] (fun r=>r= .agg (AA (De s (s.mounts.length+1) a))):=by
 have hfew:=hs.few
 have hml:(s.mounts.map Cp).length=s.mounts.length:=by simp
 refine enter Tryz.func135 rfl rfl rfl rfl rfl 0 rfl ?_
 refine w_ (b_ (h:=b_ (h:=AW (h:=e_ (q_ (w_ (f_ (h:=l_ (h:=n_ (h:=B8 (h:=m_ (h:=e_ (Am (?_))))))))))))))
 refine Ba (fun m t=>∃(j:Nat) (b:A9),j≤s.mounts.length+1∧m=s.mounts.length+1 - j∧De s (s.mounts.length+1 - j) b=De s (s.mounts.length+1) a∧t=⟨look [(2, .bp 0 0),(3, .bp 1 0),(4, .bp 2 0),(11, .v (.int .i64 (((s.mounts.map Cp).length:Int)+1))),(12, .v (.int .i64 (j:Int)))],⟨[Ah s,AA b,[.v (.int .i64 0), .v (.int .i64 0)]],[]⟩⟩) (s.mounts.length+1) ((wk 3 0)) (⟨0,a,by omega,rfl,rfl,rfl⟩) ?_
 rintro m t ⟨j,b,hj,rfl,hit,rfl⟩
 have hde:=Fv s.files b
 refine w_ (BG (h:=e_ (q_ (?_))))
 refine A8 rfl (fun hb1=>?_) (fun hb1=>?_)
 ·have hc1:=bp hb1
  obtain⟨k,hk⟩:∃k,s.mounts.length+1 - j=k+1:=⟨s.mounts.length - j,by omega⟩
  rw[hk]at hit
  refine AJ (q_ (Am (w_ (f_ (h:=l_ (h:=l_ (h:=?_)))))))
  refine A6 rfl (AK (Hb s.files b hs.files) ?_)
  rintro r rfl
  refine m_ (h:=x_ (h:=x_ (h:=AW (h:=s_ (h:=a_ (h:=e_ (q_ (w_ (m_ (h:=BC (h:=m_ (h:=?_))))))))))))
  refine Ay false rfl rfl (fun hb2=>?_) (fun hb2=>?_)
  ·have hc2:=bp hb2
   refine A3 (h:=A3 (h:=A3 (h:=Af (h:=e_ (Bm (h:=w_ (AT (h:=s_ (h:=e_ (A4 (A7 (AR (A7 (A7 (AR (A7 (?_)))))))))))))))))
   refine AB ?_
   rw[←hit,OQ k (by rw[hde,hc2];rfl)]
   rfl
  have hc2:=bp hb2
  refine f_ (h:=l_ (h:=BK (h:=Ak (h:=e_ (?_)))))
  refine A8 rfl (fun hb3=>?_) (fun hb3=>?_)
  ·have hc3:=bp hb3
   refine w_ (AT (h:=s_ (h:=e_ (A4 (A7 (AR (A7 (A7 (AR (A7 (?_)))))))))))
   refine AB ?_
   rw[←hit,OQ k (by rw[hde,decide_eq_false hc3,Bool.and_false])]
   rfl
  have hc3:=bp hb3
  refine AJ (q_ (w_ (f_ (h:=l_ (h:=BK (h:=e_ (?_)))))))
  refine A8 rfl (fun hb4=>?_) (fun hb4=>?_)
  ·have hc4:=bp hb4
   have hdd:AY s.files b=true:=by rw[hde,hc2,decide_eq_true hc3];rfl
   have hb1:¬b.2=1:=by rw[←Ur hdd];exact hc4
   refine w_ (f_ (h:=l_ (h:=f_ (h:=l_ (h:=AT (h:=s_ (h:=e_ (A4 (A7 (AR (A7 (A7 (AR (A7 (?_)))))))))))))))
   refine AB ?_
   rw[←hit,Us k hdd hb1]
   rfl
  have hc4:=bp hb4
  have hdd:AY s.files b=true:=by rw[hde,hc2,decide_eq_true hc3];rfl
  have hb1:b.2=1:=by rw[←Ur hdd];exact hc4
  refine AJ (w_ (l_ (h:=f_ (h:=l_ (h:=?_)))))
  refine A6 rfl (AK (Ph s b.1 hs) ?_)
  rintro r rfl
  refine m_ (h:=x_ (h:=x_ (h:=AW (h:=s_ (h:=a_ (h:=e_ (q_ (w_ (m_ (h:=BC (h:=m_ (h:=?_))))))))))))
  refine Ay false rfl rfl (fun hb5=>?_) (fun hb5=>?_)
  ·have hc5:=bp hb5
   refine A3 (h:=A3 (h:=A3 (h:=Af (h:=e_ (Bm (h:=w_ (l_ (h:=s_ (h:=e_ (A4 (A7 (AR (A7 (A7 (AR (A7 (?_)))))))))))))))))
   refine AB ?_
   rw[←hit,Uu k hdd hb1 hc5]
   rfl
  have hc5:=bp hb5
  refine f_ (h:=l_ (h:=AQ (h:=Ak (h:=e_ (?_)))))
  refine A8 rfl (fun hb6=>?_) (fun hb6=>?_)
  ·have hc6:=bp hb6
   refine w_ (l_ (h:=s_ (h:=e_ (A4 (A7 (AR (A7 (A7 (AR (A7 (?_)))))))))))
   refine AB ?_
   exfalso
   rw[hc6,Qr hv]at hc5
   cases hc5
  have hc6:=bp hb6
  refine AJ (AP (l_ (h:=s_ (h:=AO (Ax (t_ (AP (B8 (h:=m_ (h:=AO (?_)))))))))))
  refine AF ?_
  refine⟨_,_,?_,⟨j+1,((Bf s b.1).getD (0,0)),by omega,rfl,(by rw[←hit,Ut k hdd hb1 hc5,show s.mounts.length+1 - (j+1)=k by omega]),rfl⟩,(wk 3 0)⟩
  omega
 have hc1:=bp hb1
 refine BR (Aq (Aq (BS (t_ (w_ (l_ (h:=s_ (h:=e_ (A4 (?_))))))))))
 refine AB ?_
 have ej:s.mounts.length+1 - j=0:=by omega
 rw[ej]at hit
 rw[←hit]
 rfl
end
end Go.Proofs.YtbglbmnhgbgelaaGreatDoor
namespace Go.Proofs.YtbglbmnhgbgelaaGreatDoor
section
variable {s:Spc}(hv:SpcV s)
include hv
omit hv in
theorem Qy{a:A9}(h:(Bg s a).2=true):AY s.files a=true∧By s a.1=true:=by
 unfold Bg at h
 split at h
 ·rename_i c;exact⟨c.1,c.2.1⟩
 cases h
theorem Uw{d:Int}(h0:0≤d)(h1:d<(s.files.length:Int)):AY s.files (d,1)=true:=by
 obtain⟨q,rfl⟩:=Int.eq_ofNat_of_zero_le h0
 have hq:s.files[q]?=some s.files[q]:=B3 (by omega)
 obtain⟨r,rest,hr,h2,h3,_⟩:=(hv.files.vd _ (Au hq)).root
 exact(KQ (Qp hv hq (by rw[hr];exact List.mem_cons_self ..) h2)).2 h3
end
end Go.Proofs.YtbglbmnhgbgelaaGreatDoor
namespace Go.Proofs.YtbglbmnhgbgelaaGreatDoor
structure Fnd where
 dir:A9
 name:AG
 file:A9
 ex:Bool
 slash:Bool
 path:AG
def DO:Fnd:=⟨(0,0),⟨#[]⟩,(0,0),false,false,⟨#[]⟩⟩
def Al(x:Fnd):List AV:=[.v (.int .i64 x.dir.1), .v (.int .i64 x.dir.2), .v (.string x.name), .v (.int .i64 x.file.1), .v (.int .i64 x.file.2), .v (.bool x.ex), .v (.bool x.slash), .v (.string x.path)]
def Cm(s:AG):List AG:=(Bq s.data.toList).map fun l=>⟨l.toArray⟩
theorem Ux(s:AG):CC (Cm s)=Bq s.data.toList:=by
 unfold CC Cm
 rw[List.map_map]
 have:((fun x:AG=>x.data.toList) ∘ fun l:Bs=>(⟨l.toArray⟩:AG))=id:=by funext l;simp
 rw[this,List.map_id]
theorem Uy:∀{a b:List AG},CC a=CC b→a=b
 |[],[],_=>rfl
 |[],_::_,h=>by simp[CC]at h
 |_::_,[],h=>by simp[CC]at h
 |x::a,y::b,h=>by
   simp only[CC,List.map_cons,List.cons.injEq]at h
   rw[Mp h.1,Uy (a:=a) (b:=b) h.2]
theorem Qz{s:AG}{ps:List AG}(h:CC ps=Bq s.data.toList):ps=Cm s:=Uy (h.trans (Ux s).symm)
theorem LC(s:AG):(Cm s).length≤s.size+1:=by
 have h1:=Up (Cm s)
 have h2:=QD s.data.toList
 rw[←Ux]at h2
 rw[Lib.size_eq]
 omega
def Dt(s:Spc):A9:=Cq s s.mounts.length (0,1)
structure Lk where
 ps:List AG
 dir:A9
 name:AG
 file:A9
 ex:Bool
 links:Nat
abbrev OR:AG:=⟨#[46]⟩
abbrev Mq:AG:=⟨#[46,46]⟩
def Ce(s:Spc)(fl:Bool)(p:AG)(ps:List AG)(a:A9)(lk:Nat):Int ⊕ Lk:=
 if AY s.files a=false then .inl 20
 else if 12<p.size then .inl 36
 else if p=OR then .inr ⟨ps,a,⟨#[]⟩,a,true,lk⟩
 else if p=Mq then .inr ⟨ps,Cq s s.mounts.length (De s (s.mounts.length+1) a),⟨#[]⟩,Cq s s.mounts.length (De s (s.mounts.length+1) a),true,lk⟩
 else if(AM s.files a p).2≠0 then(if ps≠[]∨DV p=false then .inl 2 else .inr ⟨[],a,p,(0,0),false,lk⟩)
 else if(Aa s.files (AM s.files a p).1).kind=3∧(ps≠[]∨fl=true)then
  (if lk=8 then .inl 40 else
    .inr ⟨Cm (Aa s.files (AM s.files a p).1).target++ps,if D8 (Aa s.files (AM s.files a p).1).target=true then Dt s else a,⟨#[]⟩,if D8 (Aa s.files (AM s.files a p).1).target=true then Dt s else a,true,lk+1⟩)
 else .inr ⟨ps,a,p,Cq s s.mounts.length (AM s.files a p).1,true,lk⟩
def OS:Lk:=⟨[],(0,0),⟨#[]⟩,(0,0),false,0⟩
def Gv(s:Spc)(fl:Bool):Nat→Lk→Int×Lk
 |0,σ=>(0,σ)
 |k+1,σ=>match σ.ps with
   |[]=>(0,σ)
   |p::ps=>match Ce s fl p ps σ.file σ.links with
     | .inl e=>(e,OS)
     | .inr τ=>Gv s fl k τ
def Ee(σ:Lk):Nat:=(8 - σ.links) * 200+σ.ps.length
section
variable {s:Spc}(hv:FlsV s.files)
include hv
theorem R4{fl:Bool}{p:AG}{ps:List AG}{a:A9}{lk:Nat}{τ:Lk}(h8:lk≤8)(h:Ce s fl p ps a lk= .inr τ):τ.links≤8∧Ee τ<(8 - lk) * 200+(ps.length+1):=by
 unfold Ce at h
 split at h
 ·cases h
 split at h
 ·cases h
 split at h
 ·injection h with h;subst h;exact⟨h8,by unfold Ee;simp only;omega⟩
 split at h
 ·injection h with h;subst h;exact⟨h8,by unfold Ee;simp only;omega⟩
 split at h
 ·split at h
  ·cases h
  injection h with h;subst h;exact⟨h8,by unfold Ee;simp only[List.length_nil];omega⟩
 split at h
 ·split at h
  ·cases h
  rename_i h9
  injection h with h
  subst h
  have ht:=Mh hv (AM s.files a p).1
  have hl:=LC (Aa s.files (AM s.files a p).1).target
  refine⟨by simp only;omega,?_⟩
  unfold Ee
  simp only[List.length_append]
  have:(8 - lk) * 200=(8 - (lk+1)) * 200+200:=by
   rw[show 8 - lk=(8 - (lk+1))+1 by omega,Nat.add_mul]
  omega
 injection h with h;subst h;exact⟨h8,by unfold Ee;simp only;omega⟩
theorem cC(fl:Bool):∀(k k':Nat) (σ:Lk),σ.links≤8→Ee σ≤k→Ee σ≤k'→Gv s fl k σ=Gv s fl k' σ:=by
 intro k
 induction k with
 |zero=>
   intro k' σ h8 h h'
   have he:σ.ps=[]:=by
    unfold Ee at h
    exact List.eq_nil_of_length_eq_zero (by omega)
   cases k' with
   |zero=>rfl
   |succ k'=>unfold Gv;rw[he]
 |succ k ih=>
   intro k' σ h8 h h'
   cases hps:σ.ps with
   |nil=>cases k'<;>(unfold Gv;rw[hps])
   |cons p ps=>
     have hm:Ee σ=(8 - σ.links) * 200+(ps.length+1):=by unfold Ee;rw[hps];rfl
     cases k' with
     |zero=>rw[hm]at h';omega
     |succ k'=>
       unfold Gv
       rw[hps]
       simp only
       cases hs:Ce s fl p ps σ.file σ.links with
       |inl e=>rfl
       |inr τ=>
         simp only
         obtain⟨h1,h2⟩:=R4 hv h8 hs
         exact ih k' τ h1 (by omega) (by omega)
end
def Du(s:Spc)(fl:Bool)(σ:Lk):Int×Lk:=Gv s fl (Ee σ) σ
theorem R5{s:Spc}{fl:Bool}{σ:Lk}(h:σ.ps=[]):Du s fl σ=(0,σ):=by
 unfold Du
 cases Ee σ with
 |zero=>rfl
 |succ k=>unfold Gv;rw[h]
theorem Uz{s:Spc}(hv:FlsV s.files){fl:Bool}{σ:Lk}{p:AG}{ps:List AG}(h8:σ.links≤8)(h:σ.ps=p::ps):Du s fl σ=match Ce s fl p ps σ.file σ.links with
    | .inl e=>(e,OS)
    | .inr τ=>Du s fl τ:=by
 have hm:Ee σ=((8 - σ.links) * 200+ps.length)+1:=by unfold Ee;rw[h];rfl
 unfold Du
 rw[hm]
 conv=>lhs;unfold Gv
 rw[h]
 simp only
 cases hs:Ce s fl p ps σ.file σ.links with
 |inl e=>rfl
 |inr τ=>
   simp only
   obtain⟨h1,h2⟩:=R4 hv h8 hs
   exact cC hv fl _ _ τ h1 (by omega) (Nat.le_refl _)
def Gw(s:Spc)(sl:Bool)(τ:Lk):Fnd:=⟨τ.dir,τ.name,τ.file,τ.ex,sl,if(Bg s τ.dir).2=true then(if τ.name=⟨#[]⟩then(Bg s τ.dir).1 else DE (Bg s τ.dir).1 τ.name)else⟨#[]⟩⟩
def G6(ps:List AG)(a:A9):Lk:=⟨ps,a,⟨#[]⟩,a,true,0⟩
def Bi(s:Spc)(start:A9)(p:AG)(fl:Bool):Fnd×Int:=
 if p=⟨#[]⟩then(DO,2)else if 128<p.size then(DO,36)
 else if AY s.files (if D8 p=true then Dt s else start)=false then(DO,2)
 else if(Du s (fl||BJ p) (G6 (Cm p) (if D8 p=true then Dt s else start))).1≠0 then(DO,(Du s (fl||BJ p) (G6 (Cm p) (if D8 p=true then Dt s else start))).1)
 else if BJ p=true∧(Du s (fl||BJ p) (G6 (Cm p) (if D8 p=true then Dt s else start))).2.ex=true∧AY s.files (Du s (fl||BJ p) (G6 (Cm p) (if D8 p=true then Dt s else start))).2.file=false then(DO,20)
 else(Gw s (BJ p) (Du s (fl||BJ p) (G6 (Cm p) (if D8 p=true then Dt s else start))).2,0)
end Go.Proofs.YtbglbmnhgbgelaaGreatDoor
namespace Go.Proofs.YtbglbmnhgbgelaaGreatDoor
open Go.RowKit
structure Dsc where
 fd:Int
 file:A9
 flags:Int
structure Prc where
 pid:Int
 ppid:Int
 uid:Int
 euid:Int
 gid:Int
 egid:Int
 auid:Int
 ses:Int
 cwd:A9
 comm:AG
 exe:AG
 opens:List Dsc
 audited:Bool
structure Tab where
 next:Int
 nextS:Int
 ps:List Prc
structure Syst where
 spc:Spc
 tab:Tab
structure Cal where
 num:Int
 a0:Int
 a1:Int
 a2:Int
 a3:Int
 paths:List AG
 args:List AG
structure Res where
 exit:Int
 child:Int
 gone:Int
 items:List Itm
 changes:List Dm
structure Wrk where
 s:Syst
 p:Prc
 c:Cal
 found:List Fnd
 r:Res
def R6:Prc:=⟨0,0,0,0,0,0,0,0,(0,0),⟨#[]⟩,⟨#[]⟩,[],false⟩
def DH:Tab:=⟨0,0,[]⟩
def DX:Res:=⟨0,0,0,[],[]⟩
def LD(cwd:A9):Tab:=⟨2,1,[⟨1,0,0,0,0,0,4294967295,4294967295,cwd,⟨#[105,110,105,116]⟩,⟨#[47,105,110,105,116]⟩,[],true⟩]⟩
def LE(t:Tab)(pid:Int):Option Prc:=t.ps.find? fun p=>decide (p.pid=pid)
def C1(t:Tab)(pid:Int):Bool:=(LE t pid).isSome
def AU(t:Tab)(pid:Int):Prc:=(LE t pid).getD R6
def FM(t:Tab)(p:Prc):Tab:=⟨t.next,t.nextS,t.ps.map fun x=>if x.pid=p.pid then p else x⟩
def Ef(t:Tab)(pid:Int):Tab×Int×Int:=
 if C1 t pid=false then(DH,0,3)else if 16≤(t.ps.length:Int)∨t.next=1073741824 then(DH,0,11)
 else(⟨t.next+1,t.nextS,t.ps++[{AU t pid with pid:=t.next,ppid:=pid}]⟩,t.next,0)
def Fc(pid:Int)(p:Prc):Prc:=if p.ppid=pid then{p with ppid:=1}else p
def Fd(t:Tab)(pid:Int):Tab×Int:=
 if C1 t pid=false then(DH,3)else if pid=1 then(DH,1)
 else(⟨t.next,t.nextS,(t.ps.filter fun p=>decide (p.pid≠pid)).map (Fc pid)⟩,0)
def Dv(priv:Bool)(real eff n:Int):Int×Int×Int:=if priv=true then(n,n,0)else if n=real∨n=eff then(real,n,0)else(0,0,1)
def GT(n:Int):Bool:=decide (0≤n)&&decide (n<4294967295)
def Fe(t:Tab)(pid u:Int):Tab×Int:=
 if C1 t pid=false then(DH,3)else if GT u=false then(DH,22)
 else if(Dv (decide ((AU t pid).euid=0)) (AU t pid).uid (AU t pid).euid u).2.2≠0 then(DH,(Dv (decide ((AU t pid).euid=0)) (AU t pid).uid (AU t pid).euid u).2.2)
 else(FM t {AU t pid with uid:=(Dv (decide ((AU t pid).euid=0)) (AU t pid).uid (AU t pid).euid u).1,euid:=(Dv (decide ((AU t pid).euid=0)) (AU t pid).uid (AU t pid).euid u).2.1},0)
def Ff(t:Tab)(pid u:Int):Tab×Int:=
 if C1 t pid=false then(DH,3)else if GT u=false then(DH,22)
 else if(Dv (decide ((AU t pid).euid=0)) (AU t pid).gid (AU t pid).egid u).2.2≠0 then(DH,(Dv (decide ((AU t pid).euid=0)) (AU t pid).gid (AU t pid).egid u).2.2)
 else(FM t {AU t pid with gid:=(Dv (decide ((AU t pid).euid=0)) (AU t pid).gid (AU t pid).egid u).1,egid:=(Dv (decide ((AU t pid).euid=0)) (AU t pid).gid (AU t pid).egid u).2.1},0)
def EY(t:Tab)(pid auid:Int):Tab×Int:=
 if C1 t pid=false then(DH,3)else if GT auid=false then(DH,22)
 else if(AU t pid).auid≠4294967295∧(AU t pid).euid≠0 then(DH,1)else if t.nextS=1073741824 then(DH,11)
 else(⟨t.next,t.nextS+1,(FM t {AU t pid with auid:=auid,ses:=t.nextS}).ps⟩,0)
def EN:Nat→List Dsc→Nat
 |k,[]=>k
 |k,d::r=>if d.fd=(k:Int)then EN (k+1) r else k
def LF(l:List Dsc)(fd:Nat)(x:Dsc):List Dsc:=l.take fd++x::l.drop fd
def EZ(t:Tab)(pid:Int)(a:A9)(flags:Int):Tab×Int×Int:=
 if C1 t pid=false then(DH,0,3)else if 8≤((AU t pid).opens.length:Int)then(DH,0,24)
 else(FM t {AU t pid with opens:=LF (AU t pid).opens (EN 0 (AU t pid).opens) ⟨(EN 0 (AU t pid).opens:Nat),a,flags⟩},(EN 0 (AU t pid).opens:Nat),0)
def GU(t:Tab)(pid fd:Int):Tab×Int:=
 if C1 t pid=false then(DH,3)else if(((AU t pid).opens.filter fun d=>decide (d.fd≠fd)).length:Int)=((AU t pid).opens.length:Int)then(DH,9)
 else(FM t {AU t pid with opens:=(AU t pid).opens.filter fun d=>decide (d.fd≠fd)},0)
def Gx(t:Tab)(pid:Int)(dir:A9):Tab×Int:=if C1 t pid=false then(DH,3)else(FM t {AU t pid with cwd:=dir},0)
def Gy(t:Tab)(pid:Int)(exe comm:AG):Tab×Int:=if C1 t pid=false then(DH,3)else(FM t {AU t pid with exe:=exe,comm:=comm},0)
def FN(t:Tab)(pid target:Int)(ends:Bool):Tab×Int:=
 if C1 t pid=false then(DH,3)else if C1 t target=false then(DH,3)
 else if target=1∨(AU t pid).euid≠0∧(AU t pid).euid≠(AU t target).uid then(DH,1)
 else if ends=true then Fd t target else(t,0)
def EA:List (AG×Int×Int×Int×Int):=[(⟨#[102,111,114,107]⟩,0,0,0,0),
 (⟨#[101,120,101,99,118,101]⟩,0,1,0,4),
 (⟨#[101,120,105,116]⟩,1,0,0,0),
 (⟨#[115,101,116,117,105,100]⟩,1,0,0,0),
 (⟨#[115,101,116,103,105,100]⟩,1,0,0,0),
 (⟨#[108,111,103,105,110]⟩,1,0,0,0),
 (⟨#[111,112,101,110]⟩,2,1,0,0),
 (⟨#[99,108,111,115,101]⟩,1,0,0,0),
 (⟨#[108,105,110,107]⟩,0,2,0,0),
 (⟨#[115,121,109,108,105,110,107]⟩,0,1,1,1),
 (⟨#[117,110,108,105,110,107]⟩,0,1,0,0),
 (⟨#[109,107,100,105,114]⟩,1,1,0,0),
 (⟨#[114,109,100,105,114]⟩,0,1,0,0),
 (⟨#[114,101,110,97,109,101]⟩,0,2,0,0),
 (⟨#[99,104,109,111,100]⟩,1,1,0,0),
 (⟨#[99,104,111,119,110]⟩,2,1,0,0),
 (⟨#[99,104,100,105,114]⟩,0,1,0,0),
 (⟨#[109,111,117,110,116]⟩,1,1,0,0),
 (⟨#[117,109,111,117,110,116]⟩,1,0,0,0),
 (⟨#[99,111,110,110,101,99,116]⟩,1,0,1,1),
 (⟨#[107,105,108,108]⟩,2,0,0,0),
 (⟨#[116,114,117,110,99,97,116,101]⟩,1,1,0,0)]
def Bj(n:Int):AG×Int×Int×Int×Int:=if n<0∨22≤n then(⟨#[]⟩,0,0,0,0)else(EA[n.toNat]?).getD (⟨#[]⟩,0,0,0,0)
def LG(c:Cal):List Int:=[c.a0,c.a1,c.a2,c.a3]
def Bb(c:Cal):Int:=
 if(Bj c.num).1=⟨#[]⟩then 100 else if(((LG c).drop (Bj c.num).2.1.toNat).any fun x=>decide (x≠0))=true then 101
 else if(c.paths.length:Int)≠(Bj c.num).2.2.1∨(c.args.length:Int)<(Bj c.num).2.2.2.1∨(Bj c.num).2.2.2.2<(c.args.length:Int)then 101
 else if(c.paths.any fun p=>decide (128<p.size))=true then 102 else if(c.args.any fun p=>decide (64<p.size))=true then 102 else 0
def Ex(n:Nod)(euid egid:Int):Int:=
 if euid=n.uid then Gg .i64 (Nc .i64 n.mode 6) 7 else if egid=n.gid then Gg .i64 (Nc .i64 n.mode 3) 7 else Gg .i64 n.mode 7
def Eg(n:Nod)(euid egid want:Int):Bool:=
 if want<0∨7<want then false
 else if euid=0 then decide (Gg .i64 want 1=0)||decide (n.kind=2)||decide (Gg .i64 n.mode 73≠0)
 else decide (Gg .i64 (Ex n euid egid) want=want)
def C2(a f:Int):Bool:=decide (Gg .i64 a f≠0)
def C8(c:Cal):List Int:=
 if c.num=1 then[1]else if c.num=6 then[(if C2 c.a0 1=true then 4 else 0)+(if C2 c.a0 22=true then 2 else 0)]
 else if c.num=8 then[8,2]else if c.num=13 then[2,2]else if c.num=14∨c.num=15∨c.num=17 then[8]else if c.num=16 then[4]else[2]
def Cs(c:Cal):Bool:=
 if c.num=6 then decide (Gg .i64 c.a0 32=0)else decide (c.num=1∨c.num=14∨c.num=15∨c.num=16∨c.num=17∨c.num=21)
def Mr(n:Int):Bool:=decide (0≤n)&&decide (n≤511)
def GV(c:Cal):AG:=c.args.headD ⟨#[]⟩
def Cf(p:Prc)(c:Cal):Int:=
 if c.num=6 then(if c.a0<0∨63<c.a0∨Gg .i64 c.a0 3=0∨Mr c.a1=false then 22 else if 8≤(p.opens.length:Int)then 24 else 0)
 else if c.num=9 then(if GV c=⟨#[]⟩then 2 else if(GV c).data.toList.any (fun b=>decide (b=0))=true then 22 else 0)
 else if c.num=11∨c.num=14 then(if Mr c.a0=false then 22 else 0)
 else if c.num=15 then(if c.a0<0∨4294967295<c.a0∨c.a1<0∨4294967295<c.a1 then 22 else 0)
 else if c.num=17 then(if p.euid≠0 then 1 else 0)
 else if c.num=21 then(if c.a0<0 then 22 else 0)else 0
def Ms(s:Spc)(given:AG)(perm:Int)(f:Fnd):Itm:=
 ⟨given,f.path,f.dir,f.name,f.file,1,(Aa s.files f.file).kind,(Aa s.files f.file).mode,(Aa s.files f.file).uid,(Aa s.files f.file).gid,perm⟩
def Fg(given:AG)(perm:Int):Itm:=⟨given,⟨#[]⟩,(0,0),⟨#[]⟩,(0,0),1,0,0,0,0,perm⟩
def FF(s:Spc)(cwd:A9)(fl:Bool)(x:List Itm×List Fnd×Int)(g:AG×Int):List Itm×List Fnd×Int:=
 if x.2.2=0 then
  (if(Bi s cwd g.1 fl).2=0 then(x.1++[Ms s g.1 g.2 (Bi s cwd g.1 fl).1],x.2.1++[(Bi s cwd g.1 fl).1],0)else(x.1++[Fg g.1 g.2],x.2.1++[(Bi s cwd g.1 fl).1],(Bi s cwd g.1 fl).2))
 else(x.1++[Fg g.1 g.2],x.2.1++[DO],x.2.2)
def Hl(s:Spc)(cwd:A9)(fl:Bool)(l:List (AG×Int))(e:Int):List Itm×List Fnd×Int:=l.foldl (FF s cwd fl) ([],[],e)
def B2(w:Wrk)(i:Nat):Fnd:=(w.found[i]?).getD DO
def C3(w:Wrk)(a:A9)(want:Int):Bool:=Eg (Aa w.s.spc.files a) w.p.euid w.p.egid want
def GW(w:Wrk)(i:Nat):Bool:=AY w.s.spc.files (B2 w i).file
def Fh(w:Wrk)(a:A9):Bool:=(Bo w.s.spc a).isSome||w.s.tab.ps.any fun p=>decide (p.cwd=a)
def BO(w:Wrk)(R:DR):Wrk×Int:=if R.2.2=0 then({w with s:=⟨⟨R.1,w.s.spc.mounts⟩,w.s.tab⟩,r:={w.r with changes:=R.2.1}},0)else(w,R.2.2)
def C4(w:Wrk)(R:Tab×Int):Wrk×Int:=if R.2=0 then({w with s:=⟨w.s.spc,R.1⟩},0)else(w,R.2)
def V0(n:Nod)(a:A9)(x:Itm):Itm:={x with role:=2,file:=a,kind:=n.kind,mode:=n.mode,uid:=n.uid,gid:=n.gid}
def GX(w:Wrk)(i:Nat)(a:A9):Wrk:={w with r:={w.r with items:=w.r.items.modify i (V0 (Aa w.s.spc.files a) a)}}
def cF:Dm:=((0,0),⟨#[]⟩,(0,0),(0,0))
def V1(l:List Dm):A9:=(l.headD cF).2.2.2
def Mt(w:Wrk)(n:Nod):Nod:={n with uid:=w.p.euid,gid:=w.p.egid}
def EB(w:Wrk)(i:Nat)(n:Nod):DR:=Dr w.s.spc.files (B2 w i).dir (B2 w i).name (Mt w n)
def CR(w:Wrk)(i:Nat)(n:Nod):Wrk×Int:=
 if(EB w i n).2.2=0 then(GX (BO w (EB w i n)).1 i (V1 (EB w i n).2.1),0)else(w,(EB w i n).2.2)
def Fi(w:Wrk)(i:Nat)(role:Int):Wrk:={w with r:={w.r with items:=w.r.items.modify i fun x=>{x with role:=role}}}
def OT(w:Wrk)(n:Int):Wrk:={w with r:={w.r with exit:=n}}
def GY(mode:Int):Nod:=⟨0,1,mode,0,0,0,⟨#[]⟩,[]⟩
def G7(w:Wrk)(a:A9):Wrk×Int:=C4 (OT w (EZ w.s.tab w.p.pid a w.c.a0).2.1) ((EZ w.s.tab w.p.pid a w.c.a0).1,(EZ w.s.tab w.p.pid a w.c.a0).2.2)
def JE(a:Int):Int:=(if C2 a 1=true then 4 else 0)+(if C2 a 18=true then 2 else 0)
def C9(w:Wrk):Wrk×Int:=
 if(B2 w 0).ex=true then
  (if C2 w.c.a0 4=true∧C2 w.c.a0 8=true then(w,17)
  else if(Aa w.s.spc.files (B2 w 0).file).kind=3 then(w,40)
  else if(Aa w.s.spc.files (B2 w 0).file).kind=2∧C2 w.c.a0 22=true then(w,21)
  else if C3 w (B2 w 0).file (JE w.c.a0)=false then(w,13)
  else G7 w (B2 w 0).file)
 else
  (if C2 w.c.a0 4=false then(w,2)else if(B2 w 0).slash=true then(w,21)else if C3 w (B2 w 0).dir 2=false then(w,13)
  else if(CR w 0 (GY w.c.a1)).2≠0 then CR w 0 (GY w.c.a1)
  else G7 (CR w 0 (GY w.c.a1)).1 (V1 (CR w 0 (GY w.c.a1)).1.r.changes))
def EO(w:Wrk):Wrk×Int:=
 if(B2 w 0).ex=false then(w,2)else if GW w 0=true then(w,1)else if(B2 w 1).ex=true then(w,17)else if(B2 w 1).slash=true then(w,2)
 else if(B2 w 0).file.1≠(B2 w 1).dir.1 then(w,18)else if C3 w (B2 w 1).dir 2=false then(w,13)
 else if(Dd w.s.spc.files (B2 w 1).dir (B2 w 1).name (B2 w 0).file).2.2≠0 then(w,(Dd w.s.spc.files (B2 w 1).dir (B2 w 1).name (B2 w 0).file).2.2)
 else(GX (BO w (Dd w.s.spc.files (B2 w 1).dir (B2 w 1).name (B2 w 0).file)).1 1 (B2 w 0).file,0)
def G8(w:Wrk)(R:DR):Wrk×Int:=if R.2.2≠0 then(w,R.2.2)else(Fi (BO w R).1 0 3,0)
def Df(w:Wrk):Wrk×Int:=
 if(B2 w 0).ex=false then(w,2)
 else if w.c.num=10 then
  (if(B2 w 0).name=⟨#[]⟩∨GW w 0=true then(w,21)else if C3 w (B2 w 0).dir 2=false then(w,13)
  else G8 w (FC w.s.spc.files (B2 w 0).dir (B2 w 0).name))
 else
  (if(B2 w 0).name=⟨#[]⟩then(w,16)else if GW w 0=false then(w,20)
  else if Fh w (AM w.s.spc.files (B2 w 0).dir (B2 w 0).name).1=true then(w,16)else if C3 w (B2 w 0).dir 2=false then(w,13)
  else G8 w (Ed w.s.spc.files (B2 w 0).dir (B2 w 0).name))
def GZ(w:Wrk)(R:DR)(x:A9):Wrk×Int:=
 if R.2.2≠0 then(w,R.2.2)else if 0<(R.2.1.length:Int)then(GX (Fi (BO w R).1 0 3) 1 x,0)else((BO w R).1,0)
def Dg(w:Wrk):Wrk×Int:=
 if(B2 w 0).ex=false then(w,2)else if(B2 w 0).name=⟨#[]⟩∨(B2 w 1).name=⟨#[]⟩then(w,16)
 else if(B2 w 1).slash=true∧GW w 0=false then(w,20)else if(B2 w 0).dir.1≠(B2 w 1).dir.1 then(w,18)
 else if C3 w (B2 w 0).dir 2=false∨C3 w (B2 w 1).dir 2=false then(w,13)
 else if(AM w.s.spc.files (B2 w 1).dir (B2 w 1).name).2=0∧(AM w.s.spc.files (B2 w 1).dir (B2 w 1).name).1≠(AM w.s.spc.files (B2 w 0).dir (B2 w 0).name).1∧AY w.s.spc.files (AM w.s.spc.files (B2 w 1).dir (B2 w 1).name).1=true∧Fh w (AM w.s.spc.files (B2 w 1).dir (B2 w 1).name).1=true then(w,16)
 else GZ w (EM w.s.spc.files (B2 w 0).dir (B2 w 0).name (B2 w 1).dir (B2 w 1).name) (AM w.s.spc.files (B2 w 0).dir (B2 w 0).name).1
def Hm(w:Wrk)(R:AZ×Int):Wrk×Int:=BO w (R.1,[],R.2)
def Ea(w:Wrk):Wrk×Int:=
 if(B2 w 0).ex=false then(w,2)
 else if w.c.num=14 then
  (if w.p.euid≠0∧w.p.euid≠(Aa w.s.spc.files (B2 w 0).file).uid then(w,1)
  else Hm w (EL w.s.spc.files (B2 w 0).file w.c.a0 (Aa w.s.spc.files (B2 w 0).file).uid (Aa w.s.spc.files (B2 w 0).file).gid))
 else if w.p.euid≠0 then(w,1)else Hm w (EL w.s.spc.files (B2 w 0).file (Aa w.s.spc.files (B2 w 0).file).mode w.c.a0 w.c.a1)
def Hn(w:Wrk)(R:Spc×Int):Wrk×Int:=if R.2=0 then({w with s:=⟨R.1,w.s.tab⟩},0)else(w,R.2)
def D9(w:Wrk):Wrk×Int:=
 if(B2 w 0).ex=false then(w,2)
 else if w.c.num=1 then(if GW w 0=true∨C3 w (B2 w 0).file 1=false then(w,13)else C4 w (Gy w.s.tab w.p.pid (B2 w 0).path (B2 w 0).name))
 else if w.c.num=16 then(if GW w 0=false then(w,20)else if C3 w (B2 w 0).file 1=false then(w,13)else C4 w (Gx w.s.tab w.p.pid (B2 w 0).file))
 else if w.c.num=17 then(if GW w 0=false then(w,20)else Hn w (DN w.s.spc w.c.a0 (B2 w 0).file))
 else if GW w 0=true then(w,21)else if C3 w (B2 w 0).file 2=false then(w,13)else(w,0)
def LH(t:AG):Nod:=⟨0,3,511,0,0,0,t,[]⟩
def Mu(mode:Int):Nod:=⟨0,2,mode,0,0,0,⟨#[]⟩,[]⟩
def Eb(w:Wrk):Wrk×Int:=
 if(B2 w 0).ex=true then(w,17)else if(B2 w 0).slash=true∧w.c.num=9 then(w,2)else if C3 w (B2 w 0).dir 2=false then(w,13)
 else if w.c.num=9 then CR w 0 (LH (GV w.c))else CR w 0 (Mu w.c.a0)
def LJ(t:Tab)(dev:Int):Bool:=t.ps.any fun p=>decide (p.cwd.1=dev)||p.opens.any fun d=>decide (d.file.1=dev)
def Ho(w:Wrk)(R:Spc×Int):Wrk×Int:=if R.2=0 then({w with s:=⟨R.1,w.s.tab⟩,r:={w.r with gone:=w.c.a0}},0)else(w,R.2)
def Ey(w:Wrk):Wrk×Int:=
 if w.p.euid≠0 then(w,1)else if w.c.a0=0∨By w.s.spc w.c.a0=false then(w,22)else if LJ w.s.tab w.c.a0=true then(w,16)
 else Ho w (FD w.s.spc w.c.a0)
def LL(w:Wrk)(n:Int):Wrk:={w with r:={w.r with exit:=n,child:=n}}
def Dw(w:Wrk):Wrk×Int:=
 if w.c.num=0 then C4 (LL w (Ef w.s.tab w.p.pid).2.1) ((Ef w.s.tab w.p.pid).1,(Ef w.s.tab w.p.pid).2.2)
 else if w.c.num=2 then C4 w (Fd w.s.tab w.p.pid)
 else if w.c.num=3 then C4 w (Fe w.s.tab w.p.pid w.c.a0)
 else if w.c.num=4 then C4 w (Ff w.s.tab w.p.pid w.c.a0)
 else if w.c.num=5 then C4 w (EY w.s.tab w.p.pid w.c.a0)
 else if w.c.num=7 then C4 w (GU w.s.tab w.p.pid w.c.a0)
 else if w.c.num=18 then Ey w
 else if w.c.num=19 then(if w.c.a0<0∨65535<w.c.a0∨GV w.c=⟨#[]⟩then(w,22)else if w.c.a0=0 then(w,111)else(w,0))
 else if w.c.a1<0∨64<w.c.a1 then(w,22)else C4 w (FN w.s.tab w.p.pid w.c.a0 (decide (w.c.a1≠0)))
def B9(w:Wrk):Wrk×Int:=
 if w.c.num=6 then C9 w else if w.c.num=8 then EO w else if w.c.num=10∨w.c.num=12 then Df w else if w.c.num=13 then Dg w
 else if w.c.num=14∨w.c.num=15 then Ea w else if w.c.num=1∨w.c.num=16∨w.c.num=17∨w.c.num=21 then D9 w
 else if w.c.num=9∨w.c.num=11 then Eb w else Dw w
def Dh(s:Syst)(p:Prc)(c:Cal):List Itm×List Fnd×Int:=Hl s.spc p.cwd (Cs c) (c.paths.zip (C8 c)) (Cf p c)
def EC(s:Syst)(pid:Int)(c:Cal):Wrk:=⟨s,AU s.tab pid,c,(Dh s (AU s.tab pid) c).2.1,{DX with items:=(Dh s (AU s.tab pid) c).1}⟩
def Ga(n:Int):Syst×Int:=if(EU n).2≠0 then(⟨⟨[],[]⟩,DH⟩,(EU n).2)else(⟨⟨(EU n).1,[]⟩,LD (0,1)⟩,0)
def Ez(d:Dsc):List AV:=[.v (.int .i64 d.fd), .v (.int .i64 d.file.1), .v (.int .i64 d.file.2), .v (.int .i64 d.flags)]
def Av(p:Prc):List AV:=[.v (.int .i64 p.pid), .v (.int .i64 p.ppid), .v (.int .i64 p.uid), .v (.int .i64 p.euid), .v (.int .i64 p.gid), .v (.int .i64 p.egid), .v (.int .i64 p.auid), .v (.int .i64 p.ses), .v (.int .i64 p.cwd.1), .v (.int .i64 p.cwd.2), .v (.string p.comm), .v (.string p.exe), .sl 4 (p.opens.map Ez) none, .v (.bool p.audited)]
def As(t:Tab):List AV:=[.v (.int .i64 t.next), .v (.int .i64 t.nextS), .sl 14 (t.ps.map Av) none]
def BZ(s:Syst):List AV:=[.sl 2 (s.spc.files.map Bx) none, .sl 3 (s.spc.mounts.map Cp) none, .v (.int .i64 s.tab.next), .v (.int .i64 s.tab.nextS), .sl 14 (s.tab.ps.map Av) none]
def Ct(s:AG):List AV:=[.v (.string s)]
def DA(c:Cal):List AV:=[.v (.int .i64 c.num), .v (.int .i64 c.a0), .v (.int .i64 c.a1), .v (.int .i64 c.a2), .v (.int .i64 c.a3), .sl 1 (c.paths.map Ct) none, .sl 1 (c.args.map Ct) none]
def BY(y:Itm):List AV:=[.v (.string y.given), .v (.string y.path), .v (.int .i64 y.dir.1), .v (.int .i64 y.dir.2), .v (.string y.name), .v (.int .i64 y.file.1), .v (.int .i64 y.file.2), .v (.int .i64 y.role), .v (.int .i64 y.kind), .v (.int .i64 y.mode), .v (.int .i64 y.uid), .v (.int .i64 y.gid), .v (.int .i64 y.perm)]
def Di(r:Res):List AV:=[.v (.int .i64 r.exit), .v (.int .i64 r.child), .v (.int .i64 r.gone), .sl 13 (r.items.map BY) none, .sl 7 (r.changes.map CN) none]
def Cu(w:Wrk)(fnd its:AV):List AV:=
 [.sl 2 (w.s.spc.files.map Bx) none, .sl 3 (w.s.spc.mounts.map Cp) none, .v (.int .i64 w.s.tab.next), .v (.int .i64 w.s.tab.nextS), .sl 14 (w.s.tab.ps.map Av) none,
 .v (.int .i64 w.p.pid), .v (.int .i64 w.p.ppid), .v (.int .i64 w.p.uid), .v (.int .i64 w.p.euid), .v (.int .i64 w.p.gid), .v (.int .i64 w.p.egid), .v (.int .i64 w.p.auid), .v (.int .i64 w.p.ses), .v (.int .i64 w.p.cwd.1), .v (.int .i64 w.p.cwd.2), .v (.string w.p.comm), .v (.string w.p.exe), .sl 4 (w.p.opens.map Ez) none, .v (.bool w.p.audited),
 .v (.int .i64 w.c.num), .v (.int .i64 w.c.a0), .v (.int .i64 w.c.a1), .v (.int .i64 w.c.a2), .v (.int .i64 w.c.a3), .sl 1 (w.c.paths.map Ct) none, .sl 1 (w.c.args.map Ct) none,fnd,
 .v (.int .i64 w.r.exit), .v (.int .i64 w.r.child), .v (.int .i64 w.r.gone),its, .sl 7 (w.r.changes.map CN) none]
structure TabB(t:Tab):Prop where
 few:t.ps.length≤16
 opens:∀p∈t.ps,p.opens.length≤8
 next:t.next≤1073741824
 nextS:t.nextS≤1073741824
structure RowF(sz:Nat){α:Type}(F:α→List AV):Prop where
 len:∀x,(F x).length=sz
 flat:∀x,∀y∈F x,(∃v,y= .v v)∨∃s r,y= .sl s r none
 pos:0<sz
def LB(sz:Nat){α:Type}(F:α→List AV)(l:List α)(cap:Nat):List AV:=CJ sz cap (l.map F)
section
variable {α:Type}{sz:Nat}{F:α→List AV}(hF:RowF sz F)
include hF
theorem KS(l:List α):∀r∈l.map F,r.length=sz:=by
 intro r hr
 obtain⟨x,_,rfl⟩:=List.mem_map.1 hr
 exact hF.len x
theorem Mv{l:List α}{cap:Nat}(h:l.length≤cap):(LB sz F l cap).length=cap * sz:=Pm (KS hF l) (by simpa using h)
theorem cG{g:AV→AV}(hv:∀x,g (.v x)= .v x)(hs:∀sz rows,g (.sl sz rows none)= .sl sz rows none)(x:α):(F x).map g=F x:=by
 conv=>rhs;rw[←List.map_id (F x)]
 apply List.map_congr_left
 intro y hy
 rcases hF.flat x y hy with⟨v,rfl⟩|⟨s,r,rfl⟩
 ·exact hv v
 exact hs s r
theorem R7{g:AV→AV}(hany:g .any= .any)(hv:∀x,g (.v x)= .v x)(hs:∀sz rows,g (.sl sz rows none)= .sl sz rows none)(l:List α)(cap:Nat):(LB sz F l cap).map g=LB sz F l cap:=by
 unfold LB
 rw[MJ g hany,List.map_map]
 congr 1
 apply List.map_congr_left
 intro x _
 exact cG hF hv hs x
theorem Ch(g:Nat→Option Nat)(l:List α)(cap:Nat):DG g (LB sz F l cap)=LB sz F l cap:=by
 rw[MG];exact R7 hF rfl (fun _=>rfl) (fun _ _=>rfl) l cap
theorem Gb(g:Nat→Option Nat)(l:List α)(cap:Nat):FV g (LB sz F l cap)=LB sz F l cap:=by
 rw[O2];exact R7 hF rfl (fun _=>rfl) (fun _ _=>rfl) l cap
theorem cH(g:Nat→Option (List AV))(l:List α)(cap:Nat):GK g (LB sz F l cap)=LB sz F l cap:=by
 rw[MH];exact R7 hF rfl (fun _=>rfl) (fun _ _=>rfl) l cap
theorem cJ{n m:Nat}(x:α):Ab n m (F x)=true:=by
 refine Py.2 fun y hy=>?_
 rcases hF.flat x y hy with⟨v,rfl⟩|⟨s,r,rfl⟩<;>rfl
theorem Bc{n m:Nat}{l:List α}{cap:Nat}:Ab n m (LB sz F l cap)=true:=by
 refine Pz fun r hr=>?_
 obtain⟨x,_,rfl⟩:=List.mem_map.1 hr
 exact cJ hF x
theorem cK{n:Nat}{bx:List (List AV)}{k j:Nat}{l:List α}{cap:Nat}(hn:n≤j)(hj:bx[j]?=some (LB sz F l cap)):DT n bx (k+1) j=some (LB sz F l cap):=by
 have:Nat.blt j n=false:=by rw[←Bool.not_eq_true,Nat.blt_eq];omega
 simp only[DT,this,hj,Option.map_some,cH hF]
theorem KT{n:Nat}{bx:List (List AV)}{k j:Nat}{l:List α}{cap cap0:Nat}(hn:Nat.ble n j=true)(hj:bx[j]?=some (LB sz F l cap))(hc:l.length≤cap):Ep n (DT n bx (k+1)) (.bs j 0 sz l.length cap0)= .sl sz (l.map F) none:=
 U8 (BV hn) (cK hF (BV hn) hj) (KS hF l) (by simp) (by simpa using hc)
theorem cL{l:List α}{cap i k:Nat}{x:α}{y:AV}(h:l[i]?=some x)(hx:(F x)[k]?=some y):(LB sz F l cap)[0+i * sz+k]?=some y:=ML (KS hF l) (by rw[List.getElem?_map,h];rfl) hx
theorem JF{l:List α}{cap i k:Nat}{x x':α}{cs:List AV}(h:l[i]?=some x)(hs:SetAt (F x) k cs (F x'))(hne:cs≠[]):SetAt (LB sz F l cap) (0+i * sz+k) cs (LB sz F (l.set i x') cap):=by
 have key:=Q2 (cap:=cap) (KS hF l) (by rw[List.getElem?_map,h];rfl) hs hne
 rw[←List.map_set]at key
 exact key
theorem V2{l:List α}{cap i:Nat}{x x':α}(h:l[i]?=some x):SetAt (LB sz F l cap) (0+i * sz) (F x') (LB sz F (l.set i x') cap):=by
 have hne:F x'≠[]:=fun e=>by have h1:=hF.len x';have h2:=hF.pos;rw[e]at h1;simp at h1;omega
 have hs:SetAt (F x) 0 (F x') (F x'):=by
  have:=SetAt.whole (xs:=F x') (l:=F x) (b:=[]) (by rw[hF.len,hF.len])
  simpa using this
 have key:=JF hF (cap:=cap) h hs hne
 simpa using key
theorem V3(x:α)(cap:Nat):F x++List.replicate ((cap - 1) * sz) .any=LB sz F [x] cap:=by
 have _:=hF
 unfold LB CJ
 simp
theorem R8(acc:List α)(x:α)(cap0 cap:Nat):((LB sz F acc cap0).drop 0).take (acc.length * sz)++F x++List.replicate ((cap - (acc.length+1)) * sz) .any=LB sz F (acc++[x]) cap:=by
 unfold LB
 rw[TA (KS hF acc) (by simp),List.map_append]
 rfl
theorem R9{acc:List α}{x:α}{cap:Nat}{row:List AV}(hs:SetAt (LB sz F acc cap) (0+acc.length * sz) (F x) row)(hc:acc.length+1≤cap):row=LB sz F (acc++[x]) cap:=by
 have key:=T9 (rows:=acc.map F) (sz:=sz) (cap:=cap) (r:=F x) (row':=row) (KS hF acc) (hF.len x) hF.pos (by simpa using hc) (by rw[List.length_map];exact hs)
 rw[key]
 unfold LB
 rw[List.map_append]
 rfl
end
theorem DY:RowF 14 Av:=⟨fun _=>rfl,fun x y h=>by simp[Av]at h;rcases h with h|h|h|h|h|h|h|h|h|h|h|h|h|h<;>first|exact .inl ⟨_,h⟩|exact .inr ⟨_,_,h⟩,by decide⟩
theorem B0:RowF 13 BY:=⟨fun _=>rfl,fun x y h=>by simp[BY]at h;rcases h with h|h|h|h|h|h|h|h|h|h|h|h|h<;>exact .inl ⟨_,h⟩,by decide⟩
theorem C5{f:Nat→Option AV}{bx:List (List AV)}{tk:List (Nat×Nat×List (List AV))}{l:List (Nat×AV)}{N:Dim}(n m:Nat){bx':List (List AV)}{tk':List (Nat×Nat×List (List AV))}(hbp:Ag n m bx'=true)(hn:Nat.ble N.ni n=true:=by rfl)(hb:bx.take n=bx':=by rfl)(ht:tk.take m=tk':=by rfl)(hl:Sub n m f l:=by repeat (first|exact Sub.nil|refine Sub.cons _ _ _ rfl rfl ?_|refine Sub.any _ _ ?_|refine Sub.sl _ _ _ _ _ rfl ?_|refine Sub.slnil _ _ _ rfl ?_|(apply Sub.of;(focus exact rfl);(focus exact LeA.of_eq (vb (by simp[*])));(focus exact rfl)))):Weak N ⟨f,⟨bx,tk⟩⟩ ⟨look l,⟨bx',tk'⟩⟩:=B1 n m hn hb ht hbp hl
def DC(bx:List (List AV))(g:Nat→Option Nat):List Nat→List (List AV)→List (List AV)
 |[],bc=>bx++bc.map (DG g)
 |i::is,[]=>DC bx g is []
 |i::is,r::bc=>DC (bx.set i (DG g r)) g is bc
theorem V4{g:Nat→Option Nat}:∀(is:List Nat) (bx bc:List (List AV)),is.length≤bc.length→(DC bx g is bc).length=bx.length+(bc.length - is.length)
 |[],bx,bc,_=>by simp[DC]
 |i::is,bx,[],h=>by simp at h
 |i::is,bx,r::bc,h=>by
   unfold DC
   rw[V4 is _ bc (by simpa using h)]
   simp
theorem OU{g:Nat→Option Nat}:∀(is:List Nat) (bx bc:List (List AV)) (i:Nat),i∉is→i<bx.length→(DC bx g is bc)[i]?=bx[i]?
 |[],bx,bc,i,_,hi=>by unfold DC;rw[List.getElem?_append_left hi]
 |j::is,bx,[],i,h,hi=>by
   unfold DC
   exact OU is bx [] i (fun hm=>h (List.mem_cons_of_mem _ hm)) hi
 |j::is,bx,r::bc,i,h,hi=>by
   unfold DC
   rw[OU is _ bc i (fun hm=>h (List.mem_cons_of_mem _ hm)) (by simpa using hi),List.getElem?_set_ne (fun e=>h (by rw[e];exact List.mem_cons_self ..))]
theorem V5{g:Nat→Option Nat}:∀(is:List Nat) (bx bc:List (List AV)) (k i:Nat) (row:List AV),is.Nodup→i<bx.length→is[k]?=some i→bc[k]?=some row→(DC bx g is bc)[i]?=some (DG g row)
 |[],_,_,_,_,_,_,_,h,_=>by simp at h
 |j::is,bx,[],k,i,row,_,_,_,h=>by simp at h
 |j::is,bx,r::bc,0,i,row,hn,hi,h1,h2=>by
   simp at h1 h2
   subst h1 h2
   unfold DC
   rw[OU is _ bc j (List.nodup_cons.1 hn).1 (by simpa using hi),List.getElem?_set_self hi]
 |j::is,bx,r::bc,k+1,i,row,hn,hi,h1,h2=>by
   unfold DC
   exact V5 is _ bc k i row (List.nodup_cons.1 hn).2 (by simpa using hi) (by simpa using h1) (by simpa using h2)
theorem V6{g:Nat→Option Nat}:∀(is:List Nat) (bx bc:List (List AV)) (k:Nat) (row:List AV),bc[is.length+k]?=some row→(DC bx g is bc)[bx.length+k]?=some (DG g row)
 |[],bx,bc,k,row,h=>by
   unfold DC
   rw[List.getElem?_append_right (by omega),show bx.length+k - bx.length=k by omega,List.getElem?_map]
   simp at h
   rw[h];rfl
 |j::is,bx,[],k,row,h=>by simp at h
 |j::is,bx,r::bc,k,row,h=>by
   unfold DC
   have:=V6 (g:=g) is (bx.set j (DG g r)) bc k row (by simpa[Nat.add_right_comm]using h)
   simpa using this
theorem Mw{bx:List (List AV)}{is:List Nat}{bc:List (List AV)}(hn:is.Nodup)(hi:∀i∈is,i<bx.length)(hl:is.length≤bc.length):Back bx is bc (DC bx (Da is bx.length) is bc):=by
 refine⟨V4 is bx bc hl,fun i row h1 h2=>?_,fun k i row h1 h2=>?_,fun k row h=>V6 is bx bc k row h⟩
 ·rw[OU is bx bc i h1 (Ar.1 h2).1];exact h2
 exact V5 is bx bc k i row hn (hi i (Au h1)) h1 h2
def Cv:List AV:=[.v (.int .i64 0), .v (.int .i64 0), .v (.slice none 0 0)]
def Cw(t:Tab)(x:AV):List AV:=[.v (.int .i64 t.next), .v (.int .i64 t.nextS),x]
def Dj(f:Prc→Prc)(l:List Prc)(j:Nat):List Prc:=(l.take j).map f++l.drop j
def Fj(p x:Prc):Prc:=if x.pid=p.pid then p else x
theorem Jl(f:Prc→Prc)(l:List Prc)(j:Nat):(Dj f l j).length=l.length:=by
 unfold Dj
 simp
 omega
theorem RA{f:Prc→Prc}{l:List Prc}{j:Nat}{x:Prc}(h:l[j]?=some x):(Dj f l j)[j]?=some x:=by
 have hl:=(Ar.1 h).1
 unfold Dj
 rw[List.getElem?_append_right (by simp;omega)]
 simp only[List.length_map,List.length_take,List.getElem?_drop]
 rw[show j+(j - min j l.length)=j by omega]
 exact h
theorem V7{f:Prc→Prc}{l:List Prc}{j:Nat}{x:Prc}(h:l[j]?=some x):(Dj f l j).set j (f x)=Dj f l (j+1):=by
 obtain⟨hl,e⟩:=Ar.1 h
 unfold Dj
 rw[List.take_add_one,h,List.drop_eq_getElem_cons hl,List.set_append_right _ _ (by simp;omega)]
 simp only[List.length_map,List.length_take,List.map_append,List.append_assoc]
 rw[show j - min j l.length=0 by omega]
 rfl
theorem cM{f:Prc→Prc}{l:List Prc}{j:Nat}{x:Prc}(h:l[j]?=some x)(hf:f x=x):Dj f l j=Dj f l (j+1):=by
 rw[←V7 h,hf]
 have h2:=RA (f:=f) h
 obtain⟨h3,h4⟩:=Ar.1 h2
 rw[←h4,List.set_getElem_self]
theorem cO(f:Prc→Prc)(l:List Prc):Dj f l l.length=l.map f:=by
 unfold Dj
 simp
theorem V8{t:Tab}{pid:Int}{p:Prc}(h:LE t pid=some p):p∈t.ps:=List.mem_of_find?_eq_some h
theorem Fk{t:Tab}(ht:TabB t)(pid:Int):(AU t pid).opens.length≤8:=by
 unfold AU
 cases h:LE t pid with
 |none=>exact Nat.zero_le _
 |some p=>exact ht.opens p (V8 h)
theorem Jm{t:Tab}{pid:Int}(h:C1 t pid=true):0<t.ps.length:=by
 unfold C1 at h
 obtain⟨p,hp⟩:=Option.isSome_iff_exists.1 h
 exact List.length_pos_of_mem (V8 hp)
theorem V9{bx:List (List AV)}{n:Nat}(hn:bx.length=n)(t:Tab)(cap:Nat):Back bx [] [As t,Cw t (.bs 3 0 14 t.ps.length cap),Cw t (.bs 3 0 14 t.ps.length cap),LB 14 Av t.ps cap] (bx++[As t,Cw t (.bs (n+3) 0 14 t.ps.length cap),Cw t (.bs (n+3) 0 14 t.ps.length cap),LB 14 Av t.ps cap]):=by
 subst hn
 have:=Mw (bx:=bx) (is:=[]) (bc:=[As t,Cw t (.bs 3 0 14 t.ps.length cap),Cw t (.bs 3 0 14 t.ps.length cap),LB 14 Av t.ps cap]) List.nodup_nil (by simp) (by simp)
 have e1:DG (Da [] bx.length) (As t)=As t:=rfl
 have e2:DG (Da [] bx.length) (Cw t (.bs 3 0 14 t.ps.length cap))=Cw t (.bs (bx.length+3) 0 14 t.ps.length cap):=by simp[DG,Cw,Eo,Da]
 simpa[DC,Ch DY,e1,e2]using this
section
theorem Mx(p:Prc)(hp:p.opens.length≤1000):AFn Tryz.prog 107 [.agg (Av p)] (fun r=>r= .agg (Av p)):=by
 refine enter Tryz.func107 rfl rfl rfl rfl rfl 0 rfl ?_
 refine w_ (b_ (h:=AW (h:=e_ (w_ (f_ (h:=l_ (h:=?_)))))))
 first|refine A6 rfl (Dz rfl rfl rfl (by simp;omega) (by repeat constructor) ?_)|refine A6 rfl (Hw rfl rfl (by simp;omega) (by repeat constructor) ?_)
 refine f_ (h:=s_ (h:=e_ (w_ (l_ (h:=s_ (h:=e_ (A4 (?_))))))))
 refine AB ?_
 rfl
theorem VA(t:Tab)(ht:TabB t):AFn Tryz.prog 108 [.agg (As t)] (fun r=>r= .agg (As t)):=by
 have hfew:=ht.few
 refine enter Tryz.func108 rfl rfl rfl rfl rfl 0 rfl ?_
 refine w_ (b_ (h:=AW (h:=e_ (w_ (f_ (h:=l_ (h:=f_ (h:=l_ (h:=AT (h:=AW (h:=s_ (h:=e_ (q_ (w_ (a_ (h:=e_ (Am (?_))))))))))))))))))
 refine Ko 2 2 61 14 rfl rfl (by repeat constructor) (by repeat constructor) (by repeat constructor) ?_
 refine Ba (fun m s=>∃j:Nat,j≤t.ps.length∧m=t.ps.length - j∧s=⟨look [(1, .bp 0 0),(2, .bp 1 0),(3, .bp 2 0),(4, .v (.int .i64 (j:Int)))],⟨[As t,Cv,Cw t (.sl 14 ((t.ps.take j).map Av) (some 0))],[(61,14,(t.ps.take j).map Av)]⟩⟩) (t.ps.length) ((wk 3 1)) (⟨0,Nat.zero_le _,rfl,rfl⟩) ?_
 rintro m s ⟨j,hj,rfl,rfl⟩
 refine q_ (w_ (m_ (h:=f_ (h:=l_ (h:=n_ (h:=BG (h:=e_ (?_))))))))
 refine A8 rfl (fun hb1=>?_) (fun hb1=>?_)
 ·have hc1:=bp hb1
  obtain⟨hlt,p,hy,hrow,e⟩:=CZ Av hc1
  have hop:p.opens.length≤1000:=by have:=ht.opens p (Au hy);omega
  refine AJ (q_ (Am (BF ([(0,As t),(1,Cv),(2,Cw t (.sl 14 ((t.ps.take j).map Av) (some 0)))]) 11 (h:=AE 0 (h:=AD 1 (h:=AE 2 (h:=AD 3 (h:=AN 4 (h:=Dl 5 (h:=AD 6 (h:=?_)))))))))))
  refine c_ 7 rfl (AK (Mx p hop) ?_)
  rintro r rfl
  refine o_ (h:=Hz 8 (h:=?_))
  refine c_ 9 rfl (Dz rfl rfl rfl (by simp;omega) (by repeat constructor) ?_)
  refine o_ (h:=AE 10 (h:=?_))
  refine Az 11 rfl (Aw rfl rfl rfl rfl rfl rfl (by repeat constructor) (by repeat constructor) ?_)
  refine o_ (h:=z_ (h:=Ax (t_ (AP (m_ (h:=B8 (h:=a_ (h:=AO (?_)))))))))
  refine AF ?_
  refine⟨_,_,?_,⟨j+1,by omega,rfl,rfl⟩,(by rw[e];exact B1 3 1 rfl rfl rfl rfl ((by repeat (first|exact Sub.nil|refine Sub.cons _ _ _ rfl rfl ?_|refine Sub.any _ _ ?_|refine Sub.sl _ _ _ _ _ rfl ?_|refine Sub.slnil _ _ _ rfl ?_))))⟩
  omega
 have hc1:=bp hb1
 have e:=Ck Av hj hc1
 subst e
 rw[List.take_length]
 refine BR (Aq (Aq (BS (t_ (w_ (l_ (h:=s_ (h:=e_ (A4 (?_))))))))))
 refine AB ?_
 rfl
theorem VB(t:Tab)(ht:TabB t)(h0:0<t.ps.length):ACall Tryz.prog 108 [.agg (As t)] [] (fun r b tk=>tk=[]∧∃cap,t.ps.length≤cap∧r= .agg (Cw t (.bs 3 0 14 t.ps.length cap))∧b=[As t,Cw t (.bs 3 0 14 t.ps.length cap),Cw t (.bs 3 0 14 t.ps.length cap),LB 14 Av t.ps cap]):=by
 have hfew:=ht.few
 refine enter Tryz.func108 rfl rfl rfl rfl rfl 4 rfl ?_
 refine w_ (b_ (h:=AW (h:=e_ (w_ (f_ (h:=l_ (h:=f_ (h:=l_ (h:=AT (h:=AW (h:=s_ (h:=e_ (q_ (w_ (a_ (h:=e_ (Am (?_))))))))))))))))))
 refine Ba (fun m s=>∃(j:Nat) (acc:List Prc),j≤t.ps.length∧m=t.ps.length - j∧t.ps.take j=acc∧((acc=[]∧s=⟨look [(1, .bp 0 0),(2, .bp 1 0),(3, .bp 2 0),(4, .v (.int .i64 (j:Int)))],⟨[As t,Cv,Cw t (.v (.slice none 0 0))],[]⟩⟩)∨(∃cap,acc.length≤cap∧s=⟨look [(1, .bp 0 0),(2, .bp 1 0),(3, .bp 2 0),(4, .v (.int .i64 (j:Int)))],⟨[As t,Cv,Cw t (.bs 3 0 14 acc.length cap),LB 14 Av acc cap],[]⟩⟩))) (t.ps.length) ((wk 3 0)) (⟨0,[],Nat.zero_le _,rfl,rfl, .inl ⟨rfl,rfl⟩⟩) ?_
 rintro m s ⟨j,acc,hj,rfl,hacc,⟨rfl,rfl⟩|⟨cap,hcp,rfl⟩⟩
 ·skip
  refine q_ (w_ (m_ (h:=f_ (h:=l_ (h:=n_ (h:=BG (h:=e_ (?_))))))))
  refine A8 rfl (fun hb1=>?_) (fun hb1=>?_)
  ·have hc1:=bp hb1
   obtain⟨hlt,p,hy,hrow, -⟩:=CZ Av hc1
   have hk:t.ps.take (j+1)=t.ps.take j++[p]:=by rw[List.take_add_one,hy];rfl
   have hop:p.opens.length≤1000:=by have:=ht.opens p (Au hy);omega
   refine AJ (q_ (Am (BF ([(0,As t),(1,Cv),(2,Cw t (.v (.slice none 0 0)))]) 11 (h:=AE 0 (h:=AD 1 (h:=AE 2 (h:=AD 3 (h:=AN 4 (h:=Dl 5 (h:=AD 6 (h:=?_)))))))))))
   refine c_ 7 rfl (AK (Mx p hop) ?_)
   rintro r rfl
   refine o_ (h:=Hz 8 (h:=?_))
   refine c_ 9 rfl (M1 rfl rfl JB (by omega) (by omega) ?_)
   rintro cap2 k bx2 hcp hs
   rw[show CV (.agg (Av p))++List.replicate ((cap2 - 1) * 14) AV.any=LB 14 Av [p] cap2 from V3 DY p cap2]at hs
   obtain⟨rfl,rfl⟩:k=3∧bx2=[_,_,_,_]:=hs.eq
   refine o_ (h:=?_)
   refine AE 10 (h:=?_)
   refine Az 11 rfl (Aw rfl rfl rfl rfl rfl rfl (by repeat constructor) (by repeat constructor) ?_)
   refine o_ (h:=z_ (h:=Ax (t_ (AP (m_ (h:=B8 (h:=a_ (h:=AO (?_)))))))))
   refine AF ?_
   exact⟨t.ps.length - (j+1),_,by omega,⟨j+1,[p],by omega,rfl,(by rw[hk,hacc];rfl), .inr ⟨cap2,hcp,rfl⟩⟩,B1 4 0 rfl rfl rfl (by simp[Ag,Ab,Ac,Bc DY,As,Cw,Cv]) ((by repeat (first|exact Sub.nil|refine Sub.cons _ _ _ rfl rfl ?_|refine Sub.any _ _ ?_|refine Sub.sl _ _ _ _ _ rfl ?_|refine Sub.slnil _ _ _ rfl ?_)))⟩
  have hc1:=bp hb1
  exfalso
  have e:=Ck Av hj hc1
  rw[e,List.take_length]at hacc
  rw[hacc]at h0
  exact absurd h0 (by simp)
 skip
 refine q_ (w_ (m_ (h:=f_ (h:=l_ (h:=n_ (h:=BG (h:=e_ (?_))))))))
 refine A8 rfl (fun hb2=>?_) (fun hb2=>?_)
 ·have hc2:=bp hb2
  obtain⟨hlt,p,hy,hrow, -⟩:=CZ Av hc2
  have hk:t.ps.take (j+1)=t.ps.take j++[p]:=by rw[List.take_add_one,hy];rfl
  have hop:p.opens.length≤1000:=by have:=ht.opens p (Au hy);omega
  refine AJ (q_ (Am (BF ([(0,As t),(1,Cv),(2,Cw t (.bs 3 0 14 acc.length cap))]) 11 (h:=AE 0 (h:=AD 1 (h:=AE 2 (h:=AD 3 (h:=AN 4 (h:=Dl 5 (h:=AD 6 (h:=?_)))))))))))
  refine c_ 7 rfl (AK (Mx p hop) ?_)
  rintro r rfl
  refine o_ (h:=Hz 8 (h:=?_))
  refine c_ 9 rfl (Kq rfl rfl rfl (by rw[Mv DY hcp];omega) JB (by omega) (by have:=congrArg List.length hacc;simp at this;omega) ?_ ?_)
  ·rintro hg row2 bx2 hs hb
   obtain rfl:=R9 DY hs hg
   obtain rfl:bx2=[_,_,_,_]:=hb.one.2
   refine o_ (h:=?_)
   refine AE 10 (h:=?_)
   refine Az 11 rfl (Aw rfl rfl rfl rfl rfl rfl (by repeat constructor) (by repeat constructor) ?_)
   refine o_ (h:=z_ (h:=Ax (t_ (AP (m_ (h:=B8 (h:=a_ (h:=AO (?_)))))))))
   refine AF ?_
   exact⟨t.ps.length - (j+1),_,by omega,⟨j+1,acc++[p],by omega,rfl,(by rw[hk,hacc]), .inr ⟨cap,by simpa using hg,by rw[List.length_append];rfl⟩⟩,B1 4 0 rfl rfl rfl (by simp[Ag,Ab,Ac,Bc DY,As,Cw,Cv]) ((by repeat (first|exact Sub.nil|refine Sub.cons _ _ _ rfl rfl ?_|refine Sub.any _ _ ?_|refine Sub.sl _ _ _ _ _ rfl ?_|refine Sub.slnil _ _ _ rfl ?_)))⟩
  rintro hg cap3 k bx2 hcp3 hs
  rw[show((LB 14 Av acc cap).drop 0).take (acc.length * 14)++CV (.agg (Av p))++List.replicate ((cap3 - (acc.length+1)) * 14) AV.any=LB 14 Av (acc++[p]) cap3 from R8 DY acc p cap cap3]at hs
  obtain⟨rfl,rfl⟩:k=4∧bx2=[_,_,_,_,_]:=hs.eq
  refine o_ (h:=?_)
  refine AE 10 (h:=?_)
  refine Az 11 rfl (Aw rfl rfl rfl rfl rfl rfl (by repeat constructor) (by repeat constructor) ?_)
  refine o_ (h:=z_ (h:=Ax (t_ (AP (m_ (h:=B8 (h:=a_ (h:=AO (?_)))))))))
  refine AF ?_
  first|exact⟨t.ps.length - (j+1),_,by omega,⟨j+1,acc++[p],by omega,rfl,(by rw[hk,hacc]), .inr ⟨cap,by simpa using hg,by rw[List.length_append];rfl⟩⟩,B1 4 0 rfl rfl rfl (by simp[Ag,Ab,Ac,Bc DY,As,Cw,Cv]) ((by repeat (first|exact Sub.nil|refine Sub.cons _ _ _ rfl rfl ?_|refine Sub.any _ _ ?_|refine Sub.sl _ _ _ _ _ rfl ?_|refine Sub.slnil _ _ _ rfl ?_)))⟩|exact⟨t.ps.length - (j+1),_,by omega,⟨j+1,acc++[p],by omega,rfl,(by rw[hk,hacc]), .inr ⟨cap3,by simpa using hcp3,by rw[List.length_append];rfl⟩⟩,E7 [0,1,2,4] (fun i hi=>absurd hi (Nat.not_lt_zero i)) (by decide) (.cons _ _ _ _ _ rfl rfl (.cons _ _ _ _ _ rfl rfl (.cons _ _ _ _ _ rfl rfl (.cons _ _ _ _ _ rfl (Gb DY _ _ _) .nil)))) (by repeat (first|exact SubK.nil|refine SubK.cons _ _ _ _ rfl (LeA.refl _) ?_))⟩
 have hc2:=bp hb2
 have e:=Ck Av hj hc2
 refine BR (Aq (Aq (BS (t_ (w_ (l_ (h:=s_ (h:=e_ (A4 (?_))))))))))
 rw[e,List.take_length]at hacc
 subst hacc
 refine Ai (r:= .agg (Cw t (.bs 3 0 14 t.ps.length cap))) none (h4:=(by simp[Ag,Ab,Ac,Bc DY,As,Cw])) (h5:=(LeA.refl _)) (h6:=⟨rfl,cap,hcp,rfl,rfl⟩)
theorem Fl(t:Tab)(pid:Int)(ht:TabB t):AFn Tryz.prog 63 [.agg (As t), .v (.int .i64 pid)] (fun r=>r= .tup [.agg (Av (AU t pid)), .v (.bool (C1 t pid))]):=by
 have hfew:=ht.few
 refine enter Tryz.func63 rfl rfl rfl rfl rfl 0 rfl ?_
 refine w_ (b_ (h:=AW (h:=a_ (h:=e_ (q_ (w_ (a_ (h:=e_ (Am (?_))))))))))
 refine Ba (fun m s=>∃j:Nat,j≤t.ps.length∧m=t.ps.length - j∧(∀i y,i<j→t.ps[i]?=some y→decide (y.pid=pid)=false)∧s=⟨look [(1, .v (.int .i64 pid)),(2, .bp 0 0),(4, .bp 1 0),(6, .v (.int .i64 (j:Int)))],⟨[As t,[.v (.int .i64 0), .v (.int .i64 0), .v (.int .i64 0), .v (.int .i64 0), .v (.int .i64 0), .v (.int .i64 0), .v (.int .i64 0), .v (.int .i64 0), .v (.int .i64 0), .v (.int .i64 0), .v (.string ⟨#[]⟩), .v (.string ⟨#[]⟩), .v (.slice none 0 0), .v (.bool false)]],[]⟩⟩) (t.ps.length) ((wk 2 0)) (⟨0,Nat.zero_le _,rfl,fun i y hi=>by omega,rfl⟩) ?_
 rintro m s ⟨j,hj,rfl,ha,rfl⟩
 refine q_ (w_ (m_ (h:=f_ (h:=l_ (h:=n_ (h:=BG (h:=e_ (?_))))))))
 refine A8 rfl (fun hb1=>?_) (fun hb1=>?_)
 ·have hc1:=bp hb1
  obtain⟨hlt,p,hy,hrow, -⟩:=CZ Av hc1
  have hop:p.opens.length≤1000:=by have:=ht.opens p (Au hy);omega
  refine AJ (q_ (Am (w_ (f_ (h:=l_ (h:=m_ (h:=i_ (h:=f_ (h:=l_ (h:=m_ (h:=AQ (h:=e_ (?_)))))))))))))
  refine A8 rfl (fun hb2=>?_) (fun hb2=>?_)
  ·have hc2:=bp hb2
   have hg:LE t pid=some p:=HU hy (decide_eq_true hc2) ha
   refine w_ (f_ (h:=l_ (h:=m_ (h:=i_ (h:=l_ (h:=?_))))))
   refine A6 rfl (AK (Mx p hop) ?_)
   rintro r rfl
   refine s_ (h:=a_ (h:=e_ (A4 (AR (A7 (A7 (AR (A7 (?_)))))))))
   refine AB ?_
   rw[AU,C1,hg];rfl
  have hc2:=bp hb2
  refine BA (Ax (t_ (AP (m_ (h:=B8 (h:=a_ (h:=AO (?_))))))))
  refine AF ?_
  refine⟨_,_,?_,⟨j+1,by omega,rfl,E1 hy ha (decide_eq_false hc2),rfl⟩,(wk 2 0)⟩
  omega
 have hc1:=bp hb1
 have e:=Ck Av hj hc1
 subst e
 have hg:LE t pid=none:=Ha ha
 refine BR (Aq (Aq (BS (t_ (w_ (AT (h:=s_ (h:=a_ (h:=e_ (A4 (?_)))))))))))
 refine Ai (r:= .tup [.agg (Av (AU t pid)), .v (.bool (C1 t pid))]) none (h5:=?_) (h6:=⟨rfl,rfl,rfl⟩)
 rw[AU,C1,hg]
 exact(by repeat (first|exact LeA.refl _|exact LeA.nil _|exact LeL.refl _|refine LeA.agg ?_|refine LeA.tup ?_|exact LeL.nil|refine LeL.cons ?_ ?_|exact LeA.any _))
theorem KU(t:Tab)(p:Prc)(ht:TabB t)(h0:0<t.ps.length)(hp:p.opens.length≤1000):AFn Tryz.prog 188 [.agg (As t), .agg (Av p)] (fun r=>r= .agg (As (FM t p))):=by
 have hfew:=ht.few
 refine enter Tryz.func188 rfl rfl rfl rfl rfl 0 rfl ?_
 refine w_ (b_ (h:=b_ (h:=AW (h:=e_ (?_)))))
 refine B5 (fun s=>∃cap,t.ps.length≤cap∧s=⟨look [(3, .bp 1 0),(4, .bp 2 0),(5, .bp 3 0)],⟨[As t,Av p,Cv,Cw t (.bs 4 0 14 (Dj (Fj p) t.ps 0).length cap),LB 14 Av (Dj (Fj p) t.ps 0) cap],[]⟩⟩) ?_ ?_
 ·skip
  refine AP (l_ (h:=?_))
  refine A6 rfl (BW [] rfl (.cons _ _ _ _ _ rfl (LeA.refl _) .nil) (by decide) .nil (VB t ht h0) ?_)
  rintro r bc tc ⟨rfl,cap,hcap,rfl,rfl⟩
  refine⟨rfl,_,(V9 (n:=3) rfl t cap:Back _ [] _ [_,_,_,_,_,_,_]),?_⟩
  refine AW (h:=s_ (h:=AO (?_)))
  refine AF ?_
  exact⟨_,⟨cap,hcap,rfl⟩,E7 [0,1,2,7,6] (fun i hi=>absurd hi (Nat.not_lt_zero i)) (by decide) (.cons _ _ _ _ _ rfl rfl (.cons _ _ _ _ _ rfl rfl (.cons _ _ _ _ _ rfl rfl (.cons _ _ _ _ _ rfl (by rw[Jl];rfl) (.cons _ _ _ _ _ rfl (Gb DY _ _ _) .nil))))) (by repeat (first|exact SubK.nil|refine SubK.cons _ _ _ _ rfl (LeA.refl _) ?_))⟩
 rintro s ⟨cap,hcap,rfl⟩
 refine B5 (fun s=>s=⟨look [(4, .bp 2 0),(5, .bp 3 0)],⟨[As t,Av p,Cv,As (FM t p)],[]⟩⟩) ?_ ?_
 ·skip
  refine w_ (a_ (h:=e_ (Am (?_))))
  refine Ba (fun m s=>∃j:Nat,j≤t.ps.length∧m=t.ps.length - j∧s=⟨look [(3, .bp 1 0),(4, .bp 2 0),(5, .bp 3 0),(6, .v (.int .i64 (j:Int)))],⟨[As t,Av p,Cv,Cw t (.bs 4 0 14 (Dj (Fj p) t.ps j).length cap),LB 14 Av (Dj (Fj p) t.ps j) cap],[]⟩⟩) (t.ps.length) (Be 5 0 (by simp[Ag,Ab,Ac,Bc DY,As,Cw,Cv,Av])) (⟨0,Nat.zero_le _,rfl,rfl⟩) ?_
  rintro m s ⟨j,hj,rfl,rfl⟩
  refine q_ (w_ (m_ (h:=f_ (h:=l_ (h:=?_)))))
  refine A6 rfl (PP rfl ?_)
  refine BG (h:=e_ (?_))
  refine A8 rfl (fun hb1=>?_) (fun hb1=>?_)
  ·have hc1:=bp hb1
   have hlt:j<t.ps.length:=by rw[Jl]at hc1;omega
   obtain⟨x,hy⟩:∃x,t.ps[j]?=some x:=⟨_,B3 hlt⟩
   have hl1:j<(Dj (Fj p) t.ps j).length:=by rw[Jl];exact hlt
   refine AJ (q_ (Am (q_ (DU 9 (h:=AE 0 (h:=AD 1 (h:=AN 2 (h:=?_))))))))
   refine EF (i:=3) rfl (DF (m:=j) rfl rfl rfl hl1 ⟨rfl,rfl⟩) ?_
   refine AE 4 (h:=?_)
   refine EF (i:=5) rfl (D5 rfl rfl (cL DY (RA hy) rfl) ⟨rfl,rfl⟩) ?_
   refine AE 6 (h:=AD 7 (h:=J0 8 (h:=z_ (h:=t_ (?_)))))
   refine A8 rfl (fun hb2=>?_) (fun hb2=>?_)
   ·have hc2:=bp hb2
    have hu:(Dj (Fj p) t.ps j).set j p=Dj (Fj p) t.ps (j+1):=by rw[←V7 hy,Fj,if_pos hc2]
    refine AP (f_ (h:=l_ (h:=m_ (h:=l_ (h:=?_)))))
    refine A6 rfl (DF (m:=j) rfl rfl rfl hl1 ?_)
    refine K0 (Aw rfl rfl rfl rfl rfl rfl (V2 DY (x':=p) (RA hy)) (by repeat constructor) ?_)
    refine AO (Ax (t_ (AP (m_ (h:=B8 (h:=a_ (h:=AO (?_))))))))
    refine AF ?_
    exact⟨t.ps.length - (j+1),_,by omega,⟨j+1,by omega,rfl,rfl⟩,(by first|(rw[hu,show(Dj (Fj p) t.ps j).length=(Dj (Fj p) t.ps (j+1)).length by rw[Jl,Jl]];exact Be 5 0 (by simp[Ag,Ab,Ac,Bc DY,As,Cw,Cv,Av]))|(rw[hu];exact Be 5 0 (by simp[Ag,Ab,Ac,Bc DY,As,Cw,Cv,Av])))⟩
   have hc2:=bp hb2
   have hu:Dj (Fj p) t.ps j=Dj (Fj p) t.ps (j+1):=cM hy (if_neg hc2)
   refine BA (Ax (t_ (AP (m_ (h:=B8 (h:=a_ (h:=AO (?_))))))))
   refine AF ?_
   exact⟨t.ps.length - (j+1),_,by omega,⟨j+1,by omega,rfl,rfl⟩,(by first|(rw[hu,show(Dj (Fj p) t.ps j).length=(Dj (Fj p) t.ps (j+1)).length by rw[Jl,Jl]];exact Be 5 0 (by simp[Ag,Ab,Ac,Bc DY,As,Cw,Cv,Av]))|(rw[hu];exact Be 5 0 (by simp[Ag,Ab,Ac,Bc DY,As,Cw,Cv,Av])))⟩
  have hc1:=bp hb1
  obtain rfl:j=t.ps.length:=by rw[Jl]at hc1;omega
  rw[cO]
  refine BR (Aq (Aq (BS (?_))))
  refine AF ?_
  exact⟨_,rfl,Er 4 1 rfl (congrArg (fun x=>[As t,Av p,Cv,[.v (.int .i64 t.next), .v (.int .i64 t.nextS),x]]) (KT DY rfl rfl (by rw[List.length_map];exact hcap))) (.cons _ _ _ _ rfl (LeA.refl _) (.cons _ _ _ _ rfl (LeA.refl _) .nil))⟩
 rintro s rfl
 refine w_ (l_ (h:=s_ (h:=e_ (A4 (?_)))))
 refine AB ?_
 rfl
end
end Go.Proofs.YtbglbmnhgbgelaaGreatDoor
