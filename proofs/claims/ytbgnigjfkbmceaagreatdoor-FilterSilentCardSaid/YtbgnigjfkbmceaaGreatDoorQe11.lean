/-
  Part 11 of the proof of FilterSilentP: what the statement's proof uses of the texts in wip/tpl.
-/
import Derived.Lib.AppendZerosOnto
import Derived.Test.YtbgnigjfkbmceaaGreatDoorQe10
open Go.Proofs.Tryz (prog)
set_option maxRecDepth 10000
set_option maxHeartbeats 4000000
set_option linter.unusedVariables false
set_option linter.unusedSimpArgs false
namespace Go.Proofs.YtbgnigjfkbmceaaGreatDoor
open Go.RowKit
def Hj(s:AE):List AV:=[.v (.string s)]
theorem XZ{P:Program}{ev:Operand→Option AV}{h:AH}{R:AV→AH→Prop}{d:Option Tmp}{ty:TypeId}{pos:String}{af:Array Edge}{gd:Option (Nat×Bool)}{T:TypeId}{x lo hi:Operand}{s:ByteArray}{a k:Nat}{i j:Int}(hu:P.underlying T=some .string)
    (hx:ev x=some (.v (.string s))) (hl:ev lo=some (.v (.int .i64 i))) (hh:ev hi=some (.v (.int .i64 j))) (hi':i=(a:Int)) (hj:j=(k:Int)) (h1:a≤k) (h2:k≤s.size) (hR:R (.v (.string (s.extract a k))) h):AStep P ⟨d, .slice T x (some lo) (some hi) none,ty,pos,af,gd⟩ ev h R:=by
 refine DO (fun _ G w ec _ he=>?_) hR;have k1:=he x (by simp[Op.operands]) _ hx;have k2:=he lo (by simp[Op.operands]) _ hl;have k3:=he hi (by simp[Op.operands]) _ hh;simp only[rep]at k1 k2 k3;subst hi' hj;refine⟨.string (s.extract a k),?_,by simp only[rep]⟩;simp[execOp,k1,k2,k3,Instr.sliceAt,Instr.slice,Instr.sliceBounds,Instr.sliceBound,asIntOf,run_underlying hu,h1,h2]
def Hk(s:AE):Bool:=decide (s.data.toList.head?=some 47)
def Bf(s:AE):Bool:=decide (s.data.toList.getLast?=some 47)
theorem RH{s:AE}(h:0<s.size):Hk s=decide (((s[0]'h).toNat:Int)=47):=by
 unfold Hk;rw[eQ s h,Bool.eq_iff_iff];simp
theorem RJ{s:AE}(h:0<s.size):Bf s=decide (((s[s.size - 1]'(by omega)).toNat:Int)=47):=by
 unfold Bf;rw[eR s h,Bool.eq_iff_iff];simp
theorem Tl{s:AE}(h:¬0<s.size):Hk s=false:=by
 have:s.data.toList=[]:=FN (by rw[←Lib.size_eq];omega);unfold Hk;rw[this];rfl
theorem Tm{s:AE}(h:¬0<s.size):Bf s=false:=by
 have:s.data.toList=[]:=FN (by rw[←Lib.size_eq];omega);unfold Bf;rw[this];rfl
theorem Xa{s:AE}{k:Nat}(h:k<s.size)(h47:((s[k]'h).toNat:Int)=47):s.data.toList[k]?=some 47:=by
 rw[Lib.data_getElem? s k h]
 congr 1
 refine UInt8.toNat_inj.1 ?_;show _=47;omega
theorem Xb{s:AE}{f k:Nat}{ps:List AE}(hI:FW s.data.toList f k (CO ps))(h:k=s.size∨s.data.toList[k]?=some 47):FW s.data.toList (k+1) (k+1) (CO ps++one_ ((s.data.toList.drop f).take (k - f))):=by
 rcases h with h|h
 ·rw[Lib.size_eq]at h;subst h;exact eL hI
 exact eK hI h
theorem Xc{s:AE}{f k:Nat}{ps:List AE}(hI:FW s.data.toList f k (CO ps))(hk:k≤s.size)(h:k=s.size∨s.data.toList[k]?=some 47)(hf:f<k):FW s.data.toList (k+1) (k+1) (CO (ps++[s.extract f k])):=eS (Xb hI h) (eN (eO s hf hk))
theorem Xd{s:AE}{f k:Nat}{ps:List AE}(hI:FW s.data.toList f k (CO ps))(h:k=s.size∨s.data.toList[k]?=some 47)(hf:¬f<k):FW s.data.toList (k+1) (k+1) (CO ps):=eT (Xb hI h) (by omega)
theorem iY{s:AE}{f k:Nat}{ps:List AE}(hI:FW s.data.toList f k (CO ps))(h:k<s.size)(h47:¬((s[k]'h).toNat:Int)=47):FW s.data.toList f (k+1) (CO ps):=eJ hI (Lib.data_getElem? s k h) (fun e=>h47 (by rw[e];rfl))
theorem Xe(ps:List AE):ps.length≤(EB (CO ps)).length:=by
 induction ps with
 |nil=>simp
 |cons p ps ih=>
   have:CO (p::ps)=p.data.toList::CO ps:=rfl;rw[this,LD];simp;omega
theorem Tn{s:AE}{ps:List AE}(h:CO ps=DR s.data.toList){i:Nat}{x:AE}(hx:ps[i]?=some x):x.size≤s.size:=by
 rw[Lib.size_eq,Lib.size_eq s];refine eY ?_;rw[←h];exact List.mem_map.2 ⟨x,Aj hx,rfl⟩
theorem iZ{ps:List AE}{j:Nat}{x t:AE}(hx:ps[j]?=some x)(h:t.data.toList=EB ((CO ps).take j)):(t++(⟨#[47]⟩++x)).data.toList=EB ((CO ps).take (j+1)):=by
 have e:(CO ps)[j]?=some x.data.toList:=by unfold CO;rw[List.getElem?_map,hx];rfl
 rw[List.take_add_one,e,TA,←h];simp[EB]
theorem RK{a b:AE}(h:a.data.toList=b.data.toList):a=b:=ByteArray.ext (Array.toList_inj.1 h)
theorem j0{s:AE}{ps:List AE}(h:CO ps=DR s.data.toList){i:Nat}{x:AE}(hx:ps[i]?=some x)(hn:Hc x=false):FV s.data.toList=false:=by
 rw[←TC];unfold Ox;rw[←h];have:(CO ps).all FU=false:=List.all_eq_false.2 ⟨x.data.toList,List.mem_map.2 ⟨x,Aj hx,rfl⟩,by rw[←WZ,hn];simp⟩;rw[this,Bool.false_and]
theorem j1{s t1:AE}{ps:List AE}(h:CO ps=DR s.data.toList)(ha:∀(i:Nat) (y:AE),i<ps.length→ps[i]?=some y→Hc y=true)(ht:t1.data.toList=EB ((CO ps).take ps.length))(h3:¬s=⟨#[47]⟩)(h0:0<ps.length):FV s.data.toList=decide (s=t1):=by
 have hl:(CO ps).length=ps.length:=by simp[CO]
 rw[List.take_of_length_le (by omega)]at ht;rw[←TC];unfold Ox;rw[←h,←ht]
 have h1:(CO ps).all FU=true:=List.all_eq_true.2 fun y hy=>by
  obtain⟨z,hz,rfl⟩:=List.mem_map.1 hy;obtain⟨i,hi⟩:=List.getElem?_of_mem hz;rw[←WZ];exact ha i z (Ab.1 hi).1 hi
 have h2:decide (s.data.toList=[47])=false:=decide_eq_false fun e=>h3 (RK e);have h4:CO ps≠[]:=fun e=>by rw[e]at hl;simp at hl;omega
 rw[h1,h2,decide_eq_true h4];simp only[Bool.true_and,Bool.false_or];rw[Bool.eq_iff_iff,decide_eq_true_iff,decide_eq_true_iff];exact⟨fun e=>RK e,fun e=>by rw[e]⟩
theorem j2{s:AE}{ps:List AE}(h:CO ps=DR s.data.toList)(h3:¬s=⟨#[47]⟩)(h0:ps.length=0):FV s.data.toList=false:=by
 have e:CO ps=[]:=by rw[FN h0];rfl
 rw[←TC];unfold Ox;rw[←h,e];have h2:decide (s.data.toList=[47])=false:=decide_eq_false fun e=>h3 (RK e);rw[h2];simp
section
theorem To(s:AE)(hs:s.size≤100000):AFn prog 191 [.v (.string s)] (fun r=>∃ps:List AE,CO ps=DR s.data.toList∧r= .tup [.sl 1 (ps.map Hj) none, .v (.bool (Hk s)), .v (.bool (Bf s))]):=by
 have hsz:=Lib.size_eq s;refine enter Tryz.func191 rfl rfl rfl rfl rfl 0 rfl ?_;refine w_ (a_ (h:=a_ (h:=B4 (h:=DG (h:=DG (h:=Ca (h:=?_)))))));refine NW 5 9 1 rfl (by repeat constructor) ?_;refine BU (fun m t=>∃(f k:Nat) (ps:List AE),k≤s.size+1∧f≤k∧ps.length≤k∧m=s.size+1 - k∧FW s.data.toList f k (CO ps)∧t=⟨look [(0, .v (.string s)),(5, .sl 1 (ps.map Hj) (some 0)),(6, .v (.int .i64 (f:Int))),(7, .v (.int .i64 (k:Int)))],⟨[],[(9,1,ps.map Hj)]⟩⟩) (s.size+1) ((wk 0 1)) (⟨0,0,[],by omega,by omega,by simp,rfl,eM _,rfl⟩) ?_;rintro m t ⟨f,k,ps,hk,hfk,hpl,rfl,hI,rfl⟩;refine Dq (h:=n_ (h:=Gg (h:=e_ (?_))));refine A4 rfl (fun hb1 hc1=>?_) (fun hb1 hc1=>?_)
 ·refine C0 (h:=E9 (h:=n_ (h:=Dy (h:=?_))));refine AJ false rfl rfl (fun hb2 hc2=>?_) (fun hb2 hc2=>?_)
  ·refine BT (h:=DY (h:=CX (h:=Dq (h:=E6 (h:=e_ (?_))))));refine A4 rfl (fun hb3 hc3=>?_) (fun hb3 hc3=>?_)
   ·have hnx:=Xc hI (by omega) (.inl (by omega)) (by omega);refine EQ (h:=m_ (h:=m_ (h:=?_)));refine A3 rfl (XZ (a:=f) (k:=k) Tryz.underlying9 rfl rfl rfl rfl rfl (by omega) (by omega) ?_);refine BY (h:=?_);refine A3 rfl (EF rfl rfl rfl (by simp;omega) (by repeat constructor) ?_);refine B4 (h:=Mt (h:=Eg (h:=?_)));refine⟨_,_,?_,⟨_,k+1,_,by omega,by omega,(by(try simp only[List.length_append,List.length_cons,List.length_nil]);omega),rfl,hnx,rfl⟩,(by(try simp only[List.map_append,List.map_cons,List.map_nil]);exact Ao 0 1 rfl rfl rfl rfl ((by repeat (first|exact Sub.nil|refine Ap rfl rfl ?_|refine At ?_|refine Au rfl ?_|refine Av rfl ?_))))⟩;omega
   have hnx:=Xd hI (.inl (by omega)) (by omega);refine AF (Mt (h:=Eg (h:=?_)));refine⟨_,_,?_,⟨_,k+1,_,by omega,by omega,(by(try simp only[List.length_append,List.length_cons,List.length_nil]);omega),rfl,hnx,rfl⟩,(by(try simp only[List.map_append,List.map_cons,List.map_nil]);exact Ao 0 1 rfl rfl rfl rfl ((by repeat (first|exact Sub.nil|refine Ap rfl rfl ?_|refine At ?_|refine Au rfl ?_|refine Av rfl ?_))))⟩;omega
  refine m_ (h:=m_ (h:=?_));refine Aq (Lg (n:=k) Tryz.underlying9 rfl rfl rfl (by omega) ?_);refine EG (h:=CH (h:=?_));refine A4 rfl (fun hb4 hc4=>?_) (fun hb4 hc4=>?_)
  ·refine Dq (h:=E6 (h:=e_ (?_)));refine A4 rfl (fun hb5 hc5=>?_) (fun hb5 hc5=>?_)
   ·have hnx:=Xc hI (by omega) (.inr (Xa (by omega) hc4)) (by omega);refine EQ (h:=m_ (h:=m_ (h:=?_)));refine A3 rfl (XZ (a:=f) (k:=k) Tryz.underlying9 rfl rfl rfl rfl rfl (by omega) (by omega) ?_);refine BY (h:=?_);refine A3 rfl (EF rfl rfl rfl (by simp;omega) (by repeat constructor) ?_);refine B4 (h:=Mt (h:=Eg (h:=?_)));refine⟨_,_,?_,⟨_,k+1,_,by omega,by omega,(by(try simp only[List.length_append,List.length_cons,List.length_nil]);omega),rfl,hnx,rfl⟩,(by(try simp only[List.map_append,List.map_cons,List.map_nil]);exact Ao 0 1 rfl rfl rfl rfl ((by repeat (first|exact Sub.nil|refine Ap rfl rfl ?_|refine At ?_|refine Au rfl ?_|refine Av rfl ?_))))⟩;omega
   have hnx:=Xd hI (.inr (Xa (by omega) hc4)) (by omega);refine AF (Mt (h:=Eg (h:=?_)));refine⟨_,_,?_,⟨_,k+1,_,by omega,by omega,(by(try simp only[List.length_append,List.length_cons,List.length_nil]);omega),rfl,hnx,rfl⟩,(by(try simp only[List.map_append,List.map_cons,List.map_nil]);exact Ao 0 1 rfl rfl rfl rfl ((by repeat (first|exact Sub.nil|refine Ap rfl rfl ?_|refine At ?_|refine Au rfl ?_|refine Av rfl ?_))))⟩;omega
  have hnx:=iY hI (by omega) hc4;refine DH (h:=?_);refine⟨_,_,?_,⟨_,k+1,_,by omega,by omega,(by(try simp only[List.length_append,List.length_cons,List.length_nil]);omega),rfl,hnx,rfl⟩,(by(try simp only[List.map_append,List.map_cons,List.map_nil]);exact Ao 0 1 rfl rfl rfl rfl ((by repeat (first|exact Sub.nil|refine Ap rfl rfl ?_|refine At ?_|refine Au rfl ?_|refine Av rfl ?_))))⟩;omega
 refine Mi (Ke (Ke (LW (t_ (q_ (Dd 23 (h:=AG 0 (h:=AG 1 (h:=MH 2 (h:=SQ 3 (h:=AG 4 (h:=?_))))))))))));refine JA (j:=4) rfl (fun hb6=>?_) (fun hb6=>?_)
 ·have hc6:=bp hb6;refine AG 5 (h:=?_);refine FO (i:=6) rfl (Lg (n:=0) Tryz.underlying9 rfl rfl rfl (by omega) ⟨rfl,rfl⟩) ?_;refine Jm 7 (h:=JF 8 (h:=AG 9 (h:=MH 10 (h:=SQ 11 (h:=AG 12 (h:=?_))))));refine JA (j:=12) rfl (fun hb7=>?_) (fun hb7=>?_)
  ·have hc7:=bp hb7;refine AG 13 (h:=AG 14 (h:=MH 15 (h:=SP 16 (h:=?_))));refine FO (i:=17) rfl (Lg (n:=s.size - 1) Tryz.underlying9 rfl rfl (by omega) (by omega) ⟨rfl,rfl⟩) ?_;refine Jm 18 (h:=JF 19 (h:=BB 20 (h:=BB 21 (h:=BB 22 (h:=z_ (h:=t_ (B5 (?_))))))));refine A6 ?_;refine⟨ps,Qw hI (by omega),?_⟩
   (rw[RH (by omega),RJ (by omega)];rfl)
  have hc7:=bp hb7;refine BV 13 (h:=BV 14 (h:=BV 15 (h:=BV 16 (h:=BV 17 (h:=BV 18 (h:=Jl 19 (h:=BB 20 (h:=BB 21 (h:=BB 22 (h:=z_ (h:=t_ (B5 (?_)))))))))))));refine A6 ?_;refine⟨ps,Qw hI (by omega),?_⟩
  first|(rw[RH (by omega),RJ (by omega)];rfl)|(rw[Tl (by omega),Tm (by omega)];rfl)|(exfalso;omega)
 have hc6:=bp hb6;refine BV 5 (h:=BV 6 (h:=BV 7 (h:=Jl 8 (h:=AG 9 (h:=MH 10 (h:=SQ 11 (h:=AG 12 (h:=?_))))))));refine JA (j:=12) rfl (fun hb8=>?_) (fun hb8=>?_)
 ·have hc8:=bp hb8;refine AG 13 (h:=AG 14 (h:=MH 15 (h:=SP 16 (h:=?_))));refine FO (i:=17) rfl (Lg (n:=s.size - 1) Tryz.underlying9 rfl rfl (by omega) (by omega) ⟨rfl,rfl⟩) ?_;refine Jm 18 (h:=JF 19 (h:=BB 20 (h:=BB 21 (h:=BB 22 (h:=z_ (h:=t_ (B5 (?_))))))));refine A6 ?_;refine⟨ps,Qw hI (by omega),?_⟩
  first|(rw[RH (by omega),RJ (by omega)];rfl)|(rw[Tl (by omega),Tm (by omega)];rfl)|(exfalso;omega)
 have hc8:=bp hb8;refine BV 13 (h:=BV 14 (h:=BV 15 (h:=BV 16 (h:=BV 17 (h:=BV 18 (h:=Jl 19 (h:=BB 20 (h:=BB 21 (h:=BB 22 (h:=z_ (h:=t_ (B5 (?_)))))))))))));refine A6 ?_;refine⟨ps,Qw hI (by omega),?_⟩
 first|(rw[RH (by omega),RJ (by omega)];rfl)|(rw[Tl (by omega),Tm (by omega)];rfl)
theorem RL(s:AE)(hs:s.size≤50000):AFn prog 156 [.v (.string s)] (fun r=>r= .v (.bool (FV s.data.toList))):=by
 have hsz:=Lib.size_eq s;refine enter Tryz.func156 rfl rfl rfl rfl rfl 0 rfl ?_;refine EX (h:=?_);refine A3 rfl (A8 (To s (by omega)) ?_);rintro r ⟨ps,hps,rfl⟩;have hpl:(ps.map Hj).length=ps.length:=by simp
 have hfl:=TE s.data.toList;rw[←hps]at hfl;have hpm:=Xe ps;refine GF (h:=x_ (h:=a_ (h:=a_ (h:=B4 (h:=DG (h:=Ca (h:=?_)))))));refine BU (fun m t=>∃(j:Nat) (t1:AE),j≤ps.length∧m=ps.length - j∧(∀i y,i<j→ps[i]?=some y→Hc y=true)∧t1.data.toList=EB ((CO ps).take j)∧t=⟨look [(0, .v (.string s)),(3, .sl 1 (ps.map Hj) none),(6, .v (.string t1)),(7, .v (.int .i64 (j:Int)))],⟨[],[]⟩⟩) (ps.length) ((wk 0 0)) (⟨0,⟨#[]⟩,by omega,rfl,fun i y hi=>by omega,rfl,rfl⟩) ?_;rintro m t ⟨j,t1,hj,rfl,ha,ht1,rfl⟩;refine Dq (h:=Gm (h:=?_));refine A4 rfl (fun hb1 hc1=>?_) (fun hb1 hc1=>?_)
 ·obtain⟨hlt,x,hy,hrow, -⟩:=C1 Hj hc1;have ht2:t1.size≤s.size+1:=by rw[Lib.size_eq,ht1];exact Nat.le_trans (eX _ _) (by omega)
  refine C0 (h:=Dq (h:=?_));refine A3 rfl (D7 (n:=j) rfl rfl rfl hrow ?_);refine l_ (h:=?_);refine A3 rfl (A8 (Sa x (by have:=Tn hps hy;omega)) ?_);rintro r rfl;refine DA (h:=?_);refine A4 rfl (fun hb2 hc2=>?_) (fun hb2 hc2=>?_)
  ·refine BL (h:=D1 (h:=CT (h:=?_)));refine A6 ?_;exact vb (j0 hps hy hc2).symm
  refine AF (EQ (h:=m_ (h:=?_)));refine A3 rfl (D7 (n:=j) rfl rfl rfl hrow ?_);refine l_ (h:=?_);refine A3 rfl (Gd rfl rfl (by have:=Tn hps hy;show 1+x.size≤_;omega) ?_);refine A3 rfl (Gd rfl rfl (by have:=Tn hps hy;rw[ByteArray.size_append];show t1.size+(1+x.size)≤_;omega) ?_);refine Gk (h:=Eg (h:=?_));refine⟨_,_,?_,⟨j+1,t1++(⟨#[47]⟩++x),by omega,rfl,GL hy ha hc2,iZ hy ht1,rfl⟩,(wk 0 0)⟩;omega
 refine CJ (h:=AX (h:=Dy (h:=?_)));refine AJ false rfl rfl (fun hb3 hc3=>?_) (fun hb3 hc3=>?_)
 ·refine GH (h:=Dc (h:=Gp (h:=?_)));refine A6 ?_;exact vb (by rw[hc3];rfl)
 refine m_ (h:=Gu (h:=m_ (h:=?_)));refine AJ true rfl rfl (fun hb4 hc4=>?_) (fun hb4 hc4=>?_)
 ·refine m_ (h:=D9 (h:=CZ (h:=Bx (h:=B8 (h:=?_)))));refine A6 ?_;have e:=CF Hj hj hc1;subst e;exact vb (j1 hps ha ht1 hc3 (by omega)).symm
 refine D8 (h:=Bx (h:=B8 (h:=?_)));refine A6 ?_;have e:=CF Hj hj hc1;subst e;exact vb (j2 hps hc3 (by omega)).symm
end
theorem Tp{s:Spc}{d:Int}(h:(C8 s d).isSome=true):C8 s d=some ((C8 s d).getD (0,0)):=by
 cases ho:C8 s d with
 |none=>rw[ho]at h;cases h
 |some o=>rfl
theorem j4{s:Spc}{d:Int}(h:(C8 s d).isSome=false):C8 s d=none:=by
 cases ho:C8 s d with
 |none=>rfl
 |some o=>rw[ho]at h;cases h
theorem Xf{s:Spc}{a:AB}(k:Nat)(h:Af s.files a=false):GR s (k+1) a=(0,0):=by unfold GR;rw[h];rfl
theorem j5{s:Spc}{a:AB}(k:Nat)(h:Af s.files a=true)(h1:¬a.2=1):GR s (k+1) a=(a.1,(Ac s.files a).parent):=by unfold GR;rw[if_pos h,if_pos h1]
theorem j6{s:Spc}{a:AB}(k:Nat)(h:Af s.files a=true)(h1:a.2=1)(ho:(C8 s a.1).isSome=true):GR s (k+1) a=GR s k ((C8 s a.1).getD (0,0)):=by
 conv=>lhs;unfold GR
 rw[if_pos h,if_neg (by simpa using h1),Tp ho];rfl
theorem j7{s:Spc}{a:AB}(k:Nat)(h:Af s.files a=true)(h1:a.2=1)(ho:(C8 s a.1).isSome=false):GR s (k+1) a=a:=by
 conv=>lhs;unfold GR
 rw[if_pos h,if_neg (by simpa using h1),j4 ho]
section
theorem Xg{s:Spc}(hs:SpcB s)(hv:SpcV s)(a:AB)
    (hrec:Af s.files a=true→∀b,G6 s a=some b→AFn prog 195 [.agg (AY s), .agg (AA b)] (fun r=>r= .tup [.v (.string (ES s b).1), .v (.bool (ES s b).2)])):
    AFn prog 195 [.agg (AY s), .agg (AA a)] (fun r=>r= .tup [.v (.string (ES s a).1), .v (.bool (ES s a).2)]):=by
 have hnm:=Tg hv.files a;have hwz:=XW hv;refine enter Tryz.func195 rfl rfl rfl rfl rfl 0 rfl ?_;refine Fd (h:=a_ (h:=J1 (h:=l_ (h:=?_))));refine A3 rfl (A8 (Ki s.files a hs.files) ?_);rintro r rfl;refine Eh (h:=?_);refine AJ false rfl rfl (fun hb1 hc1=>?_) (fun hb1 hc1=>?_)
 ·refine B7 (h:=ER (h:=CX (h:=w_ (EO (h:=?_)))));refine A6 ?_
  (rw[PK hv (by simp_all)];rfl)
 refine l_ (h:=Aa (h:=?_));refine Aq (A8 (Og s a.1 hs) ?_);rintro r rfl;refine DP (h:=CH (h:=?_));refine A4 rfl (fun hb2 hc2=>?_) (fun hb2 hc2=>?_)
 ·refine w_ (EO (h:=?_));refine A6 ?_
  (rw[PK hv (by simp_all)];rfl)
 refine DQ (h:=BN (h:=?_));refine A4 rfl (fun hb3 hc3=>?_) (fun hb3 hc3=>?_)
 ·refine q_ (C5 (h:=Aa (h:=?_)));refine A3 rfl (A8 (Se s a.1 hs) ?_);rintro r rfl;refine FC (h:=Bu (h:=e_ (?_)));refine A4 rfl (fun hb4 hc4=>?_) (fun hb4 hc4=>?_)
  ·have hst:G6 s a=some ((C8 s a.1).getD (0,0)):=by unfold G6;rw[if_neg (by simpa using hc3)];exact Tp hc4
   obtain⟨hw1,hw2⟩:=XU hv hc1 hc2 (fun e=>by rw[e,iL hv]at hc4;cases hc4) hst;rw[if_pos hc3]at hw1;refine CN (h:=?_);refine A3 rfl (A8 (hrec hc1 _ hst) ?_);rintro r rfl
   skip
   refine Kg (h:=EO (h:=Ba (?_)));refine A6 ?_
   first|(rw[PK hv (by simp_all)];rfl)|(rw[hw1];first|rfl|(rw[←hw2];rfl))
  have h00:a=(0,1):=by
   refine Prod.ext ?_ hc3;have:=hc2;unfold DL at this;rw[hc4,Bool.false_or]at this;exact of_decide_eq_true this
  refine AF (w_ (EO (h:=?_)));refine A6 ?_
  first|(rw[PK hv (by simp_all)];rfl)|(rw[hw1];first|rfl|(rw[←hw2];rfl))|(rw[h00,iO hv (by rw[←h00];exact hc1)];rfl)
 have hst:G6 s a=some (a.1,(Ac s.files a).parent):=if_pos hc3;obtain⟨hw1,hw2⟩:=XU hv hc1 hc2 (fun e=>hc3 (by rw[e])) hst;rw[if_neg hc3]at hw1;refine AF (B0 (h:=l_ (h:=?_)));refine A3 rfl (A8 (FF s.files a hs.files) ?_);rintro r rfl;refine FC (h:=B4 (h:=C5 (h:=JM (h:=Bi (h:=?_)))));refine A3 rfl (A8 (hrec hc1 _ hst) ?_);rintro r rfl
 skip
 refine GF (h:=a_ (h:=Bu (h:=Aa (h:=l_ (h:=?_)))));refine A3 rfl (A8 (iX s a hs) ?_);rintro r rfl;refine A3 rfl (A8 (XY (ES s (a.1,(Ac s.files a).parent)).1 (Kq s a) (by have:=hwz (a.1,(Ac s.files a).parent);omega) (by omega)) ?_);rintro r rfl;refine m_ (h:=a_ (h:=B8 (h:=?_)));refine A6 ?_
 first|(rw[PK hv (by simp_all)];rfl)|(rw[hw1];first|rfl|(rw[←hw2];rfl))
theorem j8{s:Spc}(hs:SpcB s)(hv:SpcV s)(a:AB):AFn prog 195 [.agg (AY s), .agg (AA a)] (fun r=>r= .tup [.v (.string (ES s a).1), .v (.bool (ES s a).2)]):=by
 have key:∀(k:Nat) (a:AB),ends s k a→AFn prog 195 [.agg (AY s), .agg (AA a)] (fun r=>r= .tup [.v (.string (ES s a).1), .v (.bool (ES s a).2)]):=by
  intro k
  induction k with
  |zero=>intro a h;exact Xg hs hv a fun hd=>by rw[show Af s.files a=false from h]at hd;cases hd
  |succ k ih=>intro a h;exact Xg hs hv a fun hd b hb=>ih b (h.resolve_left (by rw[hd];simp) b hb)
 exact key _ a (RF hv a)
theorem j9{s:Spc}(hs:SpcB s)(a:AB)(p:Nat)(hrec:(C8 s a.1).isSome=true→AFn prog 194 [.agg (AY s), .agg (AA ((C8 s a.1).getD (0,0)))] (fun r=>r= .agg (AA (GR s p ((C8 s a.1).getD (0,0)))))):
    AFn prog 194 [.agg (AY s), .agg (AA a)] (fun r=>r= .agg (AA (GR s (p+1) a))):=by
 have hde:=MK s.files a;refine enter Tryz.func194 rfl rfl rfl rfl rfl 0 rfl ?_;refine Ff (h:=e_ (B0 (h:=l_ (h:=?_))));refine A3 rfl (A8 (FF s.files a hs.files) ?_);rintro r rfl;refine JG (h:=Eh (h:=?_));refine AJ false rfl rfl (fun hb1 hc1=>?_) (fun hb1 hc1=>?_)
 ·refine ER (h:=CX (h:=Jp (h:=e_ (B5 (Ba (?_))))));refine A6 ?_;rw[Xf p (by rw[hde,hc1];rfl)];rfl
 refine C6 (h:=CH (h:=?_));refine A4 rfl (fun hb2 hc2=>?_) (fun hb2 hc2=>?_)
 ·refine Jp (h:=e_ (B5 (Ba (?_))));refine A6 ?_;rw[Xf p (by rw[hde,decide_eq_false hc2,Bool.and_false])];rfl
 refine DQ (h:=Bo (h:=?_));refine A4 rfl (fun hb3 hc3=>?_) (fun hb3 hc3=>?_)
 ·refine Hy (h:=HL (h:=e_ (B5 (Ba (?_)))));refine A6 ?_;rw[j5 p (by rw[hde,hc1,decide_eq_true hc2];rfl) hc3];rfl
 refine FD (h:=C5 (h:=Aa (h:=?_)));refine A3 rfl (A8 (Se s a.1 hs) ?_);rintro r rfl;refine FC (h:=Bu (h:=e_ (?_)));refine A4 rfl (fun hb4 hc4=>?_) (fun hb4 hc4=>?_)
 ·refine CN (h:=?_);refine A3 rfl (A8 (hrec hc4) ?_);rintro r rfl;refine s_ (h:=e_ (B5 (Ba (?_))));refine A6 ?_;rw[j6 p (by rw[hde,hc1,decide_eq_true hc2];rfl) hc3 hc4];rfl
 refine AF (Dr (h:=e_ (B5 (?_))));refine A6 ?_;rw[j7 p (by rw[hde,hc1,decide_eq_true hc2];rfl) hc3 hc4];rfl
theorem jA{s:Spc}(hs:SpcB s)(hv:SpcV s):∀(p:Nat) (a:AB),MX s a.1<p→AFn prog 194 [.agg (AY s), .agg (AA a)] (fun r=>r= .agg (AA (GR s p a))):=by
 intro p
 induction p with
 |zero=>intro a h;omega
 |succ p ih=>intro a hp;exact j9 hs a p fun ho=>ih _ (by have:=XJ hv (Tp ho);omega)
end
end Go.Proofs.YtbgnigjfkbmceaaGreatDoor
namespace Go.Proofs.YtbgnigjfkbmceaaGreatDoor
structure Fnd where
 dir:AB
 name:AE
 file:AB
 ex:Bool
 slash:Bool
 path:AE
def G7:Fnd:=⟨(0,0),⟨#[]⟩,(0,0),false,false,⟨#[]⟩⟩
def Ah(x:Fnd):List AV:=[.v (.int .i64 x.dir.1), .v (.int .i64 x.dir.2), .v (.string x.name), .v (.int .i64 x.file.1), .v (.int .i64 x.file.2), .v (.bool x.ex), .v (.bool x.slash), .v (.string x.path)]
def FX(s:AE):List AE:=(DR s.data.toList).map fun l=>⟨l.toArray⟩
theorem Xh(s:AE):CO (FX s)=DR s.data.toList:=by
 unfold CO FX;rw[List.map_map];have:((fun x:AE=>x.data.toList) ∘ fun l:Bs=>(⟨l.toArray⟩:AE))=id:=by funext l;simp
 rw[this,List.map_id]
theorem Xi:∀{a b:List AE},CO a=CO b→a=b
 |[],[],_=>rfl
 |[],_::_,h=>by simp[CO]at h
 |_::_,[],h=>by simp[CO]at h
 |x::a,y::b,h=>by
   simp only[CO,List.map_cons,List.cons.injEq]at h;rw[RK h.1,Xi (a:=a) (b:=b) h.2]
theorem Xj{s:AE}{ps:List AE}(h:CO ps=DR s.data.toList):ps=FX s:=Xi (h.trans (Xh s).symm)
theorem Tq(s:AE):(FX s).length≤s.size+1:=by
 have h1:=Xe (FX s);have h2:=TE s.data.toList;rw[←Xh]at h2;rw[Lib.size_eq];omega
def Hl(s:Spc):AB:=FG s s.mounts.length (0,1)
structure Lk where
 ps:List AE
 dir:AB
 name:AE
 file:AB
 ex:Bool
 links:Nat
abbrev jB:AE:=⟨#[46]⟩
abbrev jC:AE:=⟨#[46,46]⟩
def DS(s:Spc)(fl:Bool)(p:AE)(ps:List AE)(a:AB)(lk:Nat):Int ⊕ Lk:=
 if Af s.files a=false then .inl 20
 else if 12<p.size then .inl 36
 else if p=jB then .inr ⟨ps,a,⟨#[]⟩,a,true,lk⟩
 else if p=jC then .inr ⟨ps,FG s s.mounts.length (GR s (s.mounts.length+1) a),⟨#[]⟩,FG s s.mounts.length (GR s (s.mounts.length+1) a),true,lk⟩
 else if(AK s.files a p).2≠0 then(if ps≠[]∨Hc p=false then .inl 2 else .inr ⟨[],a,p,(0,0),false,lk⟩)
 else if(Ac s.files (AK s.files a p).1).kind=3∧(ps≠[]∨fl=true)then
  (if lk=8 then .inl 40 else
    .inr ⟨FX (Ac s.files (AK s.files a p).1).target++ps,if Hk (Ac s.files (AK s.files a p).1).target=true then Hl s else a,⟨#[]⟩,if Hk (Ac s.files (AK s.files a p).1).target=true then Hl s else a,true,lk+1⟩)
 else .inr ⟨ps,a,p,FG s s.mounts.length (AK s.files a p).1,true,lk⟩
def Tr:Lk:=⟨[],(0,0),⟨#[]⟩,(0,0),false,0⟩
def Kr(s:Spc)(fl:Bool):Nat→Lk→Int×Lk
 |0,σ=>(0,σ)
 |k+1,σ=>match σ.ps with
   |[]=>(0,σ)
   |p::ps=>match DS s fl p ps σ.file σ.links with
     | .inl e=>(e,Tr)
     | .inr τ=>Kr s fl k τ
def GS(σ:Lk):Nat:=(8 - σ.links) * 200+σ.ps.length
section
variable {s:Spc}(hv:FlsV s.files)
include hv
theorem Ts{fl:Bool}{p:AE}{ps:List AE}{a:AB}{lk:Nat}{τ:Lk}(h8:lk≤8)(h:DS s fl p ps a lk= .inr τ):τ.links≤8∧GS τ<(8 - lk) * 200+(ps.length+1):=by
 unfold DS at h;split at h
 ·cases h
 split at h
 ·cases h
 split at h
 ·injection h with h;subst h;exact⟨h8,by unfold GS;simp only;omega⟩
 split at h
 ·injection h with h;subst h;exact⟨h8,by unfold GS;simp only;omega⟩
 split at h
 ·split at h
  ·cases h
  injection h with h;subst h;exact⟨h8,by unfold GS;simp only[List.length_nil];omega⟩
 split at h
 ·split at h
  ·cases h
  rename_i h9;injection h with h;subst h;have ht:=TY hv (AK s.files a p).1;have hl:=Tq (Ac s.files (AK s.files a p).1).target;refine⟨by simp only;omega,?_⟩;unfold GS;simp only[List.length_append]
  have:(8 - lk) * 200=(8 - (lk+1)) * 200+200:=by
   rw[show 8 - lk=(8 - (lk+1))+1 by omega,Nat.add_mul]
  omega
 injection h with h;subst h;exact⟨h8,by unfold GS;simp only;omega⟩
theorem jD(fl:Bool):∀(k k':Nat) (σ:Lk),σ.links≤8→GS σ≤k→GS σ≤k'→Kr s fl k σ=Kr s fl k' σ:=by
 intro k
 induction k with
 |zero=>
   intro k' σ h8 h h'
   have he:σ.ps=[]:=by
    unfold GS at h;exact FN (by omega)
   cases k' with
   |zero=>rfl
   |succ k'=>unfold Kr;rw[he]
 |succ k ih=>
   intro k' σ h8 h h'
   cases hps:σ.ps with
   |nil=>cases k'<;>(unfold Kr;rw[hps])
   |cons p ps=>
     have hm:GS σ=(8 - σ.links) * 200+(ps.length+1):=by unfold GS;rw[hps];rfl
     cases k' with
     |zero=>rw[hm]at h';omega
     |succ k'=>
       unfold Kr;rw[hps];simp only
       cases hs:DS s fl p ps σ.file σ.links with
       |inl e=>rfl
       |inr τ=>
         simp only;obtain⟨h1,h2⟩:=Ts hv h8 hs;exact ih k' τ h1 (by omega) (by omega)
end
def G8(s:Spc)(fl:Bool)(σ:Lk):Int×Lk:=Kr s fl (GS σ) σ
theorem Xk{s:Spc}{fl:Bool}{σ:Lk}(h:σ.ps=[]):G8 s fl σ=(0,σ):=by
 unfold G8
 cases GS σ with
 |zero=>rfl
 |succ k=>unfold Kr;rw[h]
theorem jE{s:Spc}(hv:FlsV s.files){fl:Bool}{σ:Lk}{p:AE}{ps:List AE}(h8:σ.links≤8)(h:σ.ps=p::ps):G8 s fl σ=match DS s fl p ps σ.file σ.links with
    | .inl e=>(e,Tr)
    | .inr τ=>G8 s fl τ:=by
 have hm:GS σ=((8 - σ.links) * 200+ps.length)+1:=by unfold GS;rw[h];rfl
 unfold G8;rw[hm]
 conv=>lhs;unfold Kr
 rw[h];simp only
 cases hs:DS s fl p ps σ.file σ.links with
 |inl e=>rfl
 |inr τ=>
   simp only;obtain⟨h1,h2⟩:=Ts hv h8 hs;exact jD hv fl _ _ τ h1 (by omega) (B3 _)
def MZ(s:Spc)(sl:Bool)(τ:Lk):Fnd:=⟨τ.dir,τ.name,τ.file,τ.ex,sl,if(ES s τ.dir).2=true then(if τ.name=⟨#[]⟩then(ES s τ.dir).1 else KP (ES s τ.dir).1 τ.name)else⟨#[]⟩⟩
def Ks(ps:List AE)(a:AB):Lk:=⟨ps,a,⟨#[]⟩,a,true,0⟩
def C2(s:Spc)(start:AB)(p:AE)(fl:Bool):Fnd×Int:=
 if p=⟨#[]⟩then(G7,2)else if 128<p.size then(G7,36)
 else if Af s.files (if Hk p=true then Hl s else start)=false then(G7,2)
 else if(G8 s (fl||Bf p) (Ks (FX p) (if Hk p=true then Hl s else start))).1≠0 then(G7,(G8 s (fl||Bf p) (Ks (FX p) (if Hk p=true then Hl s else start))).1)
 else if Bf p=true∧(G8 s (fl||Bf p) (Ks (FX p) (if Hk p=true then Hl s else start))).2.ex=true∧Af s.files (G8 s (fl||Bf p) (Ks (FX p) (if Hk p=true then Hl s else start))).2.file=false then(G7,20)
 else(MZ s (Bf p) (G8 s (fl||Bf p) (Ks (FX p) (if Hk p=true then Hl s else start))).2,0)
end Go.Proofs.YtbgnigjfkbmceaaGreatDoor
namespace Go.Proofs.YtbgnigjfkbmceaaGreatDoor
open Go.RowKit
structure Dsc where
 fd:Int
 file:AB
 flags:Int
structure Prc where
 pid:Int
 ppid:Int
 uid:Int
 euid:Int
 gid:Int
 egid:Int
 auid:Int
 ses:Int
 cwd:AB
 comm:AE
 exe:AE
 opens:List Dsc
 audited:Bool
structure Tab where
 next:Int
 nextS:Int
 ps:List Prc
structure Syst where
 spc:Spc
 tab:Tab
structure Cal where
 num:Int
 a0:Int
 a1:Int
 a2:Int
 a3:Int
 paths:List AE
 args:List AE
structure Res where
 exit:Int
 child:Int
 gone:Int
 items:List Itm
 changes:List Lc
structure Wrk where
 s:Syst
 p:Prc
 c:Cal
 found:List Fnd
 r:Res
def Tt:Prc:=⟨0,0,0,0,0,0,0,0,(0,0),⟨#[]⟩,⟨#[]⟩,[],false⟩
def EC:Tab:=⟨0,0,[]⟩
def GT:Res:=⟨0,0,0,[],[]⟩
def O3(cwd:AB):Tab:=⟨2,1,[⟨1,0,0,0,0,0,4294967295,4294967295,cwd,⟨#[105,110,105,116]⟩,⟨#[47,105,110,105,116]⟩,[],true⟩]⟩
def O4(t:Tab)(pid:Int):Option Prc:=t.ps.find? fun p=>decide (p.pid=pid)
def CG(t:Tab)(pid:Int):Bool:=(O4 t pid).isSome
def AN(t:Tab)(pid:Int):Prc:=(O4 t pid).getD Tt
def J5(t:Tab)(p:Prc):Tab:=⟨t.next,t.nextS,t.ps.map fun x=>if x.pid=p.pid then p else x⟩
def GU(t:Tab)(pid:Int):Tab×Int×Int:=
 if CG t pid=false then(EC,0,3)else if 16≤(t.ps.length:Int)∨t.next=1073741824 then(EC,0,11)
 else(⟨t.next+1,t.nextS,t.ps++[{AN t pid with pid:=t.next,ppid:=pid}]⟩,t.next,0)
def JT(pid:Int)(p:Prc):Prc:=if p.ppid=pid then{p with ppid:=1}else p
def JU(t:Tab)(pid:Int):Tab×Int:=
 if CG t pid=false then(EC,3)else if pid=1 then(EC,1)
 else(⟨t.next,t.nextS,(t.ps.filter fun p=>decide (p.pid≠pid)).map (JT pid)⟩,0)
def F6(priv:Bool)(real eff n:Int):Int×Int×Int:=if priv=true then(n,n,0)else if n=real∨n=eff then(real,n,0)else(0,0,1)
def KQ(n:Int):Bool:=decide (0≤n)&&decide (n<4294967295)
def JV(t:Tab)(pid u:Int):Tab×Int:=
 if CG t pid=false then(EC,3)else if KQ u=false then(EC,22)
 else if(F6 (decide ((AN t pid).euid=0)) (AN t pid).uid (AN t pid).euid u).2.2≠0 then(EC,(F6 (decide ((AN t pid).euid=0)) (AN t pid).uid (AN t pid).euid u).2.2)
 else(J5 t {AN t pid with uid:=(F6 (decide ((AN t pid).euid=0)) (AN t pid).uid (AN t pid).euid u).1,euid:=(F6 (decide ((AN t pid).euid=0)) (AN t pid).uid (AN t pid).euid u).2.1},0)
def JW(t:Tab)(pid u:Int):Tab×Int:=
 if CG t pid=false then(EC,3)else if KQ u=false then(EC,22)
 else if(F6 (decide ((AN t pid).euid=0)) (AN t pid).gid (AN t pid).egid u).2.2≠0 then(EC,(F6 (decide ((AN t pid).euid=0)) (AN t pid).gid (AN t pid).egid u).2.2)
 else(J5 t {AN t pid with gid:=(F6 (decide ((AN t pid).euid=0)) (AN t pid).gid (AN t pid).egid u).1,egid:=(F6 (decide ((AN t pid).euid=0)) (AN t pid).gid (AN t pid).egid u).2.1},0)
def G9(t:Tab)(pid auid:Int):Tab×Int:=
 if CG t pid=false then(EC,3)else if KQ auid=false then(EC,22)
 else if(AN t pid).auid≠4294967295∧(AN t pid).euid≠0 then(EC,1)else if t.nextS=1073741824 then(EC,11)
 else(⟨t.next,t.nextS+1,(J5 t {AN t pid with auid:=auid,ses:=t.nextS}).ps⟩,0)
def Fo:Nat→List Dsc→Nat
 |k,[]=>k
 |k,d::r=>if d.fd=(k:Int)then Fo (k+1) r else k
def O5(l:List Dsc)(fd:Nat)(x:Dsc):List Dsc:=l.take fd++x::l.drop fd
def GA(t:Tab)(pid:Int)(a:AB)(flags:Int):Tab×Int×Int:=
 if CG t pid=false then(EC,0,3)else if 8≤((AN t pid).opens.length:Int)then(EC,0,24)
 else(J5 t {AN t pid with opens:=O5 (AN t pid).opens (Fo 0 (AN t pid).opens) ⟨(Fo 0 (AN t pid).opens:Nat),a,flags⟩},(Fo 0 (AN t pid).opens:Nat),0)
def KR(t:Tab)(pid fd:Int):Tab×Int:=
 if CG t pid=false then(EC,3)else if(((AN t pid).opens.filter fun d=>decide (d.fd≠fd)).length:Int)=((AN t pid).opens.length:Int)then(EC,9)
 else(J5 t {AN t pid with opens:=(AN t pid).opens.filter fun d=>decide (d.fd≠fd)},0)
def Kt(t:Tab)(pid:Int)(dir:AB):Tab×Int:=if CG t pid=false then(EC,3)else(J5 t {AN t pid with cwd:=dir},0)
def Ku(t:Tab)(pid:Int)(exe comm:AE):Tab×Int:=if CG t pid=false then(EC,3)else(J5 t {AN t pid with exe:=exe,comm:=comm},0)
def J6(t:Tab)(pid target:Int)(ends:Bool):Tab×Int:=
 if CG t pid=false then(EC,3)else if CG t target=false then(EC,3)
 else if target=1∨(AN t pid).euid≠0∧(AN t pid).euid≠(AN t target).uid then(EC,1)
 else if ends=true then JU t target else(t,0)
def FY:List (AE×Int×Int×Int×Int):=[(⟨#[102,111,114,107]⟩,0,0,0,0),
 (⟨#[101,120,101,99,118,101]⟩,0,1,0,4),
 (⟨#[101,120,105,116]⟩,1,0,0,0),
 (⟨#[115,101,116,117,105,100]⟩,1,0,0,0),
 (⟨#[115,101,116,103,105,100]⟩,1,0,0,0),
 (⟨#[108,111,103,105,110]⟩,1,0,0,0),
 (⟨#[111,112,101,110]⟩,2,1,0,0),
 (⟨#[99,108,111,115,101]⟩,1,0,0,0),
 (⟨#[108,105,110,107]⟩,0,2,0,0),
 (⟨#[115,121,109,108,105,110,107]⟩,0,1,1,1),
 (⟨#[117,110,108,105,110,107]⟩,0,1,0,0),
 (⟨#[109,107,100,105,114]⟩,1,1,0,0),
 (⟨#[114,109,100,105,114]⟩,0,1,0,0),
 (⟨#[114,101,110,97,109,101]⟩,0,2,0,0),
 (⟨#[99,104,109,111,100]⟩,1,1,0,0),
 (⟨#[99,104,111,119,110]⟩,2,1,0,0),
 (⟨#[99,104,100,105,114]⟩,0,1,0,0),
 (⟨#[109,111,117,110,116]⟩,1,1,0,0),
 (⟨#[117,109,111,117,110,116]⟩,1,0,0,0),
 (⟨#[99,111,110,110,101,99,116]⟩,1,0,1,1),
 (⟨#[107,105,108,108]⟩,2,0,0,0),
 (⟨#[116,114,117,110,99,97,116,101]⟩,1,1,0,0)]
def Bv(n:Int):AE×Int×Int×Int×Int:=if n<0∨22≤n then(⟨#[]⟩,0,0,0,0)else(FY[n.toNat]?).getD (⟨#[]⟩,0,0,0,0)
def O6(c:Cal):List Int:=[c.a0,c.a1,c.a2,c.a3]
def Bl(c:Cal):Int:=
 if(Bv c.num).1=⟨#[]⟩then 100 else if(((O6 c).drop (Bv c.num).2.1.toNat).any fun x=>decide (x≠0))=true then 101
 else if(c.paths.length:Int)≠(Bv c.num).2.2.1∨(c.args.length:Int)<(Bv c.num).2.2.2.1∨(Bv c.num).2.2.2.2<(c.args.length:Int)then 101
 else if(c.paths.any fun p=>decide (128<p.size))=true then 102 else if(c.args.any fun p=>decide (64<p.size))=true then 102 else 0
def H4(n:Nod)(euid egid:Int):Int:=
 if euid=n.uid then GD .i64 (Mm .i64 n.mode 6) 7 else if egid=n.gid then GD .i64 (Mm .i64 n.mode 3) 7 else GD .i64 n.mode 7
def GV(n:Nod)(euid egid want:Int):Bool:=
 if want<0∨7<want then false
 else if euid=0 then decide (GD .i64 want 1=0)||decide (n.kind=2)||decide (GD .i64 n.mode 73≠0)
 else decide (GD .i64 (H4 n euid egid) want=want)
def C9(a f:Int):Bool:=decide (GD .i64 a f≠0)
def D6(c:Cal):List Int:=
 if c.num=1 then[1]else if c.num=6 then[(if C9 c.a0 1=true then 4 else 0)+(if C9 c.a0 22=true then 2 else 0)]
 else if c.num=8 then[8,2]else if c.num=13 then[2,2]else if c.num=14∨c.num=15∨c.num=17 then[8]else if c.num=16 then[4]else[2]
def DT(c:Cal):Bool:=
 if c.num=6 then decide (GD .i64 c.a0 32=0)else decide (c.num=1∨c.num=14∨c.num=15∨c.num=16∨c.num=17∨c.num=21)
def PL(n:Int):Bool:=decide (0≤n)&&decide (n≤511)
def KS(c:Cal):AE:=c.args.headD ⟨#[]⟩
def DD(p:Prc)(c:Cal):Int:=
 if c.num=6 then(if c.a0<0∨63<c.a0∨GD .i64 c.a0 3=0∨PL c.a1=false then 22 else if 8≤(p.opens.length:Int)then 24 else 0)
 else if c.num=9 then(if KS c=⟨#[]⟩then 2 else if(KS c).data.toList.any (fun b=>decide (b=0))=true then 22 else 0)
 else if c.num=11∨c.num=14 then(if PL c.a0=false then 22 else 0)
 else if c.num=15 then(if c.a0<0∨4294967295<c.a0∨c.a1<0∨4294967295<c.a1 then 22 else 0)
 else if c.num=17 then(if p.euid≠0 then 1 else 0)
 else if c.num=21 then(if c.a0<0 then 22 else 0)else 0
def PM(s:Spc)(given:AE)(perm:Int)(f:Fnd):Itm:=
 ⟨given,f.path,f.dir,f.name,f.file,1,(Ac s.files f.file).kind,(Ac s.files f.file).mode,(Ac s.files f.file).uid,(Ac s.files f.file).gid,perm⟩
def JX(given:AE)(perm:Int):Itm:=⟨given,⟨#[]⟩,(0,0),⟨#[]⟩,(0,0),1,0,0,0,0,perm⟩
def Hm(s:Spc)(cwd:AB)(fl:Bool)(x:List Itm×List Fnd×Int)(g:AE×Int):List Itm×List Fnd×Int:=
 if x.2.2=0 then
  (if(C2 s cwd g.1 fl).2=0 then(x.1++[PM s g.1 g.2 (C2 s cwd g.1 fl).1],x.2.1++[(C2 s cwd g.1 fl).1],0)else(x.1++[JX g.1 g.2],x.2.1++[(C2 s cwd g.1 fl).1],(C2 s cwd g.1 fl).2))
 else(x.1++[JX g.1 g.2],x.2.1++[G7],x.2.2)
def LJ(s:Spc)(cwd:AB)(fl:Bool)(l:List (AE×Int))(e:Int):List Itm×List Fnd×Int:=l.foldl (Hm s cwd fl) ([],[],e)
def As(w:Wrk)(i:Nat):Fnd:=(w.found[i]?).getD G7
def CA(w:Wrk)(a:AB)(want:Int):Bool:=GV (Ac w.s.spc.files a) w.p.euid w.p.egid want
def KT(w:Wrk)(i:Nat):Bool:=Af w.s.spc.files (As w i).file
def JY(w:Wrk)(a:AB):Bool:=(Di w.s.spc a).isSome||w.s.tab.ps.any fun p=>decide (p.cwd=a)
def BZ(w:Wrk)(R:Ex):Wrk×Int:=if R.2.2=0 then({w with s:=⟨⟨R.1,w.s.spc.mounts⟩,w.s.tab⟩,r:={w.r with changes:=R.2.1}},0)else(w,R.2.2)
def CB(w:Wrk)(R:Tab×Int):Wrk×Int:=if R.2=0 then({w with s:=⟨w.s.spc,R.1⟩},0)else(w,R.2)
def Xl(n:Nod)(a:AB)(x:Itm):Itm:={x with role:=2,file:=a,kind:=n.kind,mode:=n.mode,uid:=n.uid,gid:=n.gid}
def KU(w:Wrk)(i:Nat)(a:AB):Wrk:={w with r:={w.r with items:=w.r.items.modify i (Xl (Ac w.s.spc.files a) a)}}
def jF:Lc:=((0,0),⟨#[]⟩,(0,0),(0,0))
def Xm(l:List Lc):AB:=(l.headD jF).2.2.2
def PN(w:Wrk)(n:Nod):Nod:={n with uid:=w.p.euid,gid:=w.p.egid}
def FZ(w:Wrk)(i:Nat)(n:Nod):Ex:=Ez w.s.spc.files (As w i).dir (As w i).name (PN w n)
def Cw(w:Wrk)(i:Nat)(n:Nod):Wrk×Int:=
 if(FZ w i n).2.2=0 then(KU (BZ w (FZ w i n)).1 i (Xm (FZ w i n).2.1),0)else(w,(FZ w i n).2.2)
def JZ(w:Wrk)(i:Nat)(role:Int):Wrk:={w with r:={w.r with items:=w.r.items.modify i fun x=>{x with role:=role}}}
def RM(w:Wrk)(n:Int):Wrk:={w with r:={w.r with exit:=n}}
def KV(mode:Int):Nod:=⟨0,1,mode,0,0,0,⟨#[]⟩,[]⟩
def Kv(w:Wrk)(a:AB):Wrk×Int:=CB (RM w (GA w.s.tab w.p.pid a w.c.a0).2.1) ((GA w.s.tab w.p.pid a w.c.a0).1,(GA w.s.tab w.p.pid a w.c.a0).2.2)
def Lp(a:Int):Int:=(if C9 a 1=true then 4 else 0)+(if C9 a 18=true then 2 else 0)
def Ck(w:Wrk):Wrk×Int:=
 if(As w 0).ex=true then
  (if C9 w.c.a0 4=true∧C9 w.c.a0 8=true then(w,17)
  else if(Ac w.s.spc.files (As w 0).file).kind=3 then(w,40)
  else if(Ac w.s.spc.files (As w 0).file).kind=2∧C9 w.c.a0 22=true then(w,21)
  else if CA w (As w 0).file (Lp w.c.a0)=false then(w,13)
  else Kv w (As w 0).file)
 else
  (if C9 w.c.a0 4=false then(w,2)else if(As w 0).slash=true then(w,21)else if CA w (As w 0).dir 2=false then(w,13)
  else if(Cw w 0 (KV w.c.a1)).2≠0 then Cw w 0 (KV w.c.a1)
  else Kv (Cw w 0 (KV w.c.a1)).1 (Xm (Cw w 0 (KV w.c.a1)).1.r.changes))
def Fp(w:Wrk):Wrk×Int:=
 if(As w 0).ex=false then(w,2)else if KT w 0=true then(w,1)else if(As w 1).ex=true then(w,17)else if(As w 1).slash=true then(w,2)
 else if(As w 0).file.1≠(As w 1).dir.1 then(w,18)else if CA w (As w 1).dir 2=false then(w,13)
 else if(El w.s.spc.files (As w 1).dir (As w 1).name (As w 0).file).2.2≠0 then(w,(El w.s.spc.files (As w 1).dir (As w 1).name (As w 0).file).2.2)
 else(KU (BZ w (El w.s.spc.files (As w 1).dir (As w 1).name (As w 0).file)).1 1 (As w 0).file,0)
def Jy(w:Wrk)(R:Ex):Wrk×Int:=if R.2.2≠0 then(w,R.2.2)else(JZ (BZ w R).1 0 3,0)
def Em(w:Wrk):Wrk×Int:=
 if(As w 0).ex=false then(w,2)
 else if w.c.num=10 then
  (if(As w 0).name=⟨#[]⟩∨KT w 0=true then(w,21)else if CA w (As w 0).dir 2=false then(w,13)
  else Jy w (Hh w.s.spc.files (As w 0).dir (As w 0).name))
 else
  (if(As w 0).name=⟨#[]⟩then(w,16)else if KT w 0=false then(w,20)
  else if JY w (AK w.s.spc.files (As w 0).dir (As w 0).name).1=true then(w,16)else if CA w (As w 0).dir 2=false then(w,13)
  else Jy w (GP w.s.spc.files (As w 0).dir (As w 0).name))
def LL(w:Wrk)(R:Ex)(x:AB):Wrk×Int:=
 if R.2.2≠0 then(w,R.2.2)else if 0<(R.2.1.length:Int)then(KU (JZ (BZ w R).1 0 3) 1 x,0)else((BZ w R).1,0)
def Fq(w:Wrk):Wrk×Int:=
 if(As w 0).ex=false then(w,2)else if(As w 0).name=⟨#[]⟩∨(As w 1).name=⟨#[]⟩then(w,16)
 else if(As w 1).slash=true∧KT w 0=false then(w,20)else if(As w 0).dir.1≠(As w 1).dir.1 then(w,18)
 else if CA w (As w 0).dir 2=false∨CA w (As w 1).dir 2=false then(w,13)
 else if(AK w.s.spc.files (As w 1).dir (As w 1).name).2=0∧(AK w.s.spc.files (As w 1).dir (As w 1).name).1≠(AK w.s.spc.files (As w 0).dir (As w 0).name).1∧Af w.s.spc.files (AK w.s.spc.files (As w 1).dir (As w 1).name).1=true∧JY w (AK w.s.spc.files (As w 1).dir (As w 1).name).1=true then(w,16)
 else LL w (Fn w.s.spc.files (As w 0).dir (As w 0).name (As w 1).dir (As w 1).name) (AK w.s.spc.files (As w 0).dir (As w 0).name).1
def LM(w:Wrk)(R:AR×Int):Wrk×Int:=BZ w (R.1,[],R.2)
def GB(w:Wrk):Wrk×Int:=
 if(As w 0).ex=false then(w,2)
 else if w.c.num=14 then
  (if w.p.euid≠0∧w.p.euid≠(Ac w.s.spc.files (As w 0).file).uid then(w,1)
  else LM w (Fm w.s.spc.files (As w 0).file w.c.a0 (Ac w.s.spc.files (As w 0).file).uid (Ac w.s.spc.files (As w 0).file).gid))
 else if w.p.euid≠0 then(w,1)else LM w (Fm w.s.spc.files (As w 0).file (Ac w.s.spc.files (As w 0).file).mode w.c.a0 w.c.a1)
def LN(w:Wrk)(R:Spc×Int):Wrk×Int:=if R.2=0 then({w with s:=⟨R.1,w.s.tab⟩},0)else(w,R.2)
def Dv(w:Wrk):Wrk×Int:=
 if(As w 0).ex=false then(w,2)
 else if w.c.num=1 then(if KT w 0=true∨CA w (As w 0).file 1=false then(w,13)else CB w (Ku w.s.tab w.p.pid (As w 0).path (As w 0).name))
 else if w.c.num=16 then(if KT w 0=false then(w,20)else if CA w (As w 0).file 1=false then(w,13)else CB w (Kt w.s.tab w.p.pid (As w 0).file))
 else if w.c.num=17 then(if KT w 0=false then(w,20)else LN w (EN w.s.spc w.c.a0 (As w 0).file))
 else if KT w 0=true then(w,21)else if CA w (As w 0).file 2=false then(w,13)else(w,0)
def O7(t:AE):Nod:=⟨0,3,511,0,0,0,t,[]⟩
def PO(mode:Int):Nod:=⟨0,2,mode,0,0,0,⟨#[]⟩,[]⟩
def GC(w:Wrk):Wrk×Int:=
 if(As w 0).ex=true then(w,17)else if(As w 0).slash=true∧w.c.num=9 then(w,2)else if CA w (As w 0).dir 2=false then(w,13)
 else if w.c.num=9 then Cw w 0 (O7 (KS w.c))else Cw w 0 (PO w.c.a0)
def O8(t:Tab)(dev:Int):Bool:=t.ps.any fun p=>decide (p.cwd.1=dev)||p.opens.any fun d=>decide (d.file.1=dev)
def LO(w:Wrk)(R:Spc×Int):Wrk×Int:=if R.2=0 then({w with s:=⟨R.1,w.s.tab⟩,r:={w.r with gone:=w.c.a0}},0)else(w,R.2)
def H5(w:Wrk):Wrk×Int:=
 if w.p.euid≠0 then(w,1)else if w.c.a0=0∨DL w.s.spc w.c.a0=false then(w,22)else if O8 w.s.tab w.c.a0=true then(w,16)
 else LO w (Hi w.s.spc w.c.a0)
def O9(w:Wrk)(n:Int):Wrk:={w with r:={w.r with exit:=n,child:=n}}
def F8(w:Wrk):Wrk×Int:=
 if w.c.num=0 then CB (O9 w (GU w.s.tab w.p.pid).2.1) ((GU w.s.tab w.p.pid).1,(GU w.s.tab w.p.pid).2.2)
 else if w.c.num=2 then CB w (JU w.s.tab w.p.pid)
 else if w.c.num=3 then CB w (JV w.s.tab w.p.pid w.c.a0)
 else if w.c.num=4 then CB w (JW w.s.tab w.p.pid w.c.a0)
 else if w.c.num=5 then CB w (G9 w.s.tab w.p.pid w.c.a0)
 else if w.c.num=7 then CB w (KR w.s.tab w.p.pid w.c.a0)
 else if w.c.num=18 then H5 w
 else if w.c.num=19 then(if w.c.a0<0∨65535<w.c.a0∨KS w.c=⟨#[]⟩then(w,22)else if w.c.a0=0 then(w,111)else(w,0))
 else if w.c.a1<0∨64<w.c.a1 then(w,22)else CB w (J6 w.s.tab w.p.pid w.c.a0 (decide (w.c.a1≠0)))
def BR(w:Wrk):Wrk×Int:=
 if w.c.num=6 then Ck w else if w.c.num=8 then Fp w else if w.c.num=10∨w.c.num=12 then Em w else if w.c.num=13 then Fq w
 else if w.c.num=14∨w.c.num=15 then GB w else if w.c.num=1∨w.c.num=16∨w.c.num=17∨w.c.num=21 then Dv w
 else if w.c.num=9∨w.c.num=11 then GC w else F8 w
def GW(s:Syst)(p:Prc)(c:Cal):List Itm×List Fnd×Int:=LJ s.spc p.cwd (DT c) (c.paths.zip (D6 c)) (DD p c)
def Jz(s:Syst)(pid:Int)(c:Cal):Wrk:=⟨s,AN s.tab pid,c,(GW s (AN s.tab pid) c).2.1,{GT with items:=(GW s (AN s.tab pid) c).1}⟩
def K0(n:Int):Syst×Int:=if(G0 n).2≠0 then(⟨⟨[],[]⟩,EC⟩,(G0 n).2)else(⟨⟨(G0 n).1,[]⟩,O3 (0,1)⟩,0)
def GX(d:Dsc):List AV:=[.v (.int .i64 d.fd), .v (.int .i64 d.file.1), .v (.int .i64 d.file.2), .v (.int .i64 d.flags)]
def Am(p:Prc):List AV:=[.v (.int .i64 p.pid), .v (.int .i64 p.ppid), .v (.int .i64 p.uid), .v (.int .i64 p.euid), .v (.int .i64 p.gid), .v (.int .i64 p.egid), .v (.int .i64 p.auid), .v (.int .i64 p.ses), .v (.int .i64 p.cwd.1), .v (.int .i64 p.cwd.2), .v (.string p.comm), .v (.string p.exe), .sl 4 (p.opens.map GX) none, .v (.bool p.audited)]
def Ai(t:Tab):List AV:=[.v (.int .i64 t.next), .v (.int .i64 t.nextS), .sl 14 (t.ps.map Am) none]
def CP(s:Syst):List AV:=[.sl 2 (s.spc.files.map Cc) none, .sl 3 (s.spc.mounts.map GM) none, .v (.int .i64 s.tab.next), .v (.int .i64 s.tab.nextS), .sl 14 (s.tab.ps.map Am) none]
def DE(s:AE):List AV:=[.v (.string s)]
def FM(c:Cal):List AV:=[.v (.int .i64 c.num), .v (.int .i64 c.a0), .v (.int .i64 c.a1), .v (.int .i64 c.a2), .v (.int .i64 c.a3), .sl 1 (c.paths.map DE) none, .sl 1 (c.args.map DE) none]
def CV(y:Itm):List AV:=[.v (.string y.given), .v (.string y.path), .v (.int .i64 y.dir.1), .v (.int .i64 y.dir.2), .v (.string y.name), .v (.int .i64 y.file.1), .v (.int .i64 y.file.2), .v (.int .i64 y.role), .v (.int .i64 y.kind), .v (.int .i64 y.mode), .v (.int .i64 y.uid), .v (.int .i64 y.gid), .v (.int .i64 y.perm)]
def K1(r:Res):List AV:=[.v (.int .i64 r.exit), .v (.int .i64 r.child), .v (.int .i64 r.gone), .sl 13 (r.items.map CV) none, .sl 7 (r.changes.map EZ) none]
def Da(w:Wrk)(fnd its:AV):List AV:=
 [.sl 2 (w.s.spc.files.map Cc) none, .sl 3 (w.s.spc.mounts.map GM) none, .v (.int .i64 w.s.tab.next), .v (.int .i64 w.s.tab.nextS), .sl 14 (w.s.tab.ps.map Am) none,
 .v (.int .i64 w.p.pid), .v (.int .i64 w.p.ppid), .v (.int .i64 w.p.uid), .v (.int .i64 w.p.euid), .v (.int .i64 w.p.gid), .v (.int .i64 w.p.egid), .v (.int .i64 w.p.auid), .v (.int .i64 w.p.ses), .v (.int .i64 w.p.cwd.1), .v (.int .i64 w.p.cwd.2), .v (.string w.p.comm), .v (.string w.p.exe), .sl 4 (w.p.opens.map GX) none, .v (.bool w.p.audited),
 .v (.int .i64 w.c.num), .v (.int .i64 w.c.a0), .v (.int .i64 w.c.a1), .v (.int .i64 w.c.a2), .v (.int .i64 w.c.a3), .sl 1 (w.c.paths.map DE) none, .sl 1 (w.c.args.map DE) none,fnd,
 .v (.int .i64 w.r.exit), .v (.int .i64 w.r.child), .v (.int .i64 w.r.gone),its, .sl 7 (w.r.changes.map EZ) none]
structure TabB(t:Tab):Prop where
 few:t.ps.length≤16
 opens:∀p∈t.ps,p.opens.length≤8
 next:t.next≤1073741824
 nextS:t.nextS≤1073741824
structure RowF(sz:Nat){α:Type}(F:α→List AV):Prop where
 len:∀x,(F x).length=sz
 flat:∀x,∀y∈F x,(∃v,y= .v v)∨∃s r,y= .sl s r none
 pos:0<sz
def LB(sz:Nat){α:Type}(F:α→List AV)(l:List α)(cap:Nat):List AV:=CU sz cap (l.map F)
section
variable {α:Type}{sz:Nat}{F:α→List AV}(hF:RowF sz F)
include hF
theorem NE(l:List α):∀r∈l.map F,r.length=sz:=by
 intro r hr;obtain⟨x,_,rfl⟩:=List.mem_map.1 hr;exact hF.len x
theorem RN{l:List α}{cap:Nat}(h:l.length≤cap):(LB sz F l cap).length=cap * sz:=Sh (NE hF l) (by simpa using h)
theorem jG{g:AV→AV}(hv:∀x,g (.v x)= .v x)(hs:∀sz rows,g (.sl sz rows none)= .sl sz rows none)(x:α):(F x).map g=F x:=by
 conv=>rhs;rw[←List.map_id (F x)]
 apply List.map_congr_left;intro y hy;rcases hF.flat x y hy with⟨v,rfl⟩|⟨s,r,rfl⟩
 ·exact hv v
 exact hs s r
theorem Tu{g:AV→AV}(hany:g .any= .any)(hv:∀x,g (.v x)= .v x)(hs:∀sz rows,g (.sl sz rows none)= .sl sz rows none)(l:List α)(cap:Nat):(LB sz F l cap).map g=LB sz F l cap:=by
 unfold LB;rw[Ot g hany,List.map_map]
 congr 1
 apply List.map_congr_left;intro x _;exact jG hF hv hs x
theorem Db(g:Nat→Option Nat)(l:List α)(cap:Nat):E5 g (LB sz F l cap)=LB sz F l cap:=by
 rw[Oo];exact Tu hF rfl (fun _=>rfl) (fun _ _=>rfl) l cap
theorem Lq(g:Nat→Option Nat)(l:List α)(cap:Nat):JD g (LB sz F l cap)=LB sz F l cap:=by
 rw[Qq];exact Tu hF rfl (fun _=>rfl) (fun _ _=>rfl) l cap
theorem jH(g:Nat→Option (List AV))(l:List α)(cap:Nat):KH g (LB sz F l cap)=LB sz F l cap:=by
 rw[Oq];exact Tu hF rfl (fun _=>rfl) (fun _ _=>rfl) l cap
theorem jJ{n m:Nat}(x:α):AQ n m (F x)=true:=by
 refine Sw.2 fun y hy=>?_;rcases hF.flat x y hy with⟨v,rfl⟩|⟨s,r,rfl⟩<;>rfl
theorem Bm{n m:Nat}{l:List α}{cap:Nat}:AQ n m (LB sz F l cap)=true:=by
 refine Sx fun r hr=>?_;obtain⟨x,_,rfl⟩:=List.mem_map.1 hr;exact jJ hF x
theorem jK{n:Nat}{bx:List (List AV)}{k j:Nat}{l:List α}{cap:Nat}(hn:n≤j)(hj:bx[j]?=some (LB sz F l cap)):EV n bx (k+1) j=some (LB sz F l cap):=by
 have:Nat.blt j n=false:=by rw[←Bool.not_eq_true,Nat.blt_eq];omega
 simp only[EV,this,hj,Option.map_some,jH hF]
theorem OA{n:Nat}{bx:List (List AV)}{k j:Nat}{l:List α}{cap cap0:Nat}(hn:Nat.ble n j=true)(hj:bx[j]?=some (LB sz F l cap))(hc:l.length≤cap):Gf n (EV n bx (k+1)) (.bs j 0 sz l.length cap0)= .sl sz (l.map F) none:=
 X5 (BW hn) (jK hF (BW hn) hj) (NE hF l) (by simp) (by simpa using hc)
theorem jL{l:List α}{cap i k:Nat}{x:α}{y:AV}(h:l[i]?=some x)(hx:(F x)[k]?=some y):(LB sz F l cap)[0+i * sz+k]?=some y:=Ov (NE hF l) (by rw[List.getElem?_map,h];rfl) hx
theorem Lr{l:List α}{cap i k:Nat}{x x':α}{cs:List AV}(h:l[i]?=some x)(hs:SetAt (F x) k cs (F x'))(hne:cs≠[]):SetAt (LB sz F l cap) (0+i * sz+k) cs (LB sz F (l.set i x') cap):=by
 have key:=T0 (cap:=cap) (NE hF l) (by rw[List.getElem?_map,h];rfl) hs hne;rw[←List.map_set]at key;exact key
theorem Xn{l:List α}{cap i:Nat}{x x':α}(h:l[i]?=some x):SetAt (LB sz F l cap) (0+i * sz) (F x') (LB sz F (l.set i x') cap):=by
 have hne:F x'≠[]:=fun e=>by have h1:=hF.len x';have h2:=hF.pos;rw[e]at h1;simp at h1;omega
 have hs:SetAt (F x) 0 (F x') (F x'):=by
  have:=SetAt.whole (xs:=F x') (l:=F x) (b:=[]) (by rw[hF.len,hF.len])
  simpa using this
 have key:=Lr hF (cap:=cap) h hs hne
 simpa using key
theorem Xo(x:α)(cap:Nat):F x++List.replicate ((cap - 1) * sz) .any=LB sz F [x] cap:=by
 have _:=hF;unfold LB CU;simp
theorem Tv(acc:List α)(x:α)(cap0 cap:Nat):((LB sz F acc cap0).drop 0).take (acc.length * sz)++F x++List.replicate ((cap - (acc.length+1)) * sz) .any=LB sz F (acc++[x]) cap:=by
 unfold LB;rw[Vy (NE hF acc) (by simp),List.map_append];rfl
theorem Tw{acc:List α}{x:α}{cap:Nat}{row:List AV}(hs:SetAt (LB sz F acc cap) (0+acc.length * sz) (F x) row)(hc:acc.length+1≤cap):row=LB sz F (acc++[x]) cap:=by
 have key:=Vx (rows:=acc.map F) (sz:=sz) (cap:=cap) (r:=F x) (row':=row) (NE hF acc) (hF.len x) hF.pos (by simpa using hc) (by rw[List.length_map];exact hs);rw[key];unfold LB;rw[List.map_append];rfl
end
theorem Ea:RowF 14 Am:=⟨fun _=>rfl,fun x y h=>by simp[Am]at h;rcases h with h|h|h|h|h|h|h|h|h|h|h|h|h|h<;>first|exact .inl ⟨_,h⟩|exact .inr ⟨_,_,h⟩,by decide⟩
theorem B1:RowF 13 CV:=⟨fun _=>rfl,fun x y h=>by simp[CV]at h;rcases h with h|h|h|h|h|h|h|h|h|h|h|h|h<;>exact .inl ⟨_,h⟩,by decide⟩
theorem CD{f:Nat→Option AV}{bx:List (List AV)}{tk:List (Nat×Nat×List (List AV))}{l:List (Nat×AV)}{N:Dim}(n m:Nat){bx':List (List AV)}{tk':List (Nat×Nat×List (List AV))}(hbp:AW n m bx'=true)(hn:Nat.ble N.ni n=true:=by rfl)(hb:bx.take n=bx':=by rfl)(ht:tk.take m=tk':=by rfl)(hl:Sub n m f l:=by repeat (first|exact Sub.nil|refine Sub.cons _ _ _ rfl rfl ?_|refine Sub.any _ _ ?_|refine Sub.sl _ _ _ _ _ rfl ?_|refine Sub.slnil _ _ _ rfl ?_|(apply Sub.of;(focus exact rfl);(focus exact LeA.of_eq (vb (by simp[*])));(focus exact rfl)))):Weak N ⟨f,⟨bx,tk⟩⟩ ⟨look l,⟨bx',tk'⟩⟩:=Ao n m hn hb ht hbp hl
def Dw(bx:List (List AV))(g:Nat→Option Nat):List Nat→List (List AV)→List (List AV)
 |[],bc=>bx++bc.map (E5 g)
 |i::is,[]=>Dw bx g is []
 |i::is,r::bc=>Dw (bx.set i (E5 g r)) g is bc
theorem Xp{g:Nat→Option Nat}:∀(is:List Nat) (bx bc:List (List AV)),is.length≤bc.length→(Dw bx g is bc).length=bx.length+(bc.length - is.length)
 |[],bx,bc,_=>by simp[Dw]
 |i::is,bx,[],h=>by simp at h
 |i::is,bx,r::bc,h=>by
   unfold Dw;rw[Xp is _ bc (by simpa using h)];simp
theorem RO{g:Nat→Option Nat}:∀(is:List Nat) (bx bc:List (List AV)) (i:Nat),i∉is→i<bx.length→(Dw bx g is bc)[i]?=bx[i]?
 |[],bx,bc,i,_,hi=>by unfold Dw;rw[DF hi]
 |j::is,bx,[],i,h,hi=>by
   unfold Dw;exact RO is bx [] i (fun hm=>h (List.mem_cons_of_mem _ hm)) hi
 |j::is,bx,r::bc,i,h,hi=>by
   unfold Dw;rw[RO is _ bc i (fun hm=>h (List.mem_cons_of_mem _ hm)) (by simpa using hi),List.getElem?_set_ne (fun e=>h (by rw[e];exact List.mem_cons_self ..))]
theorem Xq{g:Nat→Option Nat}:∀(is:List Nat) (bx bc:List (List AV)) (k i:Nat) (row:List AV),is.Nodup→i<bx.length→is[k]?=some i→bc[k]?=some row→(Dw bx g is bc)[i]?=some (E5 g row)
 |[],_,_,_,_,_,_,_,h,_=>by simp at h
 |j::is,bx,[],k,i,row,_,_,_,h=>by simp at h
 |j::is,bx,r::bc,0,i,row,hn,hi,h1,h2=>by
   simp at h1 h2;subst h1 h2;unfold Dw;rw[RO is _ bc j (List.nodup_cons.1 hn).1 (by simpa using hi),List.getElem?_set_self hi]
 |j::is,bx,r::bc,k+1,i,row,hn,hi,h1,h2=>by
   unfold Dw;exact Xq is _ bc k i row (List.nodup_cons.1 hn).2 (by simpa using hi) (by simpa using h1) (by simpa using h2)
theorem Xr{g:Nat→Option Nat}:∀(is:List Nat) (bx bc:List (List AV)) (k:Nat) (row:List AV),bc[is.length+k]?=some row→(Dw bx g is bc)[bx.length+k]?=some (E5 g row)
 |[],bx,bc,k,row,h=>by
   unfold Dw;rw[Ep (by omega),show bx.length+k - bx.length=k by omega,List.getElem?_map];simp at h;rw[h];rfl
 |j::is,bx,[],k,row,h=>by simp at h
 |j::is,bx,r::bc,k,row,h=>by
   unfold Dw;have:=Xr (g:=g) is (bx.set j (E5 g r)) bc k row (by simpa[Nat.add_right_comm]using h)
   simpa using this
theorem PP{bx:List (List AV)}{is:List Nat}{bc:List (List AV)}(hn:is.Nodup)(hi:∀i∈is,i<bx.length)(hl:is.length≤bc.length):Back bx is bc (Dw bx (Ee is bx.length) is bc):=by
 refine⟨Xp is bx bc hl,fun i row h1 h2=>?_,fun k i row h1 h2=>?_,fun k row h=>Xr is bx bc k row h⟩
 ·rw[RO is bx bc i h1 (Ab.1 h2).1];exact h2
 exact Xq is bx bc k i row hn (hi i (Aj h1)) h1 h2
def DU:List AV:=[.v (.int .i64 0), .v (.int .i64 0), .v (.slice none 0 0)]
def DV(t:Tab)(x:AV):List AV:=[.v (.int .i64 t.next), .v (.int .i64 t.nextS),x]
def Eo(f:Prc→Prc)(l:List Prc)(j:Nat):List Prc:=(l.take j).map f++l.drop j
def Ja(p x:Prc):Prc:=if x.pid=p.pid then p else x
theorem Ma(f:Prc→Prc)(l:List Prc)(j:Nat):(Eo f l j).length=l.length:=by
 unfold Eo;simp;omega
theorem Tx{f:Prc→Prc}{l:List Prc}{j:Nat}{x:Prc}(h:l[j]?=some x):(Eo f l j)[j]?=some x:=by
 have hl:=(Ab.1 h).1;unfold Eo;rw[Ep (by simp;omega)];simp only[List.length_map,List.length_take,List.getElem?_drop];rw[show j+(j - min j l.length)=j by omega];exact h
theorem Xs{f:Prc→Prc}{l:List Prc}{j:Nat}{x:Prc}(h:l[j]?=some x):(Eo f l j).set j (f x)=Eo f l (j+1):=by
 obtain⟨hl,e⟩:=Ab.1 h;unfold Eo;rw[List.take_add_one,h,List.drop_eq_getElem_cons hl,List.set_append_right _ _ (by simp;omega)];simp only[List.length_map,List.length_take,List.map_append,List.append_assoc];rw[show j - min j l.length=0 by omega];rfl
theorem jM{f:Prc→Prc}{l:List Prc}{j:Nat}{x:Prc}(h:l[j]?=some x)(hf:f x=x):Eo f l j=Eo f l (j+1):=by
 rw[←Xs h,hf];have h2:=Tx (f:=f) h;obtain⟨h3,h4⟩:=Ab.1 h2;rw[←h4,List.set_getElem_self]
theorem jN(f:Prc→Prc)(l:List Prc):Eo f l l.length=l.map f:=by
 unfold Eo;simp
theorem Xt{t:Tab}{pid:Int}{p:Prc}(h:O4 t pid=some p):p∈t.ps:=List.mem_of_find?_eq_some h
theorem Jb{t:Tab}(ht:TabB t)(pid:Int):(AN t pid).opens.length≤8:=by
 unfold AN
 cases h:O4 t pid with
 |none=>exact BH _
 |some p=>exact ht.opens p (Xt h)
theorem Mb{t:Tab}{pid:Int}(h:CG t pid=true):0<t.ps.length:=by
 unfold CG at h;obtain⟨p,hp⟩:=Option.isSome_iff_exists.1 h;exact List.length_pos_of_mem (Xt hp)
theorem Xu{bx:List (List AV)}{n:Nat}(hn:bx.length=n)(t:Tab)(cap:Nat):Back bx [] [Ai t,DV t (.bs 3 0 14 t.ps.length cap),DV t (.bs 3 0 14 t.ps.length cap),LB 14 Am t.ps cap] (bx++[Ai t,DV t (.bs (n+3) 0 14 t.ps.length cap),DV t (.bs (n+3) 0 14 t.ps.length cap),LB 14 Am t.ps cap]):=by
 subst hn;have:=PP (bx:=bx) (is:=[]) (bc:=[Ai t,DV t (.bs 3 0 14 t.ps.length cap),DV t (.bs 3 0 14 t.ps.length cap),LB 14 Am t.ps cap]) List.nodup_nil (by simp) (by simp);have e1:E5 (Ee [] bx.length) (Ai t)=Ai t:=rfl;have e2:E5 (Ee [] bx.length) (DV t (.bs 3 0 14 t.ps.length cap))=DV t (.bs (bx.length+3) 0 14 t.ps.length cap):=by simp[E5,DV,Ge,Ee]
 simpa[Dw,Db Ea,e1,e2]using this
section
theorem PQ(p:Prc)(hp:p.opens.length≤1000):AFn prog 137 [.agg (Am p)] (fun r=>r= .agg (Am p)):=by
 refine enter Tryz.func137 rfl rfl rfl rfl rfl 0 rfl ?_;refine EH (h:=e_ (B0 (h:=?_)))
 first|refine A3 rfl (EF rfl rfl rfl (by simp;omega) (by repeat constructor) ?_)|refine A3 rfl (Ht rfl rfl (by simp;omega) (by repeat constructor) ?_)
 refine Ct (h:=Dr (h:=e_ (B5 (?_))));refine A6 ?_;rfl
theorem Xv(t:Tab)(ht:TabB t):AFn prog 138 [.agg (Ai t)] (fun r=>r= .agg (Ai t)):=by
 have hfew:=ht.few;refine enter Tryz.func138 rfl rfl rfl rfl rfl 0 rfl ?_;refine EH (h:=e_ (Hy (h:=Bi (h:=Dz (h:=Ca (h:=?_))))));refine LY 2 2 29 14 rfl rfl (by repeat constructor) (by repeat constructor) (by repeat constructor) ?_;refine BU (fun m s=>∃j:Nat,j≤t.ps.length∧m=t.ps.length - j∧s=⟨look [(1, .bp 0 0),(2, .bp 1 0),(3, .bp 2 0),(4, .v (.int .i64 (j:Int)))],⟨[Ai t,DU,DV t (.sl 14 ((t.ps.take j).map Am) (some 0))],[(29,14,(t.ps.take j).map Am)]⟩⟩) (t.ps.length) ((wk 3 1)) (⟨0,BH _,rfl,rfl⟩) ?_;rintro m s ⟨j,hj,rfl,rfl⟩;refine Gs (h:=?_);refine A4 rfl (fun hb1 hc1=>?_) (fun hb1 hc1=>?_)
 ·obtain⟨hlt,p,hy,hrow,e⟩:=C1 Am hc1;have hop:p.opens.length≤1000:=by have:=ht.opens p (Aj hy);omega
  refine AF (q_ (BK (BO ([(0,Ai t),(1,DU),(2,DV t (.sl 14 ((t.ps.take j).map Am) (some 0)))]) 11 (h:=AD 0 (h:=A9 1 (h:=AD 2 (h:=A9 3 (h:=AG 4 (h:=De 5 (h:=A9 6 (h:=?_)))))))))));refine c_ 7 rfl (A8 (PQ p hop) ?_);rintro r rfl;refine o_ (h:=Jk 8 (h:=?_));refine c_ 9 rfl (EF rfl rfl rfl (by simp;omega) (by repeat constructor) ?_);refine o_ (h:=AD 10 (h:=?_));refine B6 11 (h:=z_ (h:=BE (t_ (Aw (m_ (h:=Fc (h:=a_ (h:=C4 (AT (?_))))))))));refine⟨_,_,?_,⟨j+1,by omega,rfl,rfl⟩,(by rw[e];exact Ao 3 1 rfl rfl rfl rfl ((by repeat (first|exact Sub.nil|refine Ap rfl rfl ?_|refine At ?_|refine Au rfl ?_|refine Av rfl ?_))))⟩;omega
 have e:=CF Am hj hc1;subst e;rw[List.take_length];refine CJ (h:=Dr (h:=e_ (B5 (?_))));refine A6 ?_;rfl
theorem Xw(t:Tab)(ht:TabB t)(h0:0<t.ps.length):ACall prog 138 [.agg (Ai t)] [] (fun r b tk=>tk=[]∧∃cap,t.ps.length≤cap∧r= .agg (DV t (.bs 3 0 14 t.ps.length cap))∧b=[Ai t,DV t (.bs 3 0 14 t.ps.length cap),DV t (.bs 3 0 14 t.ps.length cap),LB 14 Am t.ps cap]):=by
 have hfew:=ht.few;refine enter Tryz.func138 rfl rfl rfl rfl rfl 4 rfl ?_;refine EH (h:=e_ (Hy (h:=Bi (h:=Dz (h:=Ca (h:=?_))))));refine BU (fun m s=>∃(j:Nat) (acc:List Prc),j≤t.ps.length∧m=t.ps.length - j∧t.ps.take j=acc∧((acc=[]∧s=⟨look [(1, .bp 0 0),(2, .bp 1 0),(3, .bp 2 0),(4, .v (.int .i64 (j:Int)))],⟨[Ai t,DU,DV t (.v (.slice none 0 0))],[]⟩⟩)∨(∃cap,acc.length≤cap∧s=⟨look [(1, .bp 0 0),(2, .bp 1 0),(3, .bp 2 0),(4, .v (.int .i64 (j:Int)))],⟨[Ai t,DU,DV t (.bs 3 0 14 acc.length cap),LB 14 Am acc cap],[]⟩⟩))) (t.ps.length) ((wk 3 0)) (⟨0,[],BH _,rfl,rfl, .inl ⟨rfl,rfl⟩⟩) ?_;rintro m s ⟨j,acc,hj,rfl,hacc,⟨rfl,rfl⟩|⟨cap,hcp,rfl⟩⟩
 ·skip
  refine Gs (h:=?_);refine A4 rfl (fun hb1 hc1=>?_) (fun hb1 hc1=>?_)
  ·obtain⟨hlt,p,hy,hrow, -⟩:=C1 Am hc1;have hk:t.ps.take (j+1)=t.ps.take j++[p]:=by rw[List.take_add_one,hy];rfl
   have hop:p.opens.length≤1000:=by have:=ht.opens p (Aj hy);omega
   refine AF (q_ (BK (BO ([(0,Ai t),(1,DU),(2,DV t (.v (.slice none 0 0)))]) 11 (h:=AD 0 (h:=A9 1 (h:=AD 2 (h:=A9 3 (h:=AG 4 (h:=De 5 (h:=A9 6 (h:=?_)))))))))));refine c_ 7 rfl (A8 (PQ p hop) ?_);rintro r rfl;refine o_ (h:=Jk 8 (h:=?_));refine c_ 9 rfl (Qe rfl rfl Ll (by omega) (by omega) ?_);rintro cap2 k bx2 hcp hs;rw[show CM (.agg (Am p))++List.replicate ((cap2 - 1) * 14) AV.any=LB 14 Am [p] cap2 from Xo Ea p cap2]at hs;obtain⟨rfl,rfl⟩:k=3∧bx2=[_,_,_,_]:=hs.eq;refine o_ (h:=?_);refine AD 10 (h:=?_);refine B6 11 (h:=z_ (h:=BE (t_ (Aw (m_ (h:=Fc (h:=a_ (h:=C4 (AT (?_))))))))));exact⟨t.ps.length - (j+1),_,by omega,⟨j+1,[p],by omega,rfl,(by rw[hk,hacc];rfl), .inr ⟨cap2,hcp,rfl⟩⟩,Ao 4 0 rfl rfl rfl (by simp[AW,AQ,AP,Bm Ea,Ai,DV,DU]) ((by repeat (first|exact Sub.nil|refine Ap rfl rfl ?_|refine At ?_|refine Au rfl ?_|refine Av rfl ?_)))⟩
  exfalso;have e:=CF Am hj hc1;rw[e,List.take_length]at hacc;rw[hacc]at h0;exact absurd h0 (by simp)
 skip
 refine Gs (h:=?_);refine A4 rfl (fun hb2 hc2=>?_) (fun hb2 hc2=>?_)
 ·obtain⟨hlt,p,hy,hrow, -⟩:=C1 Am hc2;have hk:t.ps.take (j+1)=t.ps.take j++[p]:=by rw[List.take_add_one,hy];rfl
  have hop:p.opens.length≤1000:=by have:=ht.opens p (Aj hy);omega
  refine AF (q_ (BK (BO ([(0,Ai t),(1,DU),(2,DV t (.bs 3 0 14 acc.length cap))]) 11 (h:=AD 0 (h:=A9 1 (h:=AD 2 (h:=A9 3 (h:=AG 4 (h:=De 5 (h:=A9 6 (h:=?_)))))))))));refine c_ 7 rfl (A8 (PQ p hop) ?_);rintro r rfl;refine o_ (h:=Jk 8 (h:=?_));refine c_ 9 rfl (NZ rfl rfl rfl (by rw[RN Ea hcp];omega) Ll (by omega) (by have:=congrArg List.length hacc;simp at this;omega) ?_ ?_)
  ·rintro hg row2 bx2 hs hb;obtain rfl:=Tw Ea hs hg;obtain rfl:bx2=[_,_,_,_]:=hb.one.2;refine o_ (h:=?_);refine AD 10 (h:=?_);refine B6 11 (h:=z_ (h:=BE (t_ (Aw (m_ (h:=Fc (h:=a_ (h:=C4 (AT (?_))))))))));exact⟨t.ps.length - (j+1),_,by omega,⟨j+1,acc++[p],by omega,rfl,(by rw[hk,hacc]), .inr ⟨cap,by simpa using hg,by rw[List.length_append];rfl⟩⟩,Ao 4 0 rfl rfl rfl (by simp[AW,AQ,AP,Bm Ea,Ai,DV,DU]) ((by repeat (first|exact Sub.nil|refine Ap rfl rfl ?_|refine At ?_|refine Au rfl ?_|refine Av rfl ?_)))⟩
  rintro hg cap3 k bx2 hcp3 hs;rw[show((LB 14 Am acc cap).drop 0).take (acc.length * 14)++CM (.agg (Am p))++List.replicate ((cap3 - (acc.length+1)) * 14) AV.any=LB 14 Am (acc++[p]) cap3 from Tv Ea acc p cap cap3]at hs;obtain⟨rfl,rfl⟩:k=4∧bx2=[_,_,_,_,_]:=hs.eq;refine o_ (h:=?_);refine AD 10 (h:=?_);refine B6 11 (h:=z_ (h:=BE (t_ (Aw (m_ (h:=Fc (h:=a_ (h:=C4 (AT (?_))))))))))
  first|exact⟨t.ps.length - (j+1),_,by omega,⟨j+1,acc++[p],by omega,rfl,(by rw[hk,hacc]), .inr ⟨cap,by simpa using hg,by rw[List.length_append];rfl⟩⟩,Ao 4 0 rfl rfl rfl (by simp[AW,AQ,AP,Bm Ea,Ai,DV,DU]) ((by repeat (first|exact Sub.nil|refine Ap rfl rfl ?_|refine At ?_|refine Au rfl ?_|refine Av rfl ?_)))⟩|exact⟨t.ps.length - (j+1),_,by omega,⟨j+1,acc++[p],by omega,rfl,(by rw[hk,hacc]), .inr ⟨cap3,by simpa using hcp3,by rw[List.length_append];rfl⟩⟩,GE [0,1,2,4] (fun i hi=>absurd hi (Nat.not_lt_zero i)) (by decide) (.cons _ _ _ _ _ rfl rfl (.cons _ _ _ _ _ rfl rfl (.cons _ _ _ _ _ rfl rfl (.cons _ _ _ _ _ rfl (Lq Ea _ _ _) .nil)))) (by repeat (first|exact SubK.nil|refine SubK.cons _ _ _ _ rfl (A7 _) ?_))⟩
 have e:=CF Am hj hc2;refine CJ (h:=Dr (h:=e_ (B5 (?_))));rw[e,List.take_length]at hacc;subst hacc;refine AU (r:= .agg (DV t (.bs 3 0 14 t.ps.length cap))) none (h4:=(by simp[AW,AQ,AP,Bm Ea,Ai,DV])) (h5:=(A7 _)) (h6:=⟨rfl,cap,hcp,rfl,rfl⟩)
theorem K2(t:Tab)(pid:Int)(ht:TabB t):AFn prog 93 [.agg (Ai t), .v (.int .i64 pid)] (fun r=>r= .tup [.agg (Am (AN t pid)), .v (.bool (CG t pid))]):=by
 have hfew:=ht.few;refine enter Tryz.func93 rfl rfl rfl rfl rfl 0 rfl ?_;refine EH (h:=B4 (h:=Ca (h:=?_)));refine BU (fun m s=>∃j:Nat,j≤t.ps.length∧m=t.ps.length - j∧(∀i y,i<j→t.ps[i]?=some y→decide (y.pid=pid)=false)∧s=⟨look [(1, .v (.int .i64 pid)),(2, .bp 0 0),(4, .bp 1 0),(6, .v (.int .i64 (j:Int)))],⟨[Ai t,[.v (.int .i64 0), .v (.int .i64 0), .v (.int .i64 0), .v (.int .i64 0), .v (.int .i64 0), .v (.int .i64 0), .v (.int .i64 0), .v (.int .i64 0), .v (.int .i64 0), .v (.int .i64 0), .v (.string ⟨#[]⟩), .v (.string ⟨#[]⟩), .v (.slice none 0 0), .v (.bool false)]],[]⟩⟩) (t.ps.length) ((wk 2 0)) (⟨0,BH _,rfl,fun i y hi=>by omega,rfl⟩) ?_;rintro m s ⟨j,hj,rfl,ha,rfl⟩;refine Gs (h:=?_);refine A4 rfl (fun hb1 hc1=>?_) (fun hb1 hc1=>?_)
 ·obtain⟨hlt,p,hy,hrow, -⟩:=C1 Am hc1;have hop:p.opens.length≤1000:=by have:=ht.opens p (Aj hy);omega
  refine C0 (h:=Gt (h:=Fx (h:=BN (h:=?_))));refine A4 rfl (fun hb2 hc2=>?_) (fun hb2 hc2=>?_)
  ·have hg:O4 t pid=some p:=Mw hy (decide_eq_true hc2) ha;refine Gt (h:=l_ (h:=?_));refine A3 rfl (A8 (PQ p hop) ?_);rintro r rfl;refine s_ (h:=BA (h:=CT (h:=?_)));refine A6 ?_;rw[AN,CG,hg];rfl
  refine DH (h:=?_);refine⟨_,_,?_,⟨j+1,by omega,rfl,GL hy ha (decide_eq_false hc2),rfl⟩,(wk 2 0)⟩;omega
 have e:=CF Am hj hc1;subst e;have hg:O4 t pid=none:=Mx ha;refine CJ (h:=Jp (h:=B8 (h:=?_)));refine AU (r:= .tup [.agg (Am (AN t pid)), .v (.bool (CG t pid))]) none (h5:=?_) (h6:=⟨rfl,rfl,rfl⟩);rw[AN,CG,hg];exact(by repeat (first|exact A7 _|exact LeA.nil _|exact LeL.refl _|refine LeA.agg ?_|refine LeA.tup ?_|exact LeL.nil|refine LeL.cons ?_ ?_|exact LeA.any _))
theorem NF(t:Tab)(p:Prc)(ht:TabB t)(h0:0<t.ps.length)(hp:p.opens.length≤1000):AFn prog 250 [.agg (Ai t), .agg (Am p)] (fun r=>r= .agg (Ai (J5 t p))):=by
 have hfew:=ht.few;refine enter Tryz.func250 rfl rfl rfl rfl rfl 0 rfl ?_;refine Ff (h:=e_ (?_));refine B9 (fun s=>∃cap,t.ps.length≤cap∧s=⟨look [(3, .bp 1 0),(4, .bp 2 0),(5, .bp 3 0)],⟨[Ai t,Am p,DU,DV t (.bs 4 0 14 (Eo (Ja p) t.ps 0).length cap),LB 14 Am (Eo (Ja p) t.ps 0) cap],[]⟩⟩) ?_ ?_
 ·skip
  refine Aw (l_ (h:=?_));refine A3 rfl (Bg [] rfl (.cons _ _ _ _ _ rfl (A7 _) .nil) (by decide) .nil (Xw t ht h0) ?_);rintro r bc tc ⟨rfl,cap,hcap,rfl,rfl⟩;refine⟨rfl,_,(Xu (n:=3) rfl t cap:Back _ [] _ [_,_,_,_,_,_,_]),?_⟩;refine La (h:=DC (h:=?_));exact⟨_,⟨cap,hcap,rfl⟩,GE [0,1,2,7,6] (fun i hi=>absurd hi (Nat.not_lt_zero i)) (by decide) (.cons _ _ _ _ _ rfl rfl (.cons _ _ _ _ _ rfl rfl (.cons _ _ _ _ _ rfl rfl (.cons _ _ _ _ _ rfl (by rw[Ma];rfl) (.cons _ _ _ _ _ rfl (Lq Ea _ _ _) .nil))))) (by repeat (first|exact SubK.nil|refine SubK.cons _ _ _ _ rfl (A7 _) ?_))⟩
 rintro s ⟨cap,hcap,rfl⟩;refine B9 (fun s=>s=⟨look [(4, .bp 2 0),(5, .bp 3 0)],⟨[Ai t,Am p,DU,Ai (J5 t p)],[]⟩⟩) ?_ ?_
 ·skip
  refine Nc (h:=?_);refine BU (fun m s=>∃j:Nat,j≤t.ps.length∧m=t.ps.length - j∧s=⟨look [(3, .bp 1 0),(4, .bp 2 0),(5, .bp 3 0),(6, .v (.int .i64 (j:Int)))],⟨[Ai t,Am p,DU,DV t (.bs 4 0 14 (Eo (Ja p) t.ps j).length cap),LB 14 Am (Eo (Ja p) t.ps j) cap],[]⟩⟩) (t.ps.length) (Bd 5 0 (by simp[AW,AQ,AP,Bm Ea,Ai,DV,DU,Am])) (⟨0,BH _,rfl,rfl⟩) ?_;rintro m s ⟨j,hj,rfl,rfl⟩;refine Bk (h:=Aa (h:=?_));refine A3 rfl (SF rfl ?_);refine D2 (h:=?_);refine A4 rfl (fun hb1 hc1=>?_) (fun hb1 hc1=>?_)
  ·have hlt:j<t.ps.length:=by rw[Ma]at hc1;omega
   obtain⟨x,hy⟩:∃x,t.ps[j]?=some x:=⟨_,B2 hlt⟩;have hl1:j<(Eo (Ja p) t.ps j).length:=by rw[Ma];exact hlt
   refine AF (q_ (BK (q_ (Dd 9 (h:=AD 0 (h:=A9 1 (h:=AG 2 (h:=?_))))))));refine FO (i:=3) rfl (Dx (m:=j) rfl rfl rfl hl1 ⟨rfl,rfl⟩) ?_;refine AD 4 (h:=?_);refine FO (i:=5) rfl (Dl rfl rfl (jL Ea (Tx hy) rfl) ⟨rfl,rfl⟩) ?_;refine AD 6 (h:=A9 7 (h:=Jm 8 (h:=z_ (h:=t_ (?_)))));refine A4 rfl (fun hb2 hc2=>?_) (fun hb2 hc2=>?_)
   ·have hu:(Eo (Ja p) t.ps j).set j p=Eo (Ja p) t.ps (j+1):=by rw[←Xs hy,Ja,if_pos hc2]
    refine Aw (Fx (h:=l_ (h:=?_)));refine A3 rfl (Dx (m:=j) rfl rfl rfl hl1 ?_);refine ME (Ed rfl rfl rfl rfl rfl rfl (Xn Ea (x':=p) (Tx hy)) (by repeat constructor) ?_);refine C4 (Eg (h:=?_));exact⟨t.ps.length - (j+1),_,by omega,⟨j+1,by omega,rfl,rfl⟩,(by first|(rw[hu,show(Eo (Ja p) t.ps j).length=(Eo (Ja p) t.ps (j+1)).length by rw[Ma,Ma]];exact Bd 5 0 (by simp[AW,AQ,AP,Bm Ea,Ai,DV,DU,Am]))|(rw[hu];exact Bd 5 0 (by simp[AW,AQ,AP,Bm Ea,Ai,DV,DU,Am])))⟩
   have hu:Eo (Ja p) t.ps j=Eo (Ja p) t.ps (j+1):=jM hy (if_neg hc2);refine DH (h:=?_);exact⟨t.ps.length - (j+1),_,by omega,⟨j+1,by omega,rfl,rfl⟩,(by first|(rw[hu,show(Eo (Ja p) t.ps j).length=(Eo (Ja p) t.ps (j+1)).length by rw[Ma,Ma]];exact Bd 5 0 (by simp[AW,AQ,AP,Bm Ea,Ai,DV,DU,Am]))|(rw[hu];exact Bd 5 0 (by simp[AW,AQ,AP,Bm Ea,Ai,DV,DU,Am])))⟩
  obtain rfl:j=t.ps.length:=by rw[Ma]at hc1;omega
  rw[jN];refine Kh (h:=AT (?_));exact⟨_,rfl,H8 4 1 rfl (congrArg (fun x=>[Ai t,Am p,DU,[.v (.int .i64 t.next), .v (.int .i64 t.nextS),x]]) (OA Ea rfl rfl (by rw[List.length_map];exact hcap))) (.cons _ _ _ _ rfl (A7 _) (.cons _ _ _ _ rfl (A7 _) .nil))⟩
 rintro s rfl;refine Dr (h:=e_ (B5 (?_)));refine A6 ?_;rfl
end
end Go.Proofs.YtbgnigjfkbmceaaGreatDoor
