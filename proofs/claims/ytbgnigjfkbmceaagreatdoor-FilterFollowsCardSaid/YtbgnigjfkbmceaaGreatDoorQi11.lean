/-
  Part 11 of the proof of FilterFollowsP: what the statement's proof uses of the texts in wip/tpl.
-/
import Derived.Lib.AppendZerosOnto
import Derived.Test.YtbgnigjfkbmceaaGreatDoorQi10
open Go.Proofs.Tryz (prog)
set_option maxRecDepth 10000
set_option maxHeartbeats 4000000
set_option linter.unusedVariables false
set_option linter.unusedSimpArgs false
namespace Go.Proofs.YtbgnigjfkbmceaaGreatDoor
open Go.RowKit
theorem l7(d m:AE):(Kk d m).size≤d.size+1+m.size:=by
 unfold Kk;split
 ·rw[ByteArray.size_append];omega
 rw[ByteArray.size_append,ByteArray.size_append];show d.size+1+m.size≤_;omega
theorem l8{s:Spc}(hv:SpcV s)(pre:List A9):(OY s pre).size≤1+13 * pre.length:=by
 have key:∀(l:List AE) (d:AE),(∀x∈l,x.size≤12)→(l.foldl Kk d).size≤d.size+13 * l.length:=by
  intro l
  induction l with
  |nil=>intro d _;simp
  |cons x l ih=>
    intro d h;have h1:=ih (Kk d x) fun y hy=>h y (List.mem_cons_of_mem _ hy);have h2:=h x (List.mem_cons_self ..);have h3:=l7 d x;rw[List.foldl_cons,List.length_cons];omega
 have h:=key (OX s pre).reverse ⟨#[47]⟩ (fun x hx=>by
  rw[List.mem_reverse]at hx;obtain⟨y,_,rfl⟩:=List.mem_map.1 hx
  exact UE hv.files y)
 have h2:(OX s pre).length≤pre.length:=by unfold OX;rw[List.length_map];exact List.length_filter_le _ _
 rw[List.length_reverse]at h;have:(⟨#[47]⟩:AE).size=1:=rfl;unfold OY;omega
theorem YB{s:Spc}(hv:SpcV s)(a:A9):(Dd s a).1.size≤1000:=by
 unfold Dd;split
 ·have h3:=Y3 s (Bo s.files) a;have h4:=Y0 hv.files;refine Nat.le_trans (l8 hv _) ?_;refine Nat.le_trans (Nat.add_le_add_left (Nat.mul_le_mul_left 13 ((List.takeWhile_sublist _).length_le)) 1) ?_;omega
 exact BK _
theorem YC(d:AE)(h:0<d.size):d.data.toList.getLast?=some 47↔(((d[d.size - 1]'(by omega)).toNat:Int)=47):=by
 have hl:d.data.toList.length=d.size:=by simp
 rw[List.getLast?_eq_getElem?,hl,B3 (by omega)];show some (d[d.size - 1]'(by omega))=some 47↔_;rw[Option.some.injEq];constructor
 ·intro e;rw[e];rfl
 intro e;refine UInt8.toNat_inj.1 ?_;show _=47;omega
theorem l9{d m:AE}(h:¬0<d.size):Kk d m=d++⟨#[47]⟩++m:=by
 refine if_neg fun e=>?_;have hl:d.data.toList.length=d.size:=by simp
 rw[List.getLast?_eq_getElem?,List.getElem?_eq_none (by omega)]at e;cases e
section
theorem YD(d m:AE)(hd:d.size≤1000000)(hm:m.size≤1000000):AFn prog 196 [.v (.string d), .v (.string m)] (fun r=>r= .v (.string (Kk d m))):=by
 refine enter Tryz.func196 rfl rfl rfl rfl rfl 0 rfl ?_;refine w_ (Bw (h:=HQ (h:=m_ (h:=?_))));refine AJ true rfl rfl (fun hb1 hc1=>?_) (fun hb1 hc1=>?_)
 ·refine Jd (h:=n_ (h:=L4 (h:=?_)));refine As (M2 (n:=d.size - 1) Tryz.underlying9 rfl rfl (by omega) (by omega) ?_);refine EH (h:=Bj (h:=e_ (?_)));refine A4 rfl (fun hb2 hc2=>?_) (fun hb2 hc2=>?_)
  ·refine E9 (h:=?_);refine A3 rfl (H7 rfl rfl (by omega) ?_);refine E8 (h:=?_);refine A6 ?_;rw[show Kk d m=d++m from if_pos ((YC d (by omega)).2 hc2)];rfl
  refine AG (Aa (h:=?_));refine A3 rfl (H7 rfl rfl (by show d.size+1≤_;omega) ?_);refine m_ (h:=?_);refine A3 rfl (H7 rfl rfl (by rw[ByteArray.size_append];show d.size+1+m.size≤_;omega) ?_);refine BJ (h:=?_);refine A6 ?_;rw[show Kk d m=d++⟨#[47]⟩++m from if_neg (fun h=>hc2 ((YC d (by omega)).1 h))];rfl
 refine BT (h:=BD (h:=Fj (h:=AG (Aa (h:=?_)))));refine A3 rfl (H7 rfl rfl (by show d.size+1≤_;omega) ?_);refine m_ (h:=?_);refine A3 rfl (H7 rfl rfl (by rw[ByteArray.size_append];show d.size+1+m.size≤_;omega) ?_);refine BJ (h:=?_);refine A6 ?_;rw[l9 (by omega)];rfl
theorem lA(s:Spc)(a:A9)(hs:SpcB s):AFn prog 248 [.agg (Ao s.files), .agg (AB a)] (fun r=>r= .v (.string (LE s a))):=by
 have hen:=RG hs.files (a.1,(Ah s.files a).parent);change (M7 s a).entries.length≤1000 at hen;refine enter Tryz.func248 rfl rfl rfl rfl rfl 0 rfl ?_;refine FV (h:=CG (h:=?_));refine A3 rfl (A8 (FZ s.files a hs.files) ?_);rintro r rfl
 skip
 refine Ee (h:=B7 (h:=CF (h:=JO (h:=Bq (h:=?_)))));refine A3 rfl (A8 (FZ s.files (a.1,(Ah s.files a).parent) hs.files) ?_);rintro r rfl
 skip
 refine Ee (h:=B7 (h:=CW (h:=?_)));refine BR (fun m t=>∃j:Nat,j≤(M7 s a).entries.length∧m=(M7 s a).entries.length - j∧(∀i y,i<j→(M7 s a).entries[i]?=some y→decide (y.2=a.2)=false)∧t=⟨look [(3, .bp 1 0),(7, .bp 3 0),(9, .v (.int .i64 (j:Int)))],⟨[Ao s.files,AB a,Ac (Ah s.files a),Ac (M7 s a)],[]⟩⟩) ((M7 s a).entries.length) ((wk 4 0)) (⟨0,by omega,rfl,fun i y hi=>by omega,rfl⟩) ?_;rintro m t ⟨j,hj,rfl,ha,rfl⟩;refine GN (h:=?_);refine A4 rfl (fun hb1 hc1=>?_) (fun hb1 hc1=>?_)
 ·obtain⟨hlt,x,hy,hrow, -⟩:=Bz DO hc1;refine AG (q_ (BH (q_ (Db 9 (h:=AD 0 (h:=AA 1 (h:=AF 2 (h:=DK 3 (h:=AD 4 (h:=AA 5 (h:=AD 6 (h:=AA 7 (h:=K7 8 (h:=z_ (h:=t_ (?_))))))))))))))));refine A4 rfl (fun hb2 hc2=>?_) (fun hb2 hc2=>?_)
  ·refine Fu (h:=Ab (h:=BC (h:=EB (h:=?_))));refine A6 ?_;rw[show LE s a=x.1 by simp only[LE];rw[Mh hy (by simpa using hc2) ha];rfl];rfl
  refine DL (h:=?_);refine⟨_,_,?_,⟨j+1,by omega,rfl,GP hy ha (by simpa using hc2),rfl⟩,(wk 4 0)⟩;omega
 have e3:=CD DO hj hc1;subst e3;refine GK (h:=?_);refine A6 ?_;rw[show LE s a=⟨#[]⟩ by simp only[LE];rw[Mi ha];rfl];rfl
end
def J5(s:AE):List AV:=[.v (.string s)]
theorem YE{P:Program}{ev:Operand→Option AV}{h:AH}{R:AV→AH→Prop}{d:Option Tmp}{ty:TypeId}{pos:String}{af:Array Edge}{gd:Option (Nat×Bool)}{T:TypeId}{x lo hi:Operand}{s:ByteArray}{a k:Nat}{i j:Int}(hu:P.underlying T=some .string)
    (hx:ev x=some (.v (.string s))) (hl:ev lo=some (.v (.int .i64 i))) (hh:ev hi=some (.v (.int .i64 j))) (hi':i=(a:Int)) (hj:j=(k:Int)) (h1:a≤k) (h2:k≤s.size) (hR:R (.v (.string (s.extract a k))) h):AStep P ⟨d, .slice T x (some lo) (some hi) none,ty,pos,af,gd⟩ ev h R:=by
 refine DR (fun _ G w ec _ he=>?_) hR;have k1:=he x (by simp[Op.operands]) _ hx;have k2:=he lo (by simp[Op.operands]) _ hl;have k3:=he hi (by simp[Op.operands]) _ hh;simp only[rep]at k1 k2 k3;subst hi' hj;refine⟨.string (s.extract a k),?_,by simp only[rep]⟩;simp[execOp,k1,k2,k3,Instr.sliceAt,Instr.slice,Instr.sliceBounds,Instr.sliceBound,asIntOf,run_underlying hu,h1,h2]
def G2(s:AE):Bool:=decide (s.data.toList.head?=some 47)
def Be(s:AE):Bool:=decide (s.data.toList.getLast?=some 47)
theorem Rj{s:AE}(h:0<s.size):G2 s=decide (((s[0]'h).toNat:Int)=47):=by
 unfold G2;rw[hH s h,Bool.eq_iff_iff];simp
theorem Rk{s:AE}(h:0<s.size):Be s=decide (((s[s.size - 1]'(by omega)).toNat:Int)=47):=by
 unfold Be;rw[hU s h,Bool.eq_iff_iff];simp
theorem UJ{s:AE}(h:¬0<s.size):G2 s=false:=by
 have:s.data.toList=[]:=Fg (by rw[←Lib.size_eq];omega);unfold G2;rw[this];rfl
theorem UK{s:AE}(h:¬0<s.size):Be s=false:=by
 have:s.data.toList=[]:=Fg (by rw[←Lib.size_eq];omega);unfold Be;rw[this];rfl
theorem YF{s:AE}{k:Nat}(h:k<s.size)(h47:((s[k]'h).toNat:Int)=47):s.data.toList[k]?=some 47:=by
 rw[Lib.data_getElem? s k h]
 congr 1
 refine UInt8.toNat_inj.1 ?_;show _=47;omega
theorem YG{s:AE}{f k:Nat}{ps:List AE}(hI:Fo s.data.toList f k (CX ps))(h:k=s.size∨s.data.toList[k]?=some 47):Fo s.data.toList (k+1) (k+1) (CX ps++one_ ((s.data.toList.drop f).take (k - f))):=by
 rcases h with h|h
 ·rw[Lib.size_eq]at h;subst h;exact gY hI
 exact gX hI h
theorem YH{s:AE}{f k:Nat}{ps:List AE}(hI:Fo s.data.toList f k (CX ps))(hk:k≤s.size)(h:k=s.size∨s.data.toList[k]?=some 47)(hf:f<k):Fo s.data.toList (k+1) (k+1) (CX (ps++[s.extract f k])):=hZ (YG hI h) (hC (hG s hf hk))
theorem YJ{s:AE}{f k:Nat}{ps:List AE}(hI:Fo s.data.toList f k (CX ps))(h:k=s.size∨s.data.toList[k]?=some 47)(hf:¬f<k):Fo s.data.toList (k+1) (k+1) (CX ps):=i4 (YG hI h) (by omega)
theorem lB{s:AE}{f k:Nat}{ps:List AE}(hI:Fo s.data.toList f k (CX ps))(h:k<s.size)(h47:¬((s[k]'h).toNat:Int)=47):Fo s.data.toList f (k+1) (CX ps):=gW hI (Lib.data_getElem? s k h) (fun e=>h47 (by rw[e];rfl))
theorem YK(ps:List AE):ps.length≤(ED (CX ps)).length:=by
 induction ps with
 |nil=>simp
 |cons p ps ih=>
   have:CX (p::ps)=p.data.toList::CX ps:=rfl;rw[this,LZ];simp;omega
theorem UL{s:AE}{ps:List AE}(h:CX ps=DU s.data.toList){i:Nat}{x:AE}(hx:ps[i]?=some x):x.size≤s.size:=by
 rw[Lib.size_eq,Lib.size_eq s];refine i9 ?_;rw[←h];exact List.mem_map.2 ⟨x,Ag hx,rfl⟩
theorem lC{ps:List AE}{j:Nat}{x t:AE}(hx:ps[j]?=some x)(h:t.data.toList=ED ((CX ps).take j)):(t++(⟨#[47]⟩++x)).data.toList=ED ((CX ps).take (j+1)):=by
 have e:(CX ps)[j]?=some x.data.toList:=by unfold CX;rw[List.getElem?_map,hx];rfl
 rw[List.take_add_one,e,Tg,←h];simp[ED]
theorem Rl{a b:AE}(h:a.data.toList=b.data.toList):a=b:=ByteArray.ext (Array.toList_inj.1 h)
theorem lD{s:AE}{ps:List AE}(h:CX ps=DU s.data.toList){i:Nat}{x:AE}(hx:ps[i]?=some x)(hn:Fk x=false):Fb s.data.toList=false:=by
 rw[←Ti];unfold PU;rw[←h];have:(CX ps).all Fn=false:=List.all_eq_false.2 ⟨x.data.toList,List.mem_map.2 ⟨x,Ag hx,rfl⟩,by rw[←Tk,hn];simp⟩;rw[this,Bool.false_and]
theorem lE{s t1:AE}{ps:List AE}(h:CX ps=DU s.data.toList)(ha:∀(i:Nat) (y:AE),i<ps.length→ps[i]?=some y→Fk y=true)(ht:t1.data.toList=ED ((CX ps).take ps.length))(h3:¬s=⟨#[47]⟩)(h0:0<ps.length):Fb s.data.toList=decide (s=t1):=by
 have hl:(CX ps).length=ps.length:=by simp[CX]
 rw[List.take_of_length_le (by omega)]at ht;rw[←Ti];unfold PU;rw[←h,←ht]
 have h1:(CX ps).all Fn=true:=List.all_eq_true.2 fun y hy=>by
  obtain⟨z,hz,rfl⟩:=List.mem_map.1 hy;obtain⟨i,hi⟩:=List.getElem?_of_mem hz;rw[←Tk];exact ha i z (Af.1 hi).1 hi
 have h2:decide (s.data.toList=[47])=false:=decide_eq_false fun e=>h3 (Rl e);have h4:CX ps≠[]:=fun e=>by rw[e]at hl;simp at hl;omega
 rw[h1,h2,decide_eq_true h4];simp only[Bool.true_and,Bool.false_or];rw[Bool.eq_iff_iff,decide_eq_true_iff,decide_eq_true_iff];exact⟨fun e=>Rl e,fun e=>by rw[e]⟩
theorem lF{s:AE}{ps:List AE}(h:CX ps=DU s.data.toList)(h3:¬s=⟨#[47]⟩)(h0:ps.length=0):Fb s.data.toList=false:=by
 have e:CX ps=[]:=by rw[Fg h0];rfl
 rw[←Ti];unfold PU;rw[←h,e];have h2:decide (s.data.toList=[47])=false:=decide_eq_false fun e=>h3 (Rl e);rw[h2];simp
section
theorem UM(s:AE)(hs:s.size≤100000):AFn prog 191 [.v (.string s)] (fun r=>∃ps:List AE,CX ps=DU s.data.toList∧r= .tup [.sl 1 (ps.map J5) none, .v (.bool (G2 s)), .v (.bool (Be s))]):=by
 have hsz:=Lib.size_eq s;refine enter Tryz.func191 rfl rfl rfl rfl rfl 0 rfl ?_;refine w_ (a_ (h:=a_ (h:=B7 (h:=Cw (h:=Cw (h:=CW (h:=?_)))))));refine MS 5 9 1 rfl (by repeat constructor) ?_;refine BR (fun m t=>∃(f k:Nat) (ps:List AE),k≤s.size+1∧f≤k∧ps.length≤k∧m=s.size+1 - k∧Fo s.data.toList f k (CX ps)∧t=⟨look [(0, .v (.string s)),(5, .sl 1 (ps.map J5) (some 0)),(6, .v (.int .i64 (f:Int))),(7, .v (.int .i64 (k:Int)))],⟨[],[(9,1,ps.map J5)]⟩⟩) (s.size+1) ((wk 0 1)) (⟨0,0,[],by omega,by omega,by simp,rfl,gZ _,rfl⟩) ?_;rintro m t ⟨f,k,ps,hk,hfk,hpl,rfl,hI,rfl⟩;refine Du (h:=n_ (h:=HA (h:=e_ (?_))));refine A4 rfl (fun hb1 hc1=>?_) (fun hb1 hc1=>?_)
 ·refine C2 (h:=E9 (h:=n_ (h:=E1 (h:=?_))));refine AJ false rfl rfl (fun hb2 hc2=>?_) (fun hb2 hc2=>?_)
  ·refine BT (h:=K9 (h:=Du (h:=E6 (h:=e_ (?_)))));refine A4 rfl (fun hb3 hc3=>?_) (fun hb3 hc3=>?_)
   ·have hnx:=YH hI (by omega) (.inl (by omega)) (by omega);refine EX (h:=Jd (h:=?_));refine A3 rfl (YE (a:=f) (k:=k) Tryz.underlying9 rfl rfl rfl rfl rfl (by omega) (by omega) ?_);refine BY (h:=?_);refine A3 rfl (Dr rfl rfl rfl (by simp;omega) (by repeat constructor) ?_);refine B7 (h:=NK (h:=FD (h:=?_)));refine⟨_,_,?_,⟨_,k+1,_,by omega,by omega,(by(try simp only[List.length_append,List.length_cons,List.length_nil]);omega),rfl,hnx,rfl⟩,(by(try simp only[List.map_append,List.map_cons,List.map_nil]);exact Ai 0 1 rfl rfl rfl rfl ((by repeat (first|exact Sub.nil|refine Aj rfl rfl ?_|refine Ap ?_|refine Aq rfl ?_|refine Ar rfl ?_))))⟩;omega
   have hnx:=YJ hI (.inl (by omega)) (by omega);refine AG (NK (h:=FD (h:=?_)));refine⟨_,_,?_,⟨_,k+1,_,by omega,by omega,(by(try simp only[List.length_append,List.length_cons,List.length_nil]);omega),rfl,hnx,rfl⟩,(by(try simp only[List.map_append,List.map_cons,List.map_nil]);exact Ai 0 1 rfl rfl rfl rfl ((by repeat (first|exact Sub.nil|refine Aj rfl rfl ?_|refine Ap ?_|refine Aq rfl ?_|refine Ar rfl ?_))))⟩;omega
  refine Jd (h:=?_);refine As (M2 (n:=k) Tryz.underlying9 rfl rfl rfl (by omega) ?_);refine EH (h:=CV (h:=?_));refine A4 rfl (fun hb4 hc4=>?_) (fun hb4 hc4=>?_)
  ·refine Du (h:=E6 (h:=e_ (?_)));refine A4 rfl (fun hb5 hc5=>?_) (fun hb5 hc5=>?_)
   ·have hnx:=YH hI (by omega) (.inr (YF (by omega) hc4)) (by omega);refine EX (h:=Jd (h:=?_));refine A3 rfl (YE (a:=f) (k:=k) Tryz.underlying9 rfl rfl rfl rfl rfl (by omega) (by omega) ?_);refine BY (h:=?_);refine A3 rfl (Dr rfl rfl rfl (by simp;omega) (by repeat constructor) ?_);refine B7 (h:=NK (h:=FD (h:=?_)));refine⟨_,_,?_,⟨_,k+1,_,by omega,by omega,(by(try simp only[List.length_append,List.length_cons,List.length_nil]);omega),rfl,hnx,rfl⟩,(by(try simp only[List.map_append,List.map_cons,List.map_nil]);exact Ai 0 1 rfl rfl rfl rfl ((by repeat (first|exact Sub.nil|refine Aj rfl rfl ?_|refine Ap ?_|refine Aq rfl ?_|refine Ar rfl ?_))))⟩;omega
   have hnx:=YJ hI (.inr (YF (by omega) hc4)) (by omega);refine AG (NK (h:=FD (h:=?_)));refine⟨_,_,?_,⟨_,k+1,_,by omega,by omega,(by(try simp only[List.length_append,List.length_cons,List.length_nil]);omega),rfl,hnx,rfl⟩,(by(try simp only[List.map_append,List.map_cons,List.map_nil]);exact Ai 0 1 rfl rfl rfl rfl ((by repeat (first|exact Sub.nil|refine Aj rfl rfl ?_|refine Ap ?_|refine Aq rfl ?_|refine Ar rfl ?_))))⟩;omega
  have hnx:=lB hI (by omega) hc4;refine DL (h:=?_);refine⟨_,_,?_,⟨_,k+1,_,by omega,by omega,(by(try simp only[List.length_append,List.length_cons,List.length_nil]);omega),rfl,hnx,rfl⟩,(by(try simp only[List.map_append,List.map_cons,List.map_nil]);exact Ai 0 1 rfl rfl rfl rfl ((by repeat (first|exact Sub.nil|refine Aj rfl rfl ?_|refine Ap ?_|refine Aq rfl ?_|refine Ar rfl ?_))))⟩;omega
 refine N5 (LR (LR (Lt (t_ (q_ (Db 23 (h:=AF 0 (h:=AF 1 (h:=Mb 2 (h:=Sx 3 (h:=AF 4 (h:=?_))))))))))));refine K1 (j:=4) rfl (fun hb6=>?_) (fun hb6=>?_)
 ·have hc6:=bp hb6;refine AF 5 (h:=?_);refine GF (i:=6) rfl (M2 (n:=0) Tryz.underlying9 rfl rfl rfl (by omega) ⟨rfl,rfl⟩) ?_;refine K7 7 (h:=JZ 8 (h:=AF 9 (h:=Mb 10 (h:=Sx 11 (h:=AF 12 (h:=?_))))));refine K1 (j:=12) rfl (fun hb7=>?_) (fun hb7=>?_)
  ·have hc7:=bp hb7;refine AF 13 (h:=AF 14 (h:=Mb 15 (h:=Sw 16 (h:=?_))));refine GF (i:=17) rfl (M2 (n:=s.size - 1) Tryz.underlying9 rfl rfl (by omega) (by omega) ⟨rfl,rfl⟩) ?_;refine K7 18 (h:=JZ 19 (h:=BE 20 (h:=BE 21 (h:=BE 22 (h:=z_ (h:=t_ (B8 (?_))))))));refine A6 ?_;refine⟨ps,RT hI (by omega),?_⟩
   (rw[Rj (by omega),Rk (by omega)];rfl)
  have hc7:=bp hb7;refine B5 13 (h:=B5 14 (h:=B5 15 (h:=B5 16 (h:=B5 17 (h:=B5 18 (h:=Gi 19 (h:=BE 20 (h:=BE 21 (h:=BE 22 (h:=z_ (h:=t_ (B8 (?_)))))))))))));refine A6 ?_;refine⟨ps,RT hI (by omega),?_⟩
  first|(rw[Rj (by omega),Rk (by omega)];rfl)|(rw[UJ (by omega),UK (by omega)];rfl)|(exfalso;omega)
 have hc6:=bp hb6;refine B5 5 (h:=B5 6 (h:=B5 7 (h:=Gi 8 (h:=AF 9 (h:=Mb 10 (h:=Sx 11 (h:=AF 12 (h:=?_))))))));refine K1 (j:=12) rfl (fun hb8=>?_) (fun hb8=>?_)
 ·have hc8:=bp hb8;refine AF 13 (h:=AF 14 (h:=Mb 15 (h:=Sw 16 (h:=?_))));refine GF (i:=17) rfl (M2 (n:=s.size - 1) Tryz.underlying9 rfl rfl (by omega) (by omega) ⟨rfl,rfl⟩) ?_;refine K7 18 (h:=JZ 19 (h:=BE 20 (h:=BE 21 (h:=BE 22 (h:=z_ (h:=t_ (B8 (?_))))))));refine A6 ?_;refine⟨ps,RT hI (by omega),?_⟩
  first|(rw[Rj (by omega),Rk (by omega)];rfl)|(rw[UJ (by omega),UK (by omega)];rfl)|(exfalso;omega)
 have hc8:=bp hb8;refine B5 13 (h:=B5 14 (h:=B5 15 (h:=B5 16 (h:=B5 17 (h:=B5 18 (h:=Gi 19 (h:=BE 20 (h:=BE 21 (h:=BE 22 (h:=z_ (h:=t_ (B8 (?_)))))))))))));refine A6 ?_;refine⟨ps,RT hI (by omega),?_⟩
 first|(rw[Rj (by omega),Rk (by omega)];rfl)|(rw[UJ (by omega),UK (by omega)];rfl)
theorem Rm(s:AE)(hs:s.size≤50000):AFn prog 156 [.v (.string s)] (fun r=>r= .v (.bool (Fb s.data.toList))):=by
 have hsz:=Lib.size_eq s;refine enter Tryz.func156 rfl rfl rfl rfl rfl 0 rfl ?_;refine Eh (h:=?_);refine A3 rfl (A8 (UM s (by omega)) ?_);rintro r ⟨ps,hps,rfl⟩;have hpl:(ps.map J5).length=ps.length:=by simp
 have hfl:=Tl s.data.toList;rw[←hps]at hfl;have hpm:=YK ps;refine GJ (h:=x_ (h:=a_ (h:=a_ (h:=B7 (h:=Cw (h:=CW (h:=?_)))))));refine BR (fun m t=>∃(j:Nat) (t1:AE),j≤ps.length∧m=ps.length - j∧(∀i y,i<j→ps[i]?=some y→Fk y=true)∧t1.data.toList=ED ((CX ps).take j)∧t=⟨look [(0, .v (.string s)),(3, .sl 1 (ps.map J5) none),(6, .v (.string t1)),(7, .v (.int .i64 (j:Int)))],⟨[],[]⟩⟩) (ps.length) ((wk 0 0)) (⟨0,⟨#[]⟩,by omega,rfl,fun i y hi=>by omega,rfl,rfl⟩) ?_;rintro m t ⟨j,t1,hj,rfl,ha,ht1,rfl⟩;refine Du (h:=Ht (h:=?_));refine A4 rfl (fun hb1 hc1=>?_) (fun hb1 hc1=>?_)
 ·obtain⟨hlt,x,hy,hrow, -⟩:=Bz J5 hc1;have ht2:t1.size≤s.size+1:=by rw[Lib.size_eq,ht1];exact Nat.le_trans (i8 _ _) (by omega)
  refine C2 (h:=Du (h:=?_));refine A3 rfl (DA (n:=j) rfl rfl rfl hrow ?_);refine l_ (h:=?_);refine A3 rfl (A8 (T7 x (by have:=UL hps hy;omega)) ?_);rintro r rfl;refine DE (h:=?_);refine A4 rfl (fun hb2 hc2=>?_) (fun hb2 hc2=>?_)
  ·refine BA (h:=Cv (h:=EB (h:=?_)));refine A6 ?_;exact vb (lD hps hy hc2).symm
  refine AG (EX (h:=m_ (h:=?_)));refine A3 rfl (DA (n:=j) rfl rfl rfl hrow ?_);refine l_ (h:=?_);refine A3 rfl (H7 rfl rfl (by have:=UL hps hy;show 1+x.size≤_;omega) ?_);refine A3 rfl (H7 rfl rfl (by have:=UL hps hy;rw[ByteArray.size_append];show t1.size+(1+x.size)≤_;omega) ?_);refine HG (h:=FD (h:=?_));refine⟨_,_,?_,⟨j+1,t1++(⟨#[47]⟩++x),by omega,rfl,GP hy ha hc2,lC hy ht1,rfl⟩,(wk 0 0)⟩;omega
 refine CK (h:=Aa (h:=E1 (h:=?_)));refine AJ false rfl rfl (fun hb3 hc3=>?_) (fun hb3 hc3=>?_)
 ·refine Gl (h:=Dg (h:=Gk (h:=?_)));refine A6 ?_;exact vb (by rw[hc3];rfl)
 refine m_ (h:=HQ (h:=m_ (h:=?_)));refine AJ true rfl rfl (fun hb4 hc4=>?_) (fun hb4 hc4=>?_)
 ·refine m_ (h:=DD (h:=Bj (h:=Bp (h:=BJ (h:=?_)))));refine A6 ?_;have e:=CD J5 hj hc1;subst e;exact vb (lE hps ha ht1 hc3 (by omega)).symm
 refine DC (h:=Bp (h:=BJ (h:=?_)));refine A6 ?_;have e:=CD J5 hj hc1;subst e;exact vb (lF hps hc3 (by omega)).symm
end
theorem UN{s:Spc}{d:Int}(h:(CE s d).isSome=true):CE s d=some ((CE s d).getD (0,0)):=by
 cases ho:CE s d with
 |none=>rw[ho]at h;cases h
 |some o=>rfl
theorem lG{s:Spc}{d:Int}(h:(CE s d).isSome=false):CE s d=none:=by
 cases ho:CE s d with
 |none=>rfl
 |some o=>rw[ho]at h;cases h
theorem YL{s:Spc}{a:A9}(k:Nat)(h:AU s.files a=false):GW s (k+1) a=(0,0):=by unfold GW;rw[h];rfl
theorem YM{s:Spc}{a:A9}(k:Nat)(h:AU s.files a=true)(h1:¬a.2=1):GW s (k+1) a=(a.1,(Ah s.files a).parent):=by unfold GW;rw[if_pos h,if_pos h1]
theorem YN{s:Spc}{a:A9}(k:Nat)(h:AU s.files a=true)(h1:a.2=1)(ho:(CE s a.1).isSome=true):GW s (k+1) a=GW s k ((CE s a.1).getD (0,0)):=by
 conv=>lhs;unfold GW
 rw[if_pos h,if_neg (by simpa using h1),UN ho];rfl
theorem YO{s:Spc}{a:A9}(k:Nat)(h:AU s.files a=true)(h1:a.2=1)(ho:(CE s a.1).isSome=false):GW s (k+1) a=a:=by
 conv=>lhs;unfold GW
 rw[if_pos h,if_neg (by simpa using h1),lG ho]
section
theorem YP{s:Spc}(hs:SpcB s)(hv:SpcV s)(a:A9)
    (hrec:AU s.files a=true→∀b,DV s a=some b→AFn prog 195 [.agg (AT s), .agg (AB b)] (fun r=>r= .tup [.v (.string (Dd s b).1), .v (.bool (Dd s b).2)])):
    AFn prog 195 [.agg (AT s), .agg (AB a)] (fun r=>r= .tup [.v (.string (Dd s a).1), .v (.bool (Dd s a).2)]):=by
 have hnm:=UE hv.files a;have hwz:=YB hv;refine enter Tryz.func195 rfl rfl rfl rfl rfl 0 rfl ?_;refine Dh (h:=a_ (h:=B7 (h:=Ci (h:=l_ (h:=?_)))));refine A3 rfl (A8 (Ke s.files a hs.files) ?_);rintro r rfl;refine EV (h:=?_);refine AJ false rfl rfl (fun hb1 hc1=>?_) (fun hb1 hc1=>?_)
 ·refine BD (h:=EK (h:=w_ (EU (h:=?_))));refine A6 ?_
  (rw[Pp hv (by simp_all)];rfl)
 refine l_ (h:=Ab (h:=?_));refine As (A8 (OB s a.1 hs) ?_);rintro r rfl;refine Cr (h:=CV (h:=?_));refine A4 rfl (fun hb2 hc2=>?_) (fun hb2 hc2=>?_)
 ·refine w_ (EU (h:=?_));refine A6 ?_
  (rw[Pp hv (by simp_all)];rfl)
 refine D8 (h:=BN (h:=?_));refine A4 rfl (fun hb3 hc3=>?_) (fun hb3 hc3=>?_)
 ·refine q_ (CF (h:=Ab (h:=?_)));refine A3 rfl (A8 (TC s a.1 hs) ?_);rintro r rfl;refine Ee (h:=C4 (h:=e_ (?_)));refine A4 rfl (fun hb4 hc4=>?_) (fun hb4 hc4=>?_)
  ·have hst:DV s a=some ((CE s a.1).getD (0,0)):=by unfold DV;rw[if_neg (by simpa using hc3)];exact UN hc4
   obtain⟨hw1,hw2⟩:=Y5 hv hc1 hc2 (fun e=>by rw[e,Y4 hv]at hc4;cases hc4) hst;rw[if_pos hc3]at hw1;refine CG (h:=?_);refine A3 rfl (A8 (hrec hc1 _ hst) ?_);rintro r rfl
   skip
   refine L5 (h:=EU (h:=Bu (?_)));refine A6 ?_
   first|(rw[Pp hv (by simp_all)];rfl)|(rw[hw1];first|rfl|(rw[←hw2];rfl))
  have h00:a=(0,1):=by
   refine Prod.ext ?_ hc3;have:=hc2;unfold CO at this;rw[hc4,Bool.false_or]at this;exact of_decide_eq_true this
  refine AG (w_ (EU (h:=?_)));refine A6 ?_
  first|(rw[Pp hv (by simp_all)];rfl)|(rw[hw1];first|rfl|(rw[←hw2];rfl))|(rw[h00,kY hv (by rw[←h00];exact hc1)];rfl)
 have hst:DV s a=some (a.1,(Ah s.files a).parent):=if_pos hc3;obtain⟨hw1,hw2⟩:=Y5 hv hc1 hc2 (fun e=>hc3 (by rw[e])) hst;rw[if_neg hc3]at hw1;refine AG (Az (h:=l_ (h:=?_)));refine A3 rfl (A8 (FZ s.files a hs.files) ?_);rintro r rfl;refine Ee (h:=B7 (h:=CF (h:=JO (h:=Bq (h:=?_)))));refine A3 rfl (A8 (hrec hc1 _ hst) ?_);rintro r rfl
 skip
 refine GJ (h:=a_ (h:=C4 (h:=Ab (h:=l_ (h:=?_)))));refine A3 rfl (A8 (lA s a hs) ?_);rintro r rfl;refine A3 rfl (A8 (YD (Dd s (a.1,(Ah s.files a).parent)).1 (LE s a) (by have:=hwz (a.1,(Ah s.files a).parent);omega) (by omega)) ?_);rintro r rfl;refine m_ (h:=a_ (h:=BJ (h:=?_)));refine A6 ?_
 first|(rw[Pp hv (by simp_all)];rfl)|(rw[hw1];first|rfl|(rw[←hw2];rfl))
theorem lH{s:Spc}(hs:SpcB s)(hv:SpcV s)(a:A9):AFn prog 195 [.agg (AT s), .agg (AB a)] (fun r=>r= .tup [.v (.string (Dd s a).1), .v (.bool (Dd s a).2)]):=by
 have key:∀(k:Nat) (a:A9),ends s k a→AFn prog 195 [.agg (AT s), .agg (AB a)] (fun r=>r= .tup [.v (.string (Dd s a).1), .v (.bool (Dd s a).2)]):=by
  intro k
  induction k with
  |zero=>intro a h;exact YP hs hv a fun hd=>by rw[show AU s.files a=false from h]at hd;cases hd
  |succ k ih=>intro a h;exact YP hs hv a fun hd b hb=>ih b (h.resolve_left (by rw[hd];simp) b hb)
 exact key _ a (Le hv a)
theorem lJ{s:Spc}(hs:SpcB s)(a:A9)(p:Nat)(hrec:(CE s a.1).isSome=true→AFn prog 194 [.agg (AT s), .agg (AB ((CE s a.1).getD (0,0)))] (fun r=>r= .agg (AB (GW s p ((CE s a.1).getD (0,0)))))):
    AFn prog 194 [.agg (AT s), .agg (AB a)] (fun r=>r= .agg (AB (GW s (p+1) a))):=by
 have hde:=Md s.files a;refine enter Tryz.func194 rfl rfl rfl rfl rfl 0 rfl ?_;refine Dh (h:=DT (h:=Az (h:=l_ (h:=?_))));refine A3 rfl (A8 (FZ s.files a hs.files) ?_);rintro r rfl;refine JK (h:=EV (h:=?_));refine AJ false rfl rfl (fun hb1 hc1=>?_) (fun hb1 hc1=>?_)
 ·refine EK (h:=w_ (E0 (h:=e_ (B8 (Bu (?_))))));refine A6 ?_;rw[YL p (by rw[hde,hc1];rfl)];rfl
 refine D5 (h:=CV (h:=?_));refine A4 rfl (fun hb2 hc2=>?_) (fun hb2 hc2=>?_)
 ·refine w_ (E0 (h:=e_ (B8 (Bu (?_)))));refine A6 ?_;rw[YL p (by rw[hde,decide_eq_false hc2,Bool.and_false])];rfl
 refine D8 (h:=Bn (h:=?_));refine A4 rfl (fun hb3 hc3=>?_) (fun hb3 hc3=>?_)
 ·refine Hs (h:=E0 (h:=e_ (B8 (Bu (?_)))));refine A6 ?_;rw[YM p (by rw[hde,hc1,decide_eq_true hc2];rfl) hc3];rfl
 refine FY (h:=CF (h:=Ab (h:=?_)));refine A3 rfl (A8 (TC s a.1 hs) ?_);rintro r rfl;refine Ee (h:=C4 (h:=e_ (?_)));refine A4 rfl (fun hb4 hc4=>?_) (fun hb4 hc4=>?_)
 ·refine CG (h:=?_);refine A3 rfl (A8 (hrec hc4) ?_);rintro r rfl;refine s_ (h:=e_ (B8 (Bu (?_))));refine A6 ?_;rw[YN p (by rw[hde,hc1,decide_eq_true hc2];rfl) hc3 hc4];rfl
 refine AG (Fs (h:=e_ (B8 (?_))));refine A6 ?_;rw[YO p (by rw[hde,hc1,decide_eq_true hc2];rfl) hc3 hc4];rfl
theorem lK{s:Spc}(hs:SpcB s)(hv:SpcV s):∀(p:Nat) (a:A9),Mt s a.1<p→AFn prog 194 [.agg (AT s), .agg (AB a)] (fun r=>r= .agg (AB (GW s p a))):=by
 intro p
 induction p with
 |zero=>intro a h;omega
 |succ p ih=>intro a hp;exact lJ hs a p fun ho=>ih _ (by have:=Xw hv (UN ho);omega)
end
end Go.Proofs.YtbgnigjfkbmceaaGreatDoor
namespace Go.Proofs.YtbgnigjfkbmceaaGreatDoor
section
variable {s:Spc}(hv:SpcV s)
include hv
omit hv in
theorem Pr{a:A9}(h:(Dd s a).2=true):AU s.files a=true∧CO s a.1=true:=by
 unfold Dd at h;split at h
 ·rename_i c;exact⟨c.1,c.2.1⟩
 cases h
theorem YQ{d:Int}(h0:0≤d)(h1:d<(s.files.length:Int)):AU s.files (d,1)=true:=by
 obtain⟨q,rfl⟩:=Int.eq_ofNat_of_zero_le h0;have hq:s.files[q]?=some s.files[q]:=B3 (by omega);obtain⟨r,rest,hr,h2,h3,_⟩:=(hv.files.vd _ (Ag hq)).root;exact(Nf (UG hv hq (by rw[hr];exact List.mem_cons_self ..) h2)).2 h3
end
end Go.Proofs.YtbgnigjfkbmceaaGreatDoor
namespace Go.Proofs.YtbgnigjfkbmceaaGreatDoor
structure Fnd where
 dir:A9
 name:AE
 file:A9
 ex:Bool
 slash:Bool
 path:AE
def GX:Fnd:=⟨(0,0),⟨#[]⟩,(0,0),false,false,⟨#[]⟩⟩
def Al(x:Fnd):List AV:=[.v (.int .i64 x.dir.1), .v (.int .i64 x.dir.2), .v (.string x.name), .v (.int .i64 x.file.1), .v (.int .i64 x.file.2), .v (.bool x.ex), .v (.bool x.slash), .v (.string x.path)]
def Fe(s:AE):List AE:=(DU s.data.toList).map fun l=>⟨l.toArray⟩
theorem YR(s:AE):CX (Fe s)=DU s.data.toList:=by
 unfold CX Fe;rw[List.map_map];have:((fun x:AE=>x.data.toList) ∘ fun l:Bs=>(⟨l.toArray⟩:AE))=id:=by funext l;simp
 rw[this,List.map_id]
theorem YS:∀{a b:List AE},CX a=CX b→a=b
 |[],[],_=>rfl
 |[],_::_,h=>by simp[CX]at h
 |_::_,[],h=>by simp[CX]at h
 |x::a,y::b,h=>by
   simp only[CX,List.map_cons,List.cons.injEq]at h;rw[Rl h.1,YS (a:=a) (b:=b) h.2]
theorem YT{s:AE}{ps:List AE}(h:CX ps=DU s.data.toList):ps=Fe s:=YS (h.trans (YR s).symm)
theorem UO(s:AE):(Fe s).length≤s.size+1:=by
 have h1:=YK (Fe s);have h2:=Tl s.data.toList;rw[←YR]at h2;rw[Lib.size_eq];omega
def Ff(s:Spc):A9:=EY s s.mounts.length (0,1)
structure Lk where
 ps:List AE
 dir:A9
 name:AE
 file:A9
 ex:Bool
 links:Nat
abbrev lL:AE:=⟨#[46]⟩
abbrev lM:AE:=⟨#[46,46]⟩
def CJ(s:Spc)(fl:Bool)(p:AE)(ps:List AE)(a:A9)(lk:Nat):Int ⊕ Lk:=
 if AU s.files a=false then .inl 20
 else if 12<p.size then .inl 36
 else if p=lL then .inr ⟨ps,a,⟨#[]⟩,a,true,lk⟩
 else if p=lM then .inr ⟨ps,EY s s.mounts.length (GW s (s.mounts.length+1) a),⟨#[]⟩,EY s s.mounts.length (GW s (s.mounts.length+1) a),true,lk⟩
 else if(AK s.files a p).2≠0 then(if ps≠[]∨Fk p=false then .inl 2 else .inr ⟨[],a,p,(0,0),false,lk⟩)
 else if(Ah s.files (AK s.files a p).1).kind=3∧(ps≠[]∨fl=true)then
  (if lk=8 then .inl 40 else
    .inr ⟨Fe (Ah s.files (AK s.files a p).1).target++ps,if G2 (Ah s.files (AK s.files a p).1).target=true then Ff s else a,⟨#[]⟩,if G2 (Ah s.files (AK s.files a p).1).target=true then Ff s else a,true,lk+1⟩)
 else .inr ⟨ps,a,p,EY s s.mounts.length (AK s.files a p).1,true,lk⟩
def Rn:Lk:=⟨[],(0,0),⟨#[]⟩,(0,0),false,0⟩
def Ex(s:Spc)(fl:Bool):Nat→Lk→Int×Lk
 |0,σ=>(0,σ)
 |k+1,σ=>match σ.ps with
   |[]=>(0,σ)
   |p::ps=>match CJ s fl p ps σ.file σ.links with
     | .inl e=>(e,Rn)
     | .inr τ=>Ex s fl k τ
def G3(σ:Lk):Nat:=(8 - σ.links) * 200+σ.ps.length
section
variable {s:Spc}(hv:FlsV s.files)
include hv
theorem UP{fl:Bool}{p:AE}{ps:List AE}{a:A9}{lk:Nat}{τ:Lk}(h8:lk≤8)(h:CJ s fl p ps a lk= .inr τ):τ.links≤8∧G3 τ<(8 - lk) * 200+(ps.length+1):=by
 unfold CJ at h;split at h
 ·cases h
 split at h
 ·cases h
 split at h
 ·injection h with h;subst h;exact⟨h8,by unfold G3;simp only;omega⟩
 split at h
 ·injection h with h;subst h;exact⟨h8,by unfold G3;simp only;omega⟩
 split at h
 ·split at h
  ·cases h
  injection h with h;subst h;exact⟨h8,by unfold G3;simp only[List.length_nil];omega⟩
 split at h
 ·split at h
  ·cases h
  rename_i h9;injection h with h;subst h;have ht:=U4 hv (AK s.files a p).1;have hl:=UO (Ah s.files (AK s.files a p).1).target;refine⟨by simp only;omega,?_⟩;unfold G3;simp only[List.length_append]
  have:(8 - lk) * 200=(8 - (lk+1)) * 200+200:=by
   rw[show 8 - lk=(8 - (lk+1))+1 by omega,Nat.add_mul]
  omega
 injection h with h;subst h;exact⟨h8,by unfold G3;simp only;omega⟩
theorem lN(fl:Bool):∀(k k':Nat) (σ:Lk),σ.links≤8→G3 σ≤k→G3 σ≤k'→Ex s fl k σ=Ex s fl k' σ:=by
 intro k
 induction k with
 |zero=>
   intro k' σ h8 h h'
   have he:σ.ps=[]:=by
    unfold G3 at h;exact Fg (by omega)
   cases k' with
   |zero=>rfl
   |succ k'=>unfold Ex;rw[he]
 |succ k ih=>
   intro k' σ h8 h h'
   cases hps:σ.ps with
   |nil=>cases k'<;>(unfold Ex;rw[hps])
   |cons p ps=>
     have hm:G3 σ=(8 - σ.links) * 200+(ps.length+1):=by unfold G3;rw[hps];rfl
     cases k' with
     |zero=>rw[hm]at h';omega
     |succ k'=>
       unfold Ex;rw[hps];simp only
       cases hs:CJ s fl p ps σ.file σ.links with
       |inl e=>rfl
       |inr τ=>
         simp only;obtain⟨h1,h2⟩:=UP hv h8 hs;exact ih k' τ h1 (by omega) (by omega)
end
def G4(s:Spc)(fl:Bool)(σ:Lk):Int×Lk:=Ex s fl (G3 σ) σ
theorem YU{s:Spc}{fl:Bool}{σ:Lk}(h:σ.ps=[]):G4 s fl σ=(0,σ):=by
 unfold G4
 cases G3 σ with
 |zero=>rfl
 |succ k=>unfold Ex;rw[h]
theorem lO{s:Spc}(hv:FlsV s.files){fl:Bool}{σ:Lk}{p:AE}{ps:List AE}(h8:σ.links≤8)(h:σ.ps=p::ps):G4 s fl σ=match CJ s fl p ps σ.file σ.links with
    | .inl e=>(e,Rn)
    | .inr τ=>G4 s fl τ:=by
 have hm:G3 σ=((8 - σ.links) * 200+ps.length)+1:=by unfold G3;rw[h];rfl
 unfold G4;rw[hm]
 conv=>lhs;unfold Ex
 rw[h];simp only
 cases hs:CJ s fl p ps σ.file σ.links with
 |inl e=>rfl
 |inr τ=>
   simp only;obtain⟨h1,h2⟩:=UP hv h8 hs;exact lN hv fl _ _ τ h1 (by omega) (B6 _)
def Lf(s:Spc)(sl:Bool)(τ:Lk):Fnd:=⟨τ.dir,τ.name,τ.file,τ.ex,sl,if(Dd s τ.dir).2=true then(if τ.name=⟨#[]⟩then(Dd s τ.dir).1 else Kk (Dd s τ.dir).1 τ.name)else⟨#[]⟩⟩
def Kl(ps:List AE)(a:A9):Lk:=⟨ps,a,⟨#[]⟩,a,true,0⟩
def Bb(s:Spc)(start:A9)(p:AE)(fl:Bool):Fnd×Int:=
 if p=⟨#[]⟩then(GX,2)else if 128<p.size then(GX,36)
 else if AU s.files (if G2 p=true then Ff s else start)=false then(GX,2)
 else if(G4 s (fl||Be p) (Kl (Fe p) (if G2 p=true then Ff s else start))).1≠0 then(GX,(G4 s (fl||Be p) (Kl (Fe p) (if G2 p=true then Ff s else start))).1)
 else if Be p=true∧(G4 s (fl||Be p) (Kl (Fe p) (if G2 p=true then Ff s else start))).2.ex=true∧AU s.files (G4 s (fl||Be p) (Kl (Fe p) (if G2 p=true then Ff s else start))).2.file=false then(GX,20)
 else(Lf s (Be p) (G4 s (fl||Be p) (Kl (Fe p) (if G2 p=true then Ff s else start))).2,0)
end Go.Proofs.YtbgnigjfkbmceaaGreatDoor
namespace Go.Proofs.YtbgnigjfkbmceaaGreatDoor
open Go.RowKit
structure Dsc where
 fd:Int
 file:A9
 flags:Int
structure Prc where
 pid:Int
 ppid:Int
 uid:Int
 euid:Int
 gid:Int
 egid:Int
 auid:Int
 ses:Int
 cwd:A9
 comm:AE
 exe:AE
 opens:List Dsc
 audited:Bool
structure Tab where
 next:Int
 nextS:Int
 ps:List Prc
structure Syst where
 spc:Spc
 tab:Tab
structure Cal where
 num:Int
 a0:Int
 a1:Int
 a2:Int
 a3:Int
 paths:List AE
 args:List AE
structure Res where
 exit:Int
 child:Int
 gone:Int
 items:List Itm
 changes:List Ly
structure Wrk where
 s:Syst
 p:Prc
 c:Cal
 found:List Fnd
 r:Res
def lP:Prc:=⟨0,0,0,0,0,0,0,0,(0,0),⟨#[]⟩,⟨#[]⟩,[],false⟩
def EE:Tab:=⟨0,0,[]⟩
def Gx:Res:=⟨0,0,0,[],[]⟩
def OZ(cwd:A9):Tab:=⟨2,1,[⟨1,0,0,0,0,0,4294967295,4294967295,cwd,⟨#[105,110,105,116]⟩,⟨#[47,105,110,105,116]⟩,[],true⟩]⟩
def Oa(t:Tab)(pid:Int):Option Prc:=t.ps.find? fun p=>decide (p.pid=pid)
def CP(t:Tab)(pid:Int):Bool:=(Oa t pid).isSome
def AQ(t:Tab)(pid:Int):Prc:=(Oa t pid).getD lP
def JQ(t:Tab)(p:Prc):Tab:=⟨t.next,t.nextS,t.ps.map fun x=>if x.pid=p.pid then p else x⟩
def Gy(t:Tab)(pid:Int):Tab×Int×Int:=
 if CP t pid=false then(EE,0,3)else if 16≤(t.ps.length:Int)∨t.next=1073741824 then(EE,0,11)
 else(⟨t.next+1,t.nextS,t.ps++[{AQ t pid with pid:=t.next,ppid:=pid}]⟩,t.next,0)
def Jl(pid:Int)(p:Prc):Prc:=if p.ppid=pid then{p with ppid:=1}else p
def Jm(t:Tab)(pid:Int):Tab×Int:=
 if CP t pid=false then(EE,3)else if pid=1 then(EE,1)
 else(⟨t.next,t.nextS,(t.ps.filter fun p=>decide (p.pid≠pid)).map (Jl pid)⟩,0)
def FN(priv:Bool)(real eff n:Int):Int×Int×Int:=if priv=true then(n,n,0)else if n=real∨n=eff then(real,n,0)else(0,0,1)
def Km(n:Int):Bool:=decide (0≤n)&&decide (n<4294967295)
def Jn(t:Tab)(pid u:Int):Tab×Int:=
 if CP t pid=false then(EE,3)else if Km u=false then(EE,22)
 else if(FN (decide ((AQ t pid).euid=0)) (AQ t pid).uid (AQ t pid).euid u).2.2≠0 then(EE,(FN (decide ((AQ t pid).euid=0)) (AQ t pid).uid (AQ t pid).euid u).2.2)
 else(JQ t {AQ t pid with uid:=(FN (decide ((AQ t pid).euid=0)) (AQ t pid).uid (AQ t pid).euid u).1,euid:=(FN (decide ((AQ t pid).euid=0)) (AQ t pid).uid (AQ t pid).euid u).2.1},0)
def Jo(t:Tab)(pid u:Int):Tab×Int:=
 if CP t pid=false then(EE,3)else if Km u=false then(EE,22)
 else if(FN (decide ((AQ t pid).euid=0)) (AQ t pid).gid (AQ t pid).egid u).2.2≠0 then(EE,(FN (decide ((AQ t pid).euid=0)) (AQ t pid).gid (AQ t pid).egid u).2.2)
 else(JQ t {AQ t pid with gid:=(FN (decide ((AQ t pid).euid=0)) (AQ t pid).gid (AQ t pid).egid u).1,egid:=(FN (decide ((AQ t pid).euid=0)) (AQ t pid).gid (AQ t pid).egid u).2.1},0)
def GY(t:Tab)(pid auid:Int):Tab×Int:=
 if CP t pid=false then(EE,3)else if Km auid=false then(EE,22)
 else if(AQ t pid).auid≠4294967295∧(AQ t pid).euid≠0 then(EE,1)else if t.nextS=1073741824 then(EE,11)
 else(⟨t.next,t.nextS+1,(JQ t {AQ t pid with auid:=auid,ses:=t.nextS}).ps⟩,0)
def G5:Nat→List Dsc→Nat
 |k,[]=>k
 |k,d::r=>if d.fd=(k:Int)then G5 (k+1) r else k
def Ob(l:List Dsc)(fd:Nat)(x:Dsc):List Dsc:=l.take fd++x::l.drop fd
def GZ(t:Tab)(pid:Int)(a:A9)(flags:Int):Tab×Int×Int:=
 if CP t pid=false then(EE,0,3)else if 8≤((AQ t pid).opens.length:Int)then(EE,0,24)
 else(JQ t {AQ t pid with opens:=Ob (AQ t pid).opens (G5 0 (AQ t pid).opens) ⟨(G5 0 (AQ t pid).opens:Nat),a,flags⟩},(G5 0 (AQ t pid).opens:Nat),0)
def Kn(t:Tab)(pid fd:Int):Tab×Int:=
 if CP t pid=false then(EE,3)else if(((AQ t pid).opens.filter fun d=>decide (d.fd≠fd)).length:Int)=((AQ t pid).opens.length:Int)then(EE,9)
 else(JQ t {AQ t pid with opens:=(AQ t pid).opens.filter fun d=>decide (d.fd≠fd)},0)
def LF(t:Tab)(pid:Int)(dir:A9):Tab×Int:=if CP t pid=false then(EE,3)else(JQ t {AQ t pid with cwd:=dir},0)
def LG(t:Tab)(pid:Int)(exe comm:AE):Tab×Int:=if CP t pid=false then(EE,3)else(JQ t {AQ t pid with exe:=exe,comm:=comm},0)
def JR(t:Tab)(pid target:Int)(ends:Bool):Tab×Int:=
 if CP t pid=false then(EE,3)else if CP t target=false then(EE,3)
 else if target=1∨(AQ t pid).euid≠0∧(AQ t pid).euid≠(AQ t target).uid then(EE,1)
 else if ends=true then Jm t target else(t,0)
def Fp:List (AE×Int×Int×Int×Int):=[(⟨#[102,111,114,107]⟩,0,0,0,0),
 (⟨#[101,120,101,99,118,101]⟩,0,1,0,4),
 (⟨#[101,120,105,116]⟩,1,0,0,0),
 (⟨#[115,101,116,117,105,100]⟩,1,0,0,0),
 (⟨#[115,101,116,103,105,100]⟩,1,0,0,0),
 (⟨#[108,111,103,105,110]⟩,1,0,0,0),
 (⟨#[111,112,101,110]⟩,2,1,0,0),
 (⟨#[99,108,111,115,101]⟩,1,0,0,0),
 (⟨#[108,105,110,107]⟩,0,2,0,0),
 (⟨#[115,121,109,108,105,110,107]⟩,0,1,1,1),
 (⟨#[117,110,108,105,110,107]⟩,0,1,0,0),
 (⟨#[109,107,100,105,114]⟩,1,1,0,0),
 (⟨#[114,109,100,105,114]⟩,0,1,0,0),
 (⟨#[114,101,110,97,109,101]⟩,0,2,0,0),
 (⟨#[99,104,109,111,100]⟩,1,1,0,0),
 (⟨#[99,104,111,119,110]⟩,2,1,0,0),
 (⟨#[99,104,100,105,114]⟩,0,1,0,0),
 (⟨#[109,111,117,110,116]⟩,1,1,0,0),
 (⟨#[117,109,111,117,110,116]⟩,1,0,0,0),
 (⟨#[99,111,110,110,101,99,116]⟩,1,0,1,1),
 (⟨#[107,105,108,108]⟩,2,0,0,0),
 (⟨#[116,114,117,110,99,97,116,101]⟩,1,1,0,0)]
def C9(n:Int):AE×Int×Int×Int×Int:=if n<0∨22≤n then(⟨#[]⟩,0,0,0,0)else(Fp[n.toNat]?).getD (⟨#[]⟩,0,0,0,0)
def Oc(c:Cal):List Int:=[c.a0,c.a1,c.a2,c.a3]
def Bx(c:Cal):Int:=
 if(C9 c.num).1=⟨#[]⟩then 100 else if(((Oc c).drop (C9 c.num).2.1.toNat).any fun x=>decide (x≠0))=true then 101
 else if(c.paths.length:Int)≠(C9 c.num).2.2.1∨(c.args.length:Int)<(C9 c.num).2.2.2.1∨(C9 c.num).2.2.2.2<(c.args.length:Int)then 101
 else if(c.paths.any fun p=>decide (128<p.size))=true then 102 else if(c.args.any fun p=>decide (64<p.size))=true then 102 else 0
def Hi(n:Nod)(euid egid:Int):Int:=
 if euid=n.uid then Gf .i64 (N9 .i64 n.mode 6) 7 else if egid=n.gid then Gf .i64 (N9 .i64 n.mode 3) 7 else Gf .i64 n.mode 7
def Gz(n:Nod)(euid egid want:Int):Bool:=
 if want<0∨7<want then false
 else if euid=0 then decide (Gf .i64 want 1=0)||decide (n.kind=2)||decide (Gf .i64 n.mode 73≠0)
 else decide (Gf .i64 (Hi n euid egid) want=want)
def CL(a f:Int):Bool:=decide (Gf .i64 a f≠0)
def DF(c:Cal):List Int:=
 if c.num=1 then[1]else if c.num=6 then[(if CL c.a0 1=true then 4 else 0)+(if CL c.a0 22=true then 2 else 0)]
 else if c.num=8 then[8,2]else if c.num=13 then[2,2]else if c.num=14∨c.num=15∨c.num=17 then[8]else if c.num=16 then[4]else[2]
def DW(c:Cal):Bool:=
 if c.num=6 then decide (Gf .i64 c.a0 32=0)else decide (c.num=1∨c.num=14∨c.num=15∨c.num=16∨c.num=17∨c.num=21)
def Ps(n:Int):Bool:=decide (0≤n)&&decide (n≤511)
def Ko(c:Cal):AE:=c.args.headD ⟨#[]⟩
def DG(p:Prc)(c:Cal):Int:=
 if c.num=6 then(if c.a0<0∨63<c.a0∨Gf .i64 c.a0 3=0∨Ps c.a1=false then 22 else if 8≤(p.opens.length:Int)then 24 else 0)
 else if c.num=9 then(if Ko c=⟨#[]⟩then 2 else if(Ko c).data.toList.any (fun b=>decide (b=0))=true then 22 else 0)
 else if c.num=11∨c.num=14 then(if Ps c.a0=false then 22 else 0)
 else if c.num=15 then(if c.a0<0∨4294967295<c.a0∨c.a1<0∨4294967295<c.a1 then 22 else 0)
 else if c.num=17 then(if p.euid≠0 then 1 else 0)
 else if c.num=21 then(if c.a0<0 then 22 else 0)else 0
def Pt(s:Spc)(given:AE)(perm:Int)(f:Fnd):Itm:=
 ⟨given,f.path,f.dir,f.name,f.file,1,(Ah s.files f.file).kind,(Ah s.files f.file).mode,(Ah s.files f.file).uid,(Ah s.files f.file).gid,perm⟩
def Jp(given:AE)(perm:Int):Itm:=⟨given,⟨#[]⟩,(0,0),⟨#[]⟩,(0,0),1,0,0,0,0,perm⟩
def J6(s:Spc)(cwd:A9)(fl:Bool)(x:List Itm×List Fnd×Int)(g:AE×Int):List Itm×List Fnd×Int:=
 if x.2.2=0 then
  (if(Bb s cwd g.1 fl).2=0 then(x.1++[Pt s g.1 g.2 (Bb s cwd g.1 fl).1],x.2.1++[(Bb s cwd g.1 fl).1],0)else(x.1++[Jp g.1 g.2],x.2.1++[(Bb s cwd g.1 fl).1],(Bb s cwd g.1 fl).2))
 else(x.1++[Jp g.1 g.2],x.2.1++[GX],x.2.2)
def Lg(s:Spc)(cwd:A9)(fl:Bool)(l:List (AE×Int))(e:Int):List Itm×List Fnd×Int:=l.foldl (J6 s cwd fl) ([],[],e)
def B0(w:Wrk)(i:Nat):Fnd:=(w.found[i]?).getD GX
def CM(w:Wrk)(a:A9)(want:Int):Bool:=Gz (Ah w.s.spc.files a) w.p.euid w.p.egid want
def Kq(w:Wrk)(i:Nat):Bool:=AU w.s.spc.files (B0 w i).file
def Jq(w:Wrk)(a:A9):Bool:=(CS w.s.spc a).isSome||w.s.tab.ps.any fun p=>decide (p.cwd=a)
def Bc(w:Wrk)(R:FH):Wrk×Int:=if R.2.2=0 then({w with s:=⟨⟨R.1,w.s.spc.mounts⟩,w.s.tab⟩,r:={w.r with changes:=R.2.1}},0)else(w,R.2.2)
def CN(w:Wrk)(R:Tab×Int):Wrk×Int:=if R.2=0 then({w with s:=⟨w.s.spc,R.1⟩},0)else(w,R.2)
def YV(n:Nod)(a:A9)(x:Itm):Itm:={x with role:=2,file:=a,kind:=n.kind,mode:=n.mode,uid:=n.uid,gid:=n.gid}
def Kr(w:Wrk)(i:Nat)(a:A9):Wrk:={w with r:={w.r with items:=w.r.items.modify i (YV (Ah w.s.spc.files a) a)}}
def lQ:Ly:=((0,0),⟨#[]⟩,(0,0),(0,0))
def YW(l:List Ly):A9:=(l.headD lQ).2.2.2
def Pu(w:Wrk)(n:Nod):Nod:={n with uid:=w.p.euid,gid:=w.p.egid}
def Fq(w:Wrk)(i:Nat)(n:Nod):FH:=FL w.s.spc.files (B0 w i).dir (B0 w i).name (Pu w n)
def D0(w:Wrk)(i:Nat)(n:Nod):Wrk×Int:=
 if(Fq w i n).2.2=0 then(Kr (Bc w (Fq w i n)).1 i (YW (Fq w i n).2.1),0)else(w,(Fq w i n).2.2)
def Jr(w:Wrk)(i:Nat)(role:Int):Wrk:={w with r:={w.r with items:=w.r.items.modify i fun x=>{x with role:=role}}}
def Ro(w:Wrk)(n:Int):Wrk:={w with r:={w.r with exit:=n}}
def Ks(mode:Int):Nod:=⟨0,1,mode,0,0,0,⟨#[]⟩,[]⟩
def LH(w:Wrk)(a:A9):Wrk×Int:=CN (Ro w (GZ w.s.tab w.p.pid a w.c.a0).2.1) ((GZ w.s.tab w.p.pid a w.c.a0).1,(GZ w.s.tab w.p.pid a w.c.a0).2.2)
def M9(a:Int):Int:=(if CL a 1=true then 4 else 0)+(if CL a 18=true then 2 else 0)
def Cn(w:Wrk):Wrk×Int:=
 if(B0 w 0).ex=true then
  (if CL w.c.a0 4=true∧CL w.c.a0 8=true then(w,17)
  else if(Ah w.s.spc.files (B0 w 0).file).kind=3 then(w,40)
  else if(Ah w.s.spc.files (B0 w 0).file).kind=2∧CL w.c.a0 22=true then(w,21)
  else if CM w (B0 w 0).file (M9 w.c.a0)=false then(w,13)
  else LH w (B0 w 0).file)
 else
  (if CL w.c.a0 4=false then(w,2)else if(B0 w 0).slash=true then(w,21)else if CM w (B0 w 0).dir 2=false then(w,13)
  else if(D0 w 0 (Ks w.c.a1)).2≠0 then D0 w 0 (Ks w.c.a1)
  else LH (D0 w 0 (Ks w.c.a1)).1 (YW (D0 w 0 (Ks w.c.a1)).1.r.changes))
def G6(w:Wrk):Wrk×Int:=
 if(B0 w 0).ex=false then(w,2)else if Kq w 0=true then(w,1)else if(B0 w 1).ex=true then(w,17)else if(B0 w 1).slash=true then(w,2)
 else if(B0 w 0).file.1≠(B0 w 1).dir.1 then(w,18)else if CM w (B0 w 1).dir 2=false then(w,13)
 else if(Ew w.s.spc.files (B0 w 1).dir (B0 w 1).name (B0 w 0).file).2.2≠0 then(w,(Ew w.s.spc.files (B0 w 1).dir (B0 w 1).name (B0 w 0).file).2.2)
 else(Kr (Bc w (Ew w.s.spc.files (B0 w 1).dir (B0 w 1).name (B0 w 0).file)).1 1 (B0 w 0).file,0)
def KK(w:Wrk)(R:FH):Wrk×Int:=if R.2.2≠0 then(w,R.2.2)else(Jr (Bc w R).1 0 3,0)
def Ey(w:Wrk):Wrk×Int:=
 if(B0 w 0).ex=false then(w,2)
 else if w.c.num=10 then
  (if(B0 w 0).name=⟨#[]⟩∨Kq w 0=true then(w,21)else if CM w (B0 w 0).dir 2=false then(w,13)
  else KK w (J3 w.s.spc.files (B0 w 0).dir (B0 w 0).name))
 else
  (if(B0 w 0).name=⟨#[]⟩then(w,16)else if Kq w 0=false then(w,20)
  else if Jq w (AK w.s.spc.files (B0 w 0).dir (B0 w 0).name).1=true then(w,16)else if CM w (B0 w 0).dir 2=false then(w,13)
  else KK w (Gv w.s.spc.files (B0 w 0).dir (B0 w 0).name))
def Lh(w:Wrk)(R:FH)(x:A9):Wrk×Int:=
 if R.2.2≠0 then(w,R.2.2)else if 0<(R.2.1.length:Int)then(Kr (Jr (Bc w R).1 0 3) 1 x,0)else((Bc w R).1,0)
def G7(w:Wrk):Wrk×Int:=
 if(B0 w 0).ex=false then(w,2)else if(B0 w 0).name=⟨#[]⟩∨(B0 w 1).name=⟨#[]⟩then(w,16)
 else if(B0 w 1).slash=true∧Kq w 0=false then(w,20)else if(B0 w 0).dir.1≠(B0 w 1).dir.1 then(w,18)
 else if CM w (B0 w 0).dir 2=false∨CM w (B0 w 1).dir 2=false then(w,13)
 else if(AK w.s.spc.files (B0 w 1).dir (B0 w 1).name).2=0∧(AK w.s.spc.files (B0 w 1).dir (B0 w 1).name).1≠(AK w.s.spc.files (B0 w 0).dir (B0 w 0).name).1∧AU w.s.spc.files (AK w.s.spc.files (B0 w 1).dir (B0 w 1).name).1=true∧Jq w (AK w.s.spc.files (B0 w 1).dir (B0 w 1).name).1=true then(w,16)
 else Lh w (Fz w.s.spc.files (B0 w 0).dir (B0 w 0).name (B0 w 1).dir (B0 w 1).name) (AK w.s.spc.files (B0 w 0).dir (B0 w 0).name).1
def Li(w:Wrk)(R:AR×Int):Wrk×Int:=Bc w (R.1,[],R.2)
def Ga(w:Wrk):Wrk×Int:=
 if(B0 w 0).ex=false then(w,2)
 else if w.c.num=14 then
  (if w.p.euid≠0∧w.p.euid≠(Ah w.s.spc.files (B0 w 0).file).uid then(w,1)
  else Li w (Fy w.s.spc.files (B0 w 0).file w.c.a0 (Ah w.s.spc.files (B0 w 0).file).uid (Ah w.s.spc.files (B0 w 0).file).gid))
 else if w.p.euid≠0 then(w,1)else Li w (Fy w.s.spc.files (B0 w 0).file (Ah w.s.spc.files (B0 w 0).file).mode w.c.a0 w.c.a1)
def Lj(w:Wrk)(R:Spc×Int):Wrk×Int:=if R.2=0 then({w with s:=⟨R.1,w.s.tab⟩},0)else(w,R.2)
def Dw(w:Wrk):Wrk×Int:=
 if(B0 w 0).ex=false then(w,2)
 else if w.c.num=1 then(if Kq w 0=true∨CM w (B0 w 0).file 1=false then(w,13)else CN w (LG w.s.tab w.p.pid (B0 w 0).path (B0 w 0).name))
 else if w.c.num=16 then(if Kq w 0=false then(w,20)else if CM w (B0 w 0).file 1=false then(w,13)else CN w (LF w.s.tab w.p.pid (B0 w 0).file))
 else if w.c.num=17 then(if Kq w 0=false then(w,20)else Lj w (EP w.s.spc w.c.a0 (B0 w 0).file))
 else if Kq w 0=true then(w,21)else if CM w (B0 w 0).file 2=false then(w,13)else(w,0)
def Od(t:AE):Nod:=⟨0,3,511,0,0,0,t,[]⟩
def Pv(mode:Int):Nod:=⟨0,2,mode,0,0,0,⟨#[]⟩,[]⟩
def Gb(w:Wrk):Wrk×Int:=
 if(B0 w 0).ex=true then(w,17)else if(B0 w 0).slash=true∧w.c.num=9 then(w,2)else if CM w (B0 w 0).dir 2=false then(w,13)
 else if w.c.num=9 then D0 w 0 (Od (Ko w.c))else D0 w 0 (Pv w.c.a0)
def Oe(t:Tab)(dev:Int):Bool:=t.ps.any fun p=>decide (p.cwd.1=dev)||p.opens.any fun d=>decide (d.file.1=dev)
def Ll(w:Wrk)(R:Spc×Int):Wrk×Int:=if R.2=0 then({w with s:=⟨R.1,w.s.tab⟩,r:={w.r with gone:=w.c.a0}},0)else(w,R.2)
def Hj(w:Wrk):Wrk×Int:=
 if w.p.euid≠0 then(w,1)else if w.c.a0=0∨CO w.s.spc w.c.a0=false then(w,22)else if Oe w.s.tab w.c.a0=true then(w,16)
 else Ll w (J4 w.s.spc w.c.a0)
def Of(w:Wrk)(n:Int):Wrk:={w with r:={w.r with exit:=n,child:=n}}
def FO(w:Wrk):Wrk×Int:=
 if w.c.num=0 then CN (Of w (Gy w.s.tab w.p.pid).2.1) ((Gy w.s.tab w.p.pid).1,(Gy w.s.tab w.p.pid).2.2)
 else if w.c.num=2 then CN w (Jm w.s.tab w.p.pid)
 else if w.c.num=3 then CN w (Jn w.s.tab w.p.pid w.c.a0)
 else if w.c.num=4 then CN w (Jo w.s.tab w.p.pid w.c.a0)
 else if w.c.num=5 then CN w (GY w.s.tab w.p.pid w.c.a0)
 else if w.c.num=7 then CN w (Kn w.s.tab w.p.pid w.c.a0)
 else if w.c.num=18 then Hj w
 else if w.c.num=19 then(if w.c.a0<0∨65535<w.c.a0∨Ko w.c=⟨#[]⟩then(w,22)else if w.c.a0=0 then(w,111)else(w,0))
 else if w.c.a1<0∨64<w.c.a1 then(w,22)else CN w (JR w.s.tab w.p.pid w.c.a0 (decide (w.c.a1≠0)))
def BW(w:Wrk):Wrk×Int:=
 if w.c.num=6 then Cn w else if w.c.num=8 then G6 w else if w.c.num=10∨w.c.num=12 then Ey w else if w.c.num=13 then G7 w
 else if w.c.num=14∨w.c.num=15 then Ga w else if w.c.num=1∨w.c.num=16∨w.c.num=17∨w.c.num=21 then Dw w
 else if w.c.num=9∨w.c.num=11 then Gb w else FO w
def J7(s:Syst)(p:Prc)(c:Cal):List Itm×List Fnd×Int:=Lg s.spc p.cwd (DW c) (c.paths.zip (DF c)) (DG p c)
def LJ(s:Syst)(pid:Int)(c:Cal):Wrk:=⟨s,AQ s.tab pid,c,(J7 s (AQ s.tab pid) c).2.1,{Gx with items:=(J7 s (AQ s.tab pid) c).1}⟩
def KL(n:Int):Syst×Int:=if(GQ n).2≠0 then(⟨⟨[],[]⟩,EE⟩,(GQ n).2)else(⟨⟨(GQ n).1,[]⟩,OZ (0,1)⟩,0)
def J8(d:Dsc):List AV:=[.v (.int .i64 d.fd), .v (.int .i64 d.file.1), .v (.int .i64 d.file.2), .v (.int .i64 d.flags)]
def Au(p:Prc):List AV:=[.v (.int .i64 p.pid), .v (.int .i64 p.ppid), .v (.int .i64 p.uid), .v (.int .i64 p.euid), .v (.int .i64 p.gid), .v (.int .i64 p.egid), .v (.int .i64 p.auid), .v (.int .i64 p.ses), .v (.int .i64 p.cwd.1), .v (.int .i64 p.cwd.2), .v (.string p.comm), .v (.string p.exe), .sl 4 (p.opens.map J8) none, .v (.bool p.audited)]
def Am(t:Tab):List AV:=[.v (.int .i64 t.next), .v (.int .i64 t.nextS), .sl 14 (t.ps.map Au) none]
def DH(s:Syst):List AV:=[.sl 2 (s.spc.files.map Cd) none, .sl 3 (s.spc.mounts.map Gt) none, .v (.int .i64 s.tab.next), .v (.int .i64 s.tab.nextS), .sl 14 (s.tab.ps.map Au) none]
def Dn(s:AE):List AV:=[.v (.string s)]
def G8(c:Cal):List AV:=[.v (.int .i64 c.num), .v (.int .i64 c.a0), .v (.int .i64 c.a1), .v (.int .i64 c.a2), .v (.int .i64 c.a3), .sl 1 (c.paths.map Dn) none, .sl 1 (c.args.map Dn) none]
def Cf(y:Itm):List AV:=[.v (.string y.given), .v (.string y.path), .v (.int .i64 y.dir.1), .v (.int .i64 y.dir.2), .v (.string y.name), .v (.int .i64 y.file.1), .v (.int .i64 y.file.2), .v (.int .i64 y.role), .v (.int .i64 y.kind), .v (.int .i64 y.mode), .v (.int .i64 y.uid), .v (.int .i64 y.gid), .v (.int .i64 y.perm)]
def Ni(r:Res):List AV:=[.v (.int .i64 r.exit), .v (.int .i64 r.child), .v (.int .i64 r.gone), .sl 13 (r.items.map Cf) none, .sl 7 (r.changes.map Ej) none]
def De(w:Wrk)(fnd its:AV):List AV:=
 [.sl 2 (w.s.spc.files.map Cd) none, .sl 3 (w.s.spc.mounts.map Gt) none, .v (.int .i64 w.s.tab.next), .v (.int .i64 w.s.tab.nextS), .sl 14 (w.s.tab.ps.map Au) none,
 .v (.int .i64 w.p.pid), .v (.int .i64 w.p.ppid), .v (.int .i64 w.p.uid), .v (.int .i64 w.p.euid), .v (.int .i64 w.p.gid), .v (.int .i64 w.p.egid), .v (.int .i64 w.p.auid), .v (.int .i64 w.p.ses), .v (.int .i64 w.p.cwd.1), .v (.int .i64 w.p.cwd.2), .v (.string w.p.comm), .v (.string w.p.exe), .sl 4 (w.p.opens.map J8) none, .v (.bool w.p.audited),
 .v (.int .i64 w.c.num), .v (.int .i64 w.c.a0), .v (.int .i64 w.c.a1), .v (.int .i64 w.c.a2), .v (.int .i64 w.c.a3), .sl 1 (w.c.paths.map Dn) none, .sl 1 (w.c.args.map Dn) none,fnd,
 .v (.int .i64 w.r.exit), .v (.int .i64 w.r.child), .v (.int .i64 w.r.gone),its, .sl 7 (w.r.changes.map Ej) none]
structure TabB(t:Tab):Prop where
 few:t.ps.length≤16
 opens:∀p∈t.ps,p.opens.length≤8
 next:t.next≤1073741824
 nextS:t.nextS≤1073741824
structure RowF(sz:Nat){α:Type}(F:α→List AV):Prop where
 len:∀x,(F x).length=sz
 flat:∀x,∀y∈F x,(∃v,y= .v v)∨∃s r,y= .sl s r none
 pos:0<sz
def LB(sz:Nat){α:Type}(F:α→List AV)(l:List α)(cap:Nat):List AV:=CZ sz cap (l.map F)
section
variable {α:Type}{sz:Nat}{F:α→List AV}(hF:RowF sz F)
include hF
theorem Nj(l:List α):∀r∈l.map F,r.length=sz:=by
 intro r hr;obtain⟨x,_,rfl⟩:=List.mem_map.1 hr;exact hF.len x
theorem Rp{l:List α}{cap:Nat}(h:l.length≤cap):(LB sz F l cap).length=cap * sz:=TH (Nj hF l) (by simpa using h)
theorem lR{g:AV→AV}(hv:∀x,g (.v x)= .v x)(hs:∀sz rows,g (.sl sz rows none)= .sl sz rows none)(x:α):(F x).map g=F x:=by
 conv=>rhs;rw[←List.map_id (F x)]
 apply List.map_congr_left;intro y hy;rcases hF.flat x y hy with⟨v,rfl⟩|⟨s,r,rfl⟩
 ·exact hv v
 exact hs s r
theorem UQ{g:AV→AV}(hany:g .any= .any)(hv:∀x,g (.v x)= .v x)(hs:∀sz rows,g (.sl sz rows none)= .sl sz rows none)(l:List α)(cap:Nat):(LB sz F l cap).map g=LB sz F l cap:=by
 unfold LB;rw[PQ g hany,List.map_map]
 congr 1
 apply List.map_congr_left;intro x _;exact lR hF hv hs x
theorem Df(g:Nat→Option Nat)(l:List α)(cap:Nat):E5 g (LB sz F l cap)=LB sz F l cap:=by
 rw[PO];exact UQ hF rfl (fun _=>rfl) (fun _ _=>rfl) l cap
theorem MA(g:Nat→Option Nat)(l:List α)(cap:Nat):JY g (LB sz F l cap)=LB sz F l cap:=by
 rw[RN];exact UQ hF rfl (fun _=>rfl) (fun _ _=>rfl) l cap
theorem lS(g:Nat→Option (List AV))(l:List α)(cap:Nat):Kb g (LB sz F l cap)=LB sz F l cap:=by
 rw[PP];exact UQ hF rfl (fun _=>rfl) (fun _ _=>rfl) l cap
theorem lT{n m:Nat}(x:α):AX n m (F x)=true:=by
 refine TV.2 fun y hy=>?_;rcases hF.flat x y hy with⟨v,rfl⟩|⟨s,r,rfl⟩<;>rfl
theorem By{n m:Nat}{l:List α}{cap:Nat}:AX n m (LB sz F l cap)=true:=by
 refine TW fun r hr=>?_;obtain⟨x,_,rfl⟩:=List.mem_map.1 hr;exact lT hF x
theorem lU{n:Nat}{bx:List (List AV)}{k j:Nat}{l:List α}{cap:Nat}(hn:n≤j)(hj:bx[j]?=some (LB sz F l cap)):Ec n bx (k+1) j=some (LB sz F l cap):=by
 have:Nat.blt j n=false:=by rw[←Bool.not_eq_true,Nat.blt_eq];omega
 simp only[Ec,this,hj,Option.map_some,lS hF]
theorem Og{n:Nat}{bx:List (List AV)}{k j:Nat}{l:List α}{cap cap0:Nat}(hn:Nat.ble n j=true)(hj:bx[j]?=some (LB sz F l cap))(hc:l.length≤cap):H9 n (Ec n bx (k+1)) (.bs j 0 sz l.length cap0)= .sl sz (l.map F) none:=
 Xj (BX hn) (lU hF (BX hn) hj) (Nj hF l) (by simp) (by simpa using hc)
theorem lV{l:List α}{cap i k:Nat}{x:α}{y:AV}(h:l[i]?=some x)(hx:(F x)[k]?=some y):(LB sz F l cap)[0+i * sz+k]?=some y:=PS (Nj hF l) (by rw[List.getElem?_map,h];rfl) hx
theorem MB{l:List α}{cap i k:Nat}{x x':α}{cs:List AV}(h:l[i]?=some x)(hs:SetAt (F x) k cs (F x'))(hne:cs≠[]):SetAt (LB sz F l cap) (0+i * sz+k) cs (LB sz F (l.set i x') cap):=by
 have key:=TZ (cap:=cap) (Nj hF l) (by rw[List.getElem?_map,h];rfl) hs hne;rw[←List.map_set]at key;exact key
theorem YX{l:List α}{cap i:Nat}{x x':α}(h:l[i]?=some x):SetAt (LB sz F l cap) (0+i * sz) (F x') (LB sz F (l.set i x') cap):=by
 have hne:F x'≠[]:=fun e=>by have h1:=hF.len x';have h2:=hF.pos;rw[e]at h1;simp at h1;omega
 have hs:SetAt (F x) 0 (F x') (F x'):=by
  have:=SetAt.whole (xs:=F x') (l:=F x) (b:=[]) (by rw[hF.len,hF.len])
  simpa using this
 have key:=MB hF (cap:=cap) h hs hne
 simpa using key
theorem YY(x:α)(cap:Nat):F x++List.replicate ((cap - 1) * sz) .any=LB sz F [x] cap:=by
 have _:=hF;unfold LB CZ;simp
theorem UR(acc:List α)(x:α)(cap0 cap:Nat):((LB sz F acc cap0).drop 0).take (acc.length * sz)++F x++List.replicate ((cap - (acc.length+1)) * sz) .any=LB sz F (acc++[x]) cap:=by
 unfold LB;rw[Wm (Nj hF acc) (by simp),List.map_append];rfl
theorem US{acc:List α}{x:α}{cap:Nat}{row:List AV}(hs:SetAt (LB sz F acc cap) (0+acc.length * sz) (F x) row)(hc:acc.length+1≤cap):row=LB sz F (acc++[x]) cap:=by
 have key:=Wl (rows:=acc.map F) (sz:=sz) (cap:=cap) (r:=F x) (row':=row) (Nj hF acc) (hF.len x) hF.pos (by simpa using hc) (by rw[List.length_map];exact hs);rw[key];unfold LB;rw[List.map_append];rfl
end
theorem Ek:RowF 14 Au:=⟨fun _=>rfl,fun x y h=>by simp[Au]at h;rcases h with h|h|h|h|h|h|h|h|h|h|h|h|h|h<;>first|exact .inl ⟨_,h⟩|exact .inr ⟨_,_,h⟩,by decide⟩
theorem B4:RowF 13 Cf:=⟨fun _=>rfl,fun x y h=>by simp[Cf]at h;rcases h with h|h|h|h|h|h|h|h|h|h|h|h|h<;>exact .inl ⟨_,h⟩,by decide⟩
theorem CA{f:Nat→Option AV}{bx:List (List AV)}{tk:List (Nat×Nat×List (List AV))}{l:List (Nat×AV)}{N:Dim}(n m:Nat){bx':List (List AV)}{tk':List (Nat×Nat×List (List AV))}(hbp:AY n m bx'=true)(hn:Nat.ble N.ni n=true:=by rfl)(hb:bx.take n=bx':=by rfl)(ht:tk.take m=tk':=by rfl)(hl:Sub n m f l:=by repeat (first|exact Sub.nil|refine Sub.cons _ _ _ rfl rfl ?_|refine Sub.any _ _ ?_|refine Sub.sl _ _ _ _ _ rfl ?_|refine Sub.slnil _ _ _ rfl ?_|(apply Sub.of;(focus exact rfl);(focus exact LeA.of_eq (vb (by simp[*])));(focus exact rfl)))):Weak N ⟨f,⟨bx,tk⟩⟩ ⟨look l,⟨bx',tk'⟩⟩:=Ai n m hn hb ht hbp hl
def Dx(bx:List (List AV))(g:Nat→Option Nat):List Nat→List (List AV)→List (List AV)
 |[],bc=>bx++bc.map (E5 g)
 |i::is,[]=>Dx bx g is []
 |i::is,r::bc=>Dx (bx.set i (E5 g r)) g is bc
theorem YZ{g:Nat→Option Nat}:∀(is:List Nat) (bx bc:List (List AV)),is.length≤bc.length→(Dx bx g is bc).length=bx.length+(bc.length - is.length)
 |[],bx,bc,_=>by simp[Dx]
 |i::is,bx,[],h=>by simp at h
 |i::is,bx,r::bc,h=>by
   unfold Dx;rw[YZ is _ bc (by simpa using h)];simp
theorem Rq{g:Nat→Option Nat}:∀(is:List Nat) (bx bc:List (List AV)) (i:Nat),i∉is→i<bx.length→(Dx bx g is bc)[i]?=bx[i]?
 |[],bx,bc,i,_,hi=>by unfold Dx;rw[DJ hi]
 |j::is,bx,[],i,h,hi=>by
   unfold Dx;exact Rq is bx [] i (fun hm=>h (List.mem_cons_of_mem _ hm)) hi
 |j::is,bx,r::bc,i,h,hi=>by
   unfold Dx;rw[Rq is _ bc i (fun hm=>h (List.mem_cons_of_mem _ hm)) (by simpa using hi),List.getElem?_set_ne (fun e=>h (by rw[e];exact List.mem_cons_self ..))]
theorem Ya{g:Nat→Option Nat}:∀(is:List Nat) (bx bc:List (List AV)) (k i:Nat) (row:List AV),is.Nodup→i<bx.length→is[k]?=some i→bc[k]?=some row→(Dx bx g is bc)[i]?=some (E5 g row)
 |[],_,_,_,_,_,_,_,h,_=>by simp at h
 |j::is,bx,[],k,i,row,_,_,_,h=>by simp at h
 |j::is,bx,r::bc,0,i,row,hn,hi,h1,h2=>by
   simp at h1 h2;subst h1 h2;unfold Dx;rw[Rq is _ bc j (List.nodup_cons.1 hn).1 (by simpa using hi),List.getElem?_set_self hi]
 |j::is,bx,r::bc,k+1,i,row,hn,hi,h1,h2=>by
   unfold Dx;exact Ya is _ bc k i row (List.nodup_cons.1 hn).2 (by simpa using hi) (by simpa using h1) (by simpa using h2)
theorem Yb{g:Nat→Option Nat}:∀(is:List Nat) (bx bc:List (List AV)) (k:Nat) (row:List AV),bc[is.length+k]?=some row→(Dx bx g is bc)[bx.length+k]?=some (E5 g row)
 |[],bx,bc,k,row,h=>by
   unfold Dx;rw[Eb (by omega),show bx.length+k - bx.length=k by omega,List.getElem?_map];simp at h;rw[h];rfl
 |j::is,bx,[],k,row,h=>by simp at h
 |j::is,bx,r::bc,k,row,h=>by
   unfold Dx;have:=Yb (g:=g) is (bx.set j (E5 g r)) bc k row (by simpa[Nat.add_right_comm]using h)
   simpa using this
theorem Pw{bx:List (List AV)}{is:List Nat}{bc:List (List AV)}(hn:is.Nodup)(hi:∀i∈is,i<bx.length)(hl:is.length≤bc.length):Back bx is bc (Dx bx (Ep is bx.length) is bc):=by
 refine⟨YZ is bx bc hl,fun i row h1 h2=>?_,fun k i row h1 h2=>?_,fun k row h=>Yb is bx bc k row h⟩
 ·rw[Rq is bx bc i h1 (Af.1 h2).1];exact h2
 exact Ya is bx bc k i row hn (hi i (Ag h1)) h1 h2
def DX:List AV:=[.v (.int .i64 0), .v (.int .i64 0), .v (.slice none 0 0)]
def DY(t:Tab)(x:AV):List AV:=[.v (.int .i64 t.next), .v (.int .i64 t.nextS),x]
def Ez(f:Prc→Prc)(l:List Prc)(j:Nat):List Prc:=(l.take j).map f++l.drop j
def Js(p x:Prc):Prc:=if x.pid=p.pid then p else x
theorem Mv(f:Prc→Prc)(l:List Prc)(j:Nat):(Ez f l j).length=l.length:=by
 unfold Ez;simp;omega
theorem UT{f:Prc→Prc}{l:List Prc}{j:Nat}{x:Prc}(h:l[j]?=some x):(Ez f l j)[j]?=some x:=by
 have hl:=(Af.1 h).1;unfold Ez;rw[Eb (by simp;omega)];simp only[List.length_map,List.length_take,List.getElem?_drop];rw[show j+(j - min j l.length)=j by omega];exact h
theorem Yc{f:Prc→Prc}{l:List Prc}{j:Nat}{x:Prc}(h:l[j]?=some x):(Ez f l j).set j (f x)=Ez f l (j+1):=by
 obtain⟨hl,e⟩:=Af.1 h;unfold Ez;rw[List.take_add_one,h,List.drop_eq_getElem_cons hl,List.set_append_right _ _ (by simp;omega)];simp only[List.length_map,List.length_take,List.map_append,List.append_assoc];rw[show j - min j l.length=0 by omega];rfl
theorem lW{f:Prc→Prc}{l:List Prc}{j:Nat}{x:Prc}(h:l[j]?=some x)(hf:f x=x):Ez f l j=Ez f l (j+1):=by
 rw[←Yc h,hf];have h2:=UT (f:=f) h;obtain⟨h3,h4⟩:=Af.1 h2;rw[←h4,List.set_getElem_self]
theorem lX(f:Prc→Prc)(l:List Prc):Ez f l l.length=l.map f:=by
 unfold Ez;simp
theorem Yd{t:Tab}{pid:Int}{p:Prc}(h:Oa t pid=some p):p∈t.ps:=List.mem_of_find?_eq_some h
theorem Jt{t:Tab}(ht:TabB t)(pid:Int):(AQ t pid).opens.length≤8:=by
 unfold AQ
 cases h:Oa t pid with
 |none=>exact BK _
 |some p=>exact ht.opens p (Yd h)
theorem Mw{t:Tab}{pid:Int}(h:CP t pid=true):0<t.ps.length:=by
 unfold CP at h;obtain⟨p,hp⟩:=Option.isSome_iff_exists.1 h;exact List.length_pos_of_mem (Yd hp)
theorem Ye{bx:List (List AV)}{n:Nat}(hn:bx.length=n)(t:Tab)(cap:Nat):Back bx [] [Am t,DY t (.bs 3 0 14 t.ps.length cap),DY t (.bs 3 0 14 t.ps.length cap),LB 14 Au t.ps cap] (bx++[Am t,DY t (.bs (n+3) 0 14 t.ps.length cap),DY t (.bs (n+3) 0 14 t.ps.length cap),LB 14 Au t.ps cap]):=by
 subst hn;have:=Pw (bx:=bx) (is:=[]) (bc:=[Am t,DY t (.bs 3 0 14 t.ps.length cap),DY t (.bs 3 0 14 t.ps.length cap),LB 14 Au t.ps cap]) List.nodup_nil (by simp) (by simp);have e1:E5 (Ep [] bx.length) (Am t)=Am t:=rfl;have e2:E5 (Ep [] bx.length) (DY t (.bs 3 0 14 t.ps.length cap))=DY t (.bs (bx.length+3) 0 14 t.ps.length cap):=by simp[E5,DY,H8,Ep]
 simpa[Dx,Df Ek,e1,e2]using this
section
theorem Px(p:Prc)(hp:p.opens.length≤1000):AFn prog 137 [.agg (Au p)] (fun r=>r= .agg (Au p)):=by
 refine enter Tryz.func137 rfl rfl rfl rfl rfl 0 rfl ?_;refine C6 (h:=DT (h:=Az (h:=?_)))
 first|refine A3 rfl (Dr rfl rfl rfl (by simp;omega) (by repeat constructor) ?_)|refine A3 rfl (Ge rfl rfl (by simp;omega) (by repeat constructor) ?_)
 refine D7 (h:=Fs (h:=e_ (B8 (?_))));refine A6 ?_;rfl
theorem Yf(t:Tab)(ht:TabB t):AFn prog 138 [.agg (Am t)] (fun r=>r= .agg (Am t)):=by
 have hfew:=ht.few;refine enter Tryz.func138 rfl rfl rfl rfl rfl 0 rfl ?_;refine C6 (h:=DT (h:=Hs (h:=Bq (h:=Dk (h:=CW (h:=?_))))));refine K5 2 2 29 14 rfl rfl (by repeat constructor) (by repeat constructor) (by repeat constructor) ?_;refine BR (fun m s=>∃j:Nat,j≤t.ps.length∧m=t.ps.length - j∧s=⟨look [(1, .bp 0 0),(2, .bp 1 0),(3, .bp 2 0),(4, .v (.int .i64 (j:Int)))],⟨[Am t,DX,DY t (.sl 14 ((t.ps.take j).map Au) (some 0))],[(29,14,(t.ps.take j).map Au)]⟩⟩) (t.ps.length) ((wk 3 1)) (⟨0,BK _,rfl,rfl⟩) ?_;rintro m s ⟨j,hj,rfl,rfl⟩;refine GN (h:=?_);refine A4 rfl (fun hb1 hc1=>?_) (fun hb1 hc1=>?_)
 ·obtain⟨hlt,p,hy,hrow,e⟩:=Bz Au hc1;have hop:p.opens.length≤1000:=by have:=ht.opens p (Ag hy);omega
  refine AG (q_ (BH (BS ([(0,Am t),(1,DX),(2,DY t (.sl 14 ((t.ps.take j).map Au) (some 0)))]) 11 (h:=AD 0 (h:=AA 1 (h:=AD 2 (h:=AA 3 (h:=AF 4 (h:=DK 5 (h:=AA 6 (h:=?_)))))))))));refine c_ 7 rfl (A8 (Px p hop) ?_);rintro r rfl;refine o_ (h:=Ho 8 (h:=?_));refine c_ 9 rfl (Dr rfl rfl rfl (by simp;omega) (by repeat constructor) ?_);refine o_ (h:=AD 10 (h:=?_));refine Ak 11 (h:=z_ (h:=BB (t_ (Av (m_ (h:=ES (h:=a_ (h:=C1 (AM (?_))))))))));refine⟨_,_,?_,⟨j+1,by omega,rfl,rfl⟩,(by rw[e];exact Ai 3 1 rfl rfl rfl rfl ((by repeat (first|exact Sub.nil|refine Aj rfl rfl ?_|refine Ap ?_|refine Aq rfl ?_|refine Ar rfl ?_))))⟩;omega
 have e:=CD Au hj hc1;subst e;rw[List.take_length];refine CK (h:=Fs (h:=e_ (B8 (?_))));refine A6 ?_;rfl
theorem Yg(t:Tab)(ht:TabB t)(h0:0<t.ps.length):ACall prog 138 [.agg (Am t)] [] (fun r b tk=>tk=[]∧∃cap,t.ps.length≤cap∧r= .agg (DY t (.bs 3 0 14 t.ps.length cap))∧b=[Am t,DY t (.bs 3 0 14 t.ps.length cap),DY t (.bs 3 0 14 t.ps.length cap),LB 14 Au t.ps cap]):=by
 have hfew:=ht.few;refine enter Tryz.func138 rfl rfl rfl rfl rfl 4 rfl ?_;refine C6 (h:=DT (h:=Hs (h:=Bq (h:=Dk (h:=CW (h:=?_))))));refine BR (fun m s=>∃(j:Nat) (acc:List Prc),j≤t.ps.length∧m=t.ps.length - j∧t.ps.take j=acc∧((acc=[]∧s=⟨look [(1, .bp 0 0),(2, .bp 1 0),(3, .bp 2 0),(4, .v (.int .i64 (j:Int)))],⟨[Am t,DX,DY t (.v (.slice none 0 0))],[]⟩⟩)∨(∃cap,acc.length≤cap∧s=⟨look [(1, .bp 0 0),(2, .bp 1 0),(3, .bp 2 0),(4, .v (.int .i64 (j:Int)))],⟨[Am t,DX,DY t (.bs 3 0 14 acc.length cap),LB 14 Au acc cap],[]⟩⟩))) (t.ps.length) ((wk 3 0)) (⟨0,[],BK _,rfl,rfl, .inl ⟨rfl,rfl⟩⟩) ?_;rintro m s ⟨j,acc,hj,rfl,hacc,⟨rfl,rfl⟩|⟨cap,hcp,rfl⟩⟩
 ·skip
  refine GN (h:=?_);refine A4 rfl (fun hb1 hc1=>?_) (fun hb1 hc1=>?_)
  ·obtain⟨hlt,p,hy,hrow, -⟩:=Bz Au hc1;have hk:t.ps.take (j+1)=t.ps.take j++[p]:=by rw[List.take_add_one,hy];rfl
   have hop:p.opens.length≤1000:=by have:=ht.opens p (Ag hy);omega
   refine AG (q_ (BH (BS ([(0,Am t),(1,DX),(2,DY t (.v (.slice none 0 0)))]) 11 (h:=AD 0 (h:=AA 1 (h:=AD 2 (h:=AA 3 (h:=AF 4 (h:=DK 5 (h:=AA 6 (h:=?_)))))))))));refine c_ 7 rfl (A8 (Px p hop) ?_);rintro r rfl;refine o_ (h:=Ho 8 (h:=?_));refine c_ 9 rfl (R8 rfl rfl M5 (by omega) (by omega) ?_);rintro cap2 k bx2 hcp hs;rw[show CU (.agg (Au p))++List.replicate ((cap2 - 1) * 14) AV.any=LB 14 Au [p] cap2 from YY Ek p cap2]at hs;obtain⟨rfl,rfl⟩:k=3∧bx2=[_,_,_,_]:=hs.eq;refine o_ (h:=?_);refine AD 10 (h:=?_);refine Ak 11 (h:=z_ (h:=BB (t_ (Av (m_ (h:=ES (h:=a_ (h:=C1 (AM (?_))))))))));exact⟨t.ps.length - (j+1),_,by omega,⟨j+1,[p],by omega,rfl,(by rw[hk,hacc];rfl), .inr ⟨cap2,hcp,rfl⟩⟩,Ai 4 0 rfl rfl rfl (by simp[AY,AX,AW,By Ek,Am,DY,DX]) ((by repeat (first|exact Sub.nil|refine Aj rfl rfl ?_|refine Ap ?_|refine Aq rfl ?_|refine Ar rfl ?_)))⟩
  exfalso;have e:=CD Au hj hc1;rw[e,List.take_length]at hacc;rw[hacc]at h0;exact absurd h0 (by simp)
 skip
 refine GN (h:=?_);refine A4 rfl (fun hb2 hc2=>?_) (fun hb2 hc2=>?_)
 ·obtain⟨hlt,p,hy,hrow, -⟩:=Bz Au hc2;have hk:t.ps.take (j+1)=t.ps.take j++[p]:=by rw[List.take_add_one,hy];rfl
  have hop:p.opens.length≤1000:=by have:=ht.opens p (Ag hy);omega
  refine AG (q_ (BH (BS ([(0,Am t),(1,DX),(2,DY t (.bs 3 0 14 acc.length cap))]) 11 (h:=AD 0 (h:=AA 1 (h:=AD 2 (h:=AA 3 (h:=AF 4 (h:=DK 5 (h:=AA 6 (h:=?_)))))))))));refine c_ 7 rfl (A8 (Px p hop) ?_);rintro r rfl;refine o_ (h:=Ho 8 (h:=?_));refine c_ 9 rfl (O3 rfl rfl rfl (by rw[Rp Ek hcp];omega) M5 (by omega) (by have:=congrArg List.length hacc;simp at this;omega) ?_ ?_)
  ·rintro hg row2 bx2 hs hb;obtain rfl:=US Ek hs hg;obtain rfl:bx2=[_,_,_,_]:=hb.one.2;refine o_ (h:=?_);refine AD 10 (h:=?_);refine Ak 11 (h:=z_ (h:=BB (t_ (Av (m_ (h:=ES (h:=a_ (h:=C1 (AM (?_))))))))));exact⟨t.ps.length - (j+1),_,by omega,⟨j+1,acc++[p],by omega,rfl,(by rw[hk,hacc]), .inr ⟨cap,by simpa using hg,by rw[List.length_append];rfl⟩⟩,Ai 4 0 rfl rfl rfl (by simp[AY,AX,AW,By Ek,Am,DY,DX]) ((by repeat (first|exact Sub.nil|refine Aj rfl rfl ?_|refine Ap ?_|refine Aq rfl ?_|refine Ar rfl ?_)))⟩
  rintro hg cap3 k bx2 hcp3 hs;rw[show((LB 14 Au acc cap).drop 0).take (acc.length * 14)++CU (.agg (Au p))++List.replicate ((cap3 - (acc.length+1)) * 14) AV.any=LB 14 Au (acc++[p]) cap3 from UR Ek acc p cap cap3]at hs;obtain⟨rfl,rfl⟩:k=4∧bx2=[_,_,_,_,_]:=hs.eq;refine o_ (h:=?_);refine AD 10 (h:=?_);refine Ak 11 (h:=z_ (h:=BB (t_ (Av (m_ (h:=ES (h:=a_ (h:=C1 (AM (?_))))))))))
  first|exact⟨t.ps.length - (j+1),_,by omega,⟨j+1,acc++[p],by omega,rfl,(by rw[hk,hacc]), .inr ⟨cap,by simpa using hg,by rw[List.length_append];rfl⟩⟩,Ai 4 0 rfl rfl rfl (by simp[AY,AX,AW,By Ek,Am,DY,DX]) ((by repeat (first|exact Sub.nil|refine Aj rfl rfl ?_|refine Ap ?_|refine Aq rfl ?_|refine Ar rfl ?_)))⟩|exact⟨t.ps.length - (j+1),_,by omega,⟨j+1,acc++[p],by omega,rfl,(by rw[hk,hacc]), .inr ⟨cap3,by simpa using hcp3,by rw[List.length_append];rfl⟩⟩,GG [0,1,2,4] (fun i hi=>absurd hi (Nat.not_lt_zero i)) (by decide) (.cons _ _ _ _ _ rfl rfl (.cons _ _ _ _ _ rfl rfl (.cons _ _ _ _ _ rfl rfl (.cons _ _ _ _ _ rfl (MA Ek _ _ _) .nil)))) (by repeat (first|exact SubK.nil|refine SubK.cons _ _ _ _ rfl (A7 _) ?_))⟩
 have e:=CD Au hj hc2;refine CK (h:=Fs (h:=e_ (B8 (?_))));rw[e,List.take_length]at hacc;subst hacc;refine AZ (r:= .agg (DY t (.bs 3 0 14 t.ps.length cap))) none (h4:=(by simp[AY,AX,AW,By Ek,Am,DY])) (h5:=(A7 _)) (h6:=⟨rfl,cap,hcp,rfl,rfl⟩)
theorem KM(t:Tab)(pid:Int)(ht:TabB t):AFn prog 93 [.agg (Am t), .v (.int .i64 pid)] (fun r=>r= .tup [.agg (Au (AQ t pid)), .v (.bool (CP t pid))]):=by
 have hfew:=ht.few;refine enter Tryz.func93 rfl rfl rfl rfl rfl 0 rfl ?_;refine C6 (h:=Ja (h:=CW (h:=?_)));refine BR (fun m s=>∃j:Nat,j≤t.ps.length∧m=t.ps.length - j∧(∀i y,i<j→t.ps[i]?=some y→decide (y.pid=pid)=false)∧s=⟨look [(1, .v (.int .i64 pid)),(2, .bp 0 0),(4, .bp 1 0),(6, .v (.int .i64 (j:Int)))],⟨[Am t,[.v (.int .i64 0), .v (.int .i64 0), .v (.int .i64 0), .v (.int .i64 0), .v (.int .i64 0), .v (.int .i64 0), .v (.int .i64 0), .v (.int .i64 0), .v (.int .i64 0), .v (.int .i64 0), .v (.string ⟨#[]⟩), .v (.string ⟨#[]⟩), .v (.slice none 0 0), .v (.bool false)]],[]⟩⟩) (t.ps.length) ((wk 2 0)) (⟨0,BK _,rfl,fun i y hi=>by omega,rfl⟩) ?_;rintro m s ⟨j,hj,rfl,ha,rfl⟩;refine GN (h:=?_);refine A4 rfl (fun hb1 hc1=>?_) (fun hb1 hc1=>?_)
 ·obtain⟨hlt,p,hy,hrow, -⟩:=Bz Au hc1;have hop:p.opens.length≤1000:=by have:=ht.opens p (Ag hy);omega
  refine C2 (h:=Fu (h:=Gj (h:=BN (h:=?_))));refine A4 rfl (fun hb2 hc2=>?_) (fun hb2 hc2=>?_)
  ·have hg:Oa t pid=some p:=Mh hy (decide_eq_true hc2) ha;refine Fu (h:=l_ (h:=?_));refine A3 rfl (A8 (Px p hop) ?_);rintro r rfl;refine s_ (h:=BC (h:=EB (h:=?_)));refine A6 ?_;rw[AQ,CP,hg];rfl
  refine DL (h:=?_);refine⟨_,_,?_,⟨j+1,by omega,rfl,GP hy ha (decide_eq_false hc2),rfl⟩,(wk 2 0)⟩;omega
 have e:=CD Au hj hc1;subst e;have hg:Oa t pid=none:=Mi ha;refine CK (h:=w_ (E0 (h:=BJ (h:=?_))));refine AZ (r:= .tup [.agg (Au (AQ t pid)), .v (.bool (CP t pid))]) none (h5:=?_) (h6:=⟨rfl,rfl,rfl⟩);rw[AQ,CP,hg];exact(by repeat (first|exact A7 _|exact LeA.nil _|exact LeL.refl _|refine LeA.agg ?_|refine LeA.tup ?_|exact LeL.nil|refine LeL.cons ?_ ?_|exact LeA.any _))
theorem Nk(t:Tab)(p:Prc)(ht:TabB t)(h0:0<t.ps.length)(hp:p.opens.length≤1000):AFn prog 250 [.agg (Am t), .agg (Au p)] (fun r=>r= .agg (Am (JQ t p))):=by
 have hfew:=ht.few;refine enter Tryz.func250 rfl rfl rfl rfl rfl 0 rfl ?_;refine Dh (h:=DT (h:=?_));refine B9 (fun s=>∃cap,t.ps.length≤cap∧s=⟨look [(3, .bp 1 0),(4, .bp 2 0),(5, .bp 3 0)],⟨[Am t,Au p,DX,DY t (.bs 4 0 14 (Ez (Js p) t.ps 0).length cap),LB 14 Au (Ez (Js p) t.ps 0) cap],[]⟩⟩) ?_ ?_
 ·skip
  refine Av (l_ (h:=?_));refine A3 rfl (Bm [] rfl (.cons _ _ _ _ _ rfl (A7 _) .nil) (by decide) .nil (Yg t ht h0) ?_);rintro r bc tc ⟨rfl,cap,hcap,rfl,rfl⟩;refine⟨rfl,_,(Ye (n:=3) rfl t cap:Back _ [] _ [_,_,_,_,_,_,_]),?_⟩;refine NH (h:=D6 (h:=?_));exact⟨_,⟨cap,hcap,rfl⟩,GG [0,1,2,7,6] (fun i hi=>absurd hi (Nat.not_lt_zero i)) (by decide) (.cons _ _ _ _ _ rfl rfl (.cons _ _ _ _ _ rfl rfl (.cons _ _ _ _ _ rfl rfl (.cons _ _ _ _ _ rfl (by rw[Mv];rfl) (.cons _ _ _ _ _ rfl (MA Ek _ _ _) .nil))))) (by repeat (first|exact SubK.nil|refine SubK.cons _ _ _ _ rfl (A7 _) ?_))⟩
 rintro s ⟨cap,hcap,rfl⟩;refine B9 (fun s=>s=⟨look [(4, .bp 2 0),(5, .bp 3 0)],⟨[Am t,Au p,DX,Am (JQ t p)],[]⟩⟩) ?_ ?_
 ·skip
  refine O6 (h:=?_);refine BR (fun m s=>∃j:Nat,j≤t.ps.length∧m=t.ps.length - j∧s=⟨look [(3, .bp 1 0),(4, .bp 2 0),(5, .bp 3 0),(6, .v (.int .i64 (j:Int)))],⟨[Am t,Au p,DX,DY t (.bs 4 0 14 (Ez (Js p) t.ps j).length cap),LB 14 Au (Ez (Js p) t.ps j) cap],[]⟩⟩) (t.ps.length) (Bk 5 0 (by simp[AY,AX,AW,By Ek,Am,DY,DX,Au])) (⟨0,BK _,rfl,rfl⟩) ?_;rintro m s ⟨j,hj,rfl,rfl⟩;refine Bv (h:=Ab (h:=?_));refine A3 rfl (Si rfl ?_);refine Cj (h:=?_);refine A4 rfl (fun hb1 hc1=>?_) (fun hb1 hc1=>?_)
  ·have hlt:j<t.ps.length:=by rw[Mv]at hc1;omega
   obtain⟨x,hy⟩:∃x,t.ps[j]?=some x:=⟨_,B3 hlt⟩;have hl1:j<(Ez (Js p) t.ps j).length:=by rw[Mv];exact hlt
   refine AG (q_ (BH (q_ (Db 9 (h:=AD 0 (h:=AA 1 (h:=AF 2 (h:=?_))))))));refine GF (i:=3) rfl (Dy (m:=j) rfl rfl rfl hl1 ⟨rfl,rfl⟩) ?_;refine AD 4 (h:=?_);refine GF (i:=5) rfl (Dq rfl rfl (lV Ek (UT hy) rfl) ⟨rfl,rfl⟩) ?_;refine AD 6 (h:=AA 7 (h:=K7 8 (h:=z_ (h:=t_ (?_)))));refine A4 rfl (fun hb2 hc2=>?_) (fun hb2 hc2=>?_)
   ·have hu:(Ez (Js p) t.ps j).set j p=Ez (Js p) t.ps (j+1):=by rw[←Yc hy,Js,if_pos hc2]
    refine Av (Gj (h:=l_ (h:=?_)));refine A3 rfl (Dy (m:=j) rfl rfl rfl hl1 ?_);refine MY (Eo rfl rfl rfl rfl rfl rfl (YX Ek (x':=p) (UT hy)) (by repeat constructor) ?_);refine C1 (FD (h:=?_));exact⟨t.ps.length - (j+1),_,by omega,⟨j+1,by omega,rfl,rfl⟩,(by first|(rw[hu,show(Ez (Js p) t.ps j).length=(Ez (Js p) t.ps (j+1)).length by rw[Mv,Mv]];exact Bk 5 0 (by simp[AY,AX,AW,By Ek,Am,DY,DX,Au]))|(rw[hu];exact Bk 5 0 (by simp[AY,AX,AW,By Ek,Am,DY,DX,Au])))⟩
   have hu:Ez (Js p) t.ps j=Ez (Js p) t.ps (j+1):=lW hy (if_neg hc2);refine DL (h:=?_);exact⟨t.ps.length - (j+1),_,by omega,⟨j+1,by omega,rfl,rfl⟩,(by first|(rw[hu,show(Ez (Js p) t.ps j).length=(Ez (Js p) t.ps (j+1)).length by rw[Mv,Mv]];exact Bk 5 0 (by simp[AY,AX,AW,By Ek,Am,DY,DX,Au]))|(rw[hu];exact Bk 5 0 (by simp[AY,AX,AW,By Ek,Am,DY,DX,Au])))⟩
  obtain rfl:j=t.ps.length:=by rw[Mv]at hc1;omega
  rw[lX];refine L6 (h:=AM (?_));exact⟨_,rfl,Hm 4 1 rfl (congrArg (fun x=>[Am t,Au p,DX,[.v (.int .i64 t.next), .v (.int .i64 t.nextS),x]]) (Og Ek rfl rfl (by rw[List.length_map];exact hcap))) (.cons _ _ _ _ rfl (A7 _) (.cons _ _ _ _ rfl (A7 _) .nil))⟩
 rintro s rfl;refine Fs (h:=e_ (B8 (?_)));refine A6 ?_;rfl
end
end Go.Proofs.YtbgnigjfkbmceaaGreatDoor
