/-
  Part 11 of the proof of FilterDecidesP: what the statement's proof uses of the texts in wip/tpl.
-/
import Derived.Lib.AppendZerosOnto
import Derived.Test.YtbgnigjfkbmceaaGreatDoorQh10
open Go.Proofs.Tryz (prog)
set_option maxRecDepth 10000
set_option maxHeartbeats 4000000
set_option linter.unusedVariables false
set_option linter.unusedSimpArgs false
namespace Go.Proofs.YtbgnigjfkbmceaaGreatDoor
open Go.RowKit
theorem jO(d m:AF):(Kj d m).size≤d.size+1+m.size:=by
 unfold Kj;split
 ·rw[ByteArray.size_append];omega
 rw[ByteArray.size_append,ByteArray.size_append];show d.size+1+m.size≤_;omega
theorem jP{s:Spc}(hv:SpcV s)(pre:List AD):(OP s pre).size≤1+13 * pre.length:=by
 have key:∀(l:List AF) (d:AF),(∀x∈l,x.size≤12)→(l.foldl Kj d).size≤d.size+13 * l.length:=by
  intro l
  induction l with
  |nil=>intro d _;simp
  |cons x l ih=>
    intro d h;have h1:=ih (Kj d x) fun y hy=>h y (List.mem_cons_of_mem _ hy);have h2:=h x (List.mem_cons_self ..);have h3:=jO d x;rw[List.foldl_cons,List.length_cons];omega
 have h:=key (OO s pre).reverse ⟨#[47]⟩ (fun x hx=>by
  rw[List.mem_reverse]at hx;obtain⟨y,_,rfl⟩:=List.mem_map.1 hx
  exact U2 hv.files y)
 have h2:(OO s pre).length≤pre.length:=by unfold OO;rw[List.length_map];exact List.length_filter_le _ _
 rw[List.length_reverse]at h;have:(⟨#[47]⟩:AF).size=1:=rfl;unfold OP;omega
theorem Y4{s:Spc}(hv:SpcV s)(a:AD):(EY s a).1.size≤1000:=by
 unfold EY;split
 ·have h3:=Rb s (CR s.files) a;have h4:=U3 hv.files;refine Nat.le_trans (jP hv _) ?_;refine Nat.le_trans (Nat.add_le_add_left (Nat.mul_le_mul_left 13 ((List.takeWhile_sublist _).length_le)) 1) ?_;omega
 exact BE _
theorem Y5(d:AF)(h:0<d.size):d.data.toList.getLast?=some 47↔(((d[d.size - 1]'(by omega)).toNat:Int)=47):=by
 have hl:d.data.toList.length=d.size:=by simp
 rw[List.getLast?_eq_getElem?,hl,B6 (by omega)];show some (d[d.size - 1]'(by omega))=some 47↔_;rw[Option.some.injEq];constructor
 ·intro e;rw[e];rfl
 intro e;refine UInt8.toNat_inj.1 ?_;show _=47;omega
theorem jQ{d m:AF}(h:¬0<d.size):Kj d m=d++⟨#[47]⟩++m:=by
 refine if_neg fun e=>?_;have hl:d.data.toList.length=d.size:=by simp
 rw[List.getLast?_eq_getElem?,List.getElem?_eq_none (by omega)]at e;cases e
section
theorem Y6(d m:AF)(hd:d.size≤1000000)(hm:m.size≤1000000):AFn prog 196 [.v (.string d), .v (.string m)] (fun r=>r= .v (.string (Kj d m))):=by
 refine enter Tryz.func196 rfl rfl rfl rfl rfl 0 rfl ?_;refine w_ (Bo (h:=FW (h:=m_ (h:=?_))));refine AJ true rfl rfl (fun hb1 hc1=>?_) (fun hb1 hc1=>?_)
 ·refine Jd (h:=n_ (h:=JE (h:=?_)));refine As (M3 (n:=d.size - 1) Tryz.underlying9 rfl rfl (by omega) (by omega) ?_);refine Dt (h:=DS (h:=?_));refine A4 rfl (fun hb2 hc2=>?_) (fun hb2 hc2=>?_)
  ·refine DA (h:=?_);refine A3 rfl (H0 rfl rfl (by omega) ?_);refine Dd (h:=?_);refine A6 ?_;rw[show Kj d m=d++m from if_pos ((Y5 d (by omega)).2 hc2)];rfl
  refine AG (Aa (h:=?_));refine A3 rfl (H0 rfl rfl (by show d.size+1≤_;omega) ?_);refine m_ (h:=?_);refine A3 rfl (H0 rfl rfl (by rw[ByteArray.size_append];show d.size+1+m.size≤_;omega) ?_);refine Az (h:=?_);refine A6 ?_;rw[show Kj d m=d++⟨#[47]⟩++m from if_neg (fun h=>hc2 ((Y5 d (by omega)).1 h))];rfl
 refine Ja (h:=FV (h:=AG (Aa (h:=?_))));refine A3 rfl (H0 rfl rfl (by show d.size+1≤_;omega) ?_);refine m_ (h:=?_);refine A3 rfl (H0 rfl rfl (by rw[ByteArray.size_append];show d.size+1+m.size≤_;omega) ?_);refine Az (h:=?_);refine A6 ?_;rw[jQ (by omega)];rfl
theorem jR(s:Spc)(a:AD)(hs:SpcB s):AFn prog 248 [.agg (Au s.files), .agg (AB a)] (fun r=>r= .v (.string (L8 s a))):=by
 have hen:=Sw hs.files (a.1,(Ag s.files a).parent);change (MA s a).entries.length≤1000 at hen;refine enter Tryz.func248 rfl rfl rfl rfl rfl 0 rfl ?_;refine FC (h:=CA (h:=?_));refine A3 rfl (A8 (FJ s.files a hs.files) ?_);rintro r rfl
 skip
 refine Ee (h:=BO (h:=C4 (h:=Eg (h:=Bk (h:=?_)))));refine A3 rfl (A8 (FJ s.files (a.1,(Ag s.files a).parent) hs.files) ?_);rintro r rfl
 skip
 refine Ee (h:=JK (h:=?_));refine BM (fun m t=>∃j:Nat,j≤(MA s a).entries.length∧m=(MA s a).entries.length - j∧(∀i y,i<j→(MA s a).entries[i]?=some y→decide (y.2=a.2)=false)∧t=⟨look [(3, .bp 1 0),(7, .bp 3 0),(9, .v (.int .i64 (j:Int)))],⟨[Au s.files,AB a,AZ (Ag s.files a),AZ (MA s a)],[]⟩⟩) ((MA s a).entries.length) ((wk 4 0)) (⟨0,by omega,rfl,fun i y hi=>by omega,rfl⟩) ?_;rintro m t ⟨j,hj,rfl,ha,rfl⟩;refine Fz (h:=?_);refine A4 rfl (fun hb1 hc1=>?_) (fun hb1 hc1=>?_)
 ·obtain⟨hlt,x,hy,hrow, -⟩:=Br Dx hc1;refine AG (q_ (BF (q_ (Ct 9 (h:=AA 0 (h:=A9 1 (h:=AE 2 (h:=CL 3 (h:=AA 4 (h:=A9 5 (h:=AA 6 (h:=A9 7 (h:=JF 8 (h:=z_ (h:=t_ (?_))))))))))))))));refine A4 rfl (fun hb2 hc2=>?_) (fun hb2 hc2=>?_)
  ·refine H9 (h:=AO (h:=Ax (h:=Dk (h:=?_))));refine A6 ?_;rw[show L8 s a=x.1 by simp only[L8];rw[NM hy (by simpa using hc2) ha];rfl];rfl
  refine Cm (h:=?_);refine⟨_,_,?_,⟨j+1,by omega,rfl,GN hy ha (by simpa using hc2),rfl⟩,(wk 4 0)⟩;omega
 have e3:=C6 Dx hj hc1;subst e3;refine Fk (h:=?_);refine A6 ?_;rw[show L8 s a=⟨#[]⟩ by simp only[L8];rw[NN ha];rfl];rfl
end
def J0(s:AF):List AV:=[.v (.string s)]
theorem Y7{P:Program}{ev:Operand→Option AV}{h:AH}{R:AV→AH→Prop}{d:Option Tmp}{ty:TypeId}{pos:String}{af:Array Edge}{gd:Option (Nat×Bool)}{T:TypeId}{x lo hi:Operand}{s:ByteArray}{a k:Nat}{i j:Int}(hu:P.underlying T=some .string)
    (hx:ev x=some (.v (.string s))) (hl:ev lo=some (.v (.int .i64 i))) (hh:ev hi=some (.v (.int .i64 j))) (hi':i=(a:Int)) (hj:j=(k:Int)) (h1:a≤k) (h2:k≤s.size) (hR:R (.v (.string (s.extract a k))) h):AStep P ⟨d, .slice T x (some lo) (some hi) none,ty,pos,af,gd⟩ ev h R:=by
 refine DQ (fun _ G w ec _ he=>?_) hR;have k1:=he x (by simp[Op.operands]) _ hx;have k2:=he lo (by simp[Op.operands]) _ hl;have k3:=he hi (by simp[Op.operands]) _ hh;simp only[rep]at k1 k2 k3;subst hi' hj;refine⟨.string (s.extract a k),?_,by simp only[rep]⟩;simp[execOp,k1,k2,k3,Instr.sliceAt,Instr.slice,Instr.sliceBounds,Instr.sliceBound,asIntOf,run_underlying hu,h1,h2]
def J1(s:AF):Bool:=decide (s.data.toList.head?=some 47)
def Bi(s:AF):Bool:=decide (s.data.toList.getLast?=some 47)
theorem Rd{s:AF}(h:0<s.size):J1 s=decide (((s[0]'h).toNat:Int)=47):=by
 unfold J1;rw[fP s h,Bool.eq_iff_iff];simp
theorem Re{s:AF}(h:0<s.size):Bi s=decide (((s[s.size - 1]'(by omega)).toNat:Int)=47):=by
 unfold Bi;rw[fQ s h,Bool.eq_iff_iff];simp
theorem U8{s:AF}(h:¬0<s.size):J1 s=false:=by
 have:s.data.toList=[]:=Ff (by rw[←Lib.size_eq];omega);unfold J1;rw[this];rfl
theorem U9{s:AF}(h:¬0<s.size):Bi s=false:=by
 have:s.data.toList=[]:=Ff (by rw[←Lib.size_eq];omega);unfold Bi;rw[this];rfl
theorem Y8{s:AF}{k:Nat}(h:k<s.size)(h47:((s[k]'h).toNat:Int)=47):s.data.toList[k]?=some 47:=by
 rw[Lib.data_getElem? s k h]
 congr 1
 refine UInt8.toNat_inj.1 ?_;show _=47;omega
theorem Y9{s:AF}{f k:Nat}{ps:List AF}(hI:Fp s.data.toList f k (CY ps))(h:k=s.size∨s.data.toList[k]?=some 47):Fp s.data.toList (k+1) (k+1) (CY ps++one_ ((s.data.toList.drop f).take (k - f))):=by
 rcases h with h|h
 ·rw[Lib.size_eq]at h;subst h;exact fL hI
 exact fK hI h
theorem YA{s:AF}{f k:Nat}{ps:List AF}(hI:Fp s.data.toList f k (CY ps))(hk:k≤s.size)(h:k=s.size∨s.data.toList[k]?=some 47)(hf:f<k):Fp s.data.toList (k+1) (k+1) (CY (ps++[s.extract f k])):=fR (Y9 hI h) (fN (fO s hf hk))
theorem YB{s:AF}{f k:Nat}{ps:List AF}(hI:Fp s.data.toList f k (CY ps))(h:k=s.size∨s.data.toList[k]?=some 47)(hf:¬f<k):Fp s.data.toList (k+1) (k+1) (CY ps):=fS (Y9 hI h) (by omega)
theorem jS{s:AF}{f k:Nat}{ps:List AF}(hI:Fp s.data.toList f k (CY ps))(h:k<s.size)(h47:¬((s[k]'h).toNat:Int)=47):Fp s.data.toList f (k+1) (CY ps):=fJ hI (Lib.data_getElem? s k h) (fun e=>h47 (by rw[e];rfl))
theorem YC(ps:List AF):ps.length≤(EA (CY ps)).length:=by
 induction ps with
 |nil=>simp
 |cons p ps ih=>
   have:CY (p::ps)=p.data.toList::CY ps:=rfl;rw[this,LX];simp;omega
theorem UA{s:AF}{ps:List AF}(h:CY ps=DW s.data.toList){i:Nat}{x:AF}(hx:ps[i]?=some x):x.size≤s.size:=by
 rw[Lib.size_eq,Lib.size_eq s];refine fX ?_;rw[←h];exact List.mem_map.2 ⟨x,Am hx,rfl⟩
theorem jT{ps:List AF}{j:Nat}{x t:AF}(hx:ps[j]?=some x)(h:t.data.toList=EA ((CY ps).take j)):(t++(⟨#[47]⟩++x)).data.toList=EA ((CY ps).take (j+1)):=by
 have e:(CY ps)[j]?=some x.data.toList:=by unfold CY;rw[List.getElem?_map,hx];rfl
 rw[List.take_add_one,e,TX,←h];simp[EA]
theorem Rf{a b:AF}(h:a.data.toList=b.data.toList):a=b:=ByteArray.ext (Array.toList_inj.1 h)
theorem jU{s:AF}{ps:List AF}(h:CY ps=DW s.data.toList){i:Nat}{x:AF}(hx:ps[i]?=some x)(hn:Hs x=false):Fo s.data.toList=false:=by
 rw[←TZ];unfold PL;rw[←h];have:(CY ps).all Fn=false:=List.all_eq_false.2 ⟨x.data.toList,List.mem_map.2 ⟨x,Am hx,rfl⟩,by rw[←X9,hn];simp⟩;rw[this,Bool.false_and]
theorem jV{s t1:AF}{ps:List AF}(h:CY ps=DW s.data.toList)(ha:∀(i:Nat) (y:AF),i<ps.length→ps[i]?=some y→Hs y=true)(ht:t1.data.toList=EA ((CY ps).take ps.length))(h3:¬s=⟨#[47]⟩)(h0:0<ps.length):Fo s.data.toList=decide (s=t1):=by
 have hl:(CY ps).length=ps.length:=by simp[CY]
 rw[List.take_of_length_le (by omega)]at ht;rw[←TZ];unfold PL;rw[←h,←ht]
 have h1:(CY ps).all Fn=true:=List.all_eq_true.2 fun y hy=>by
  obtain⟨z,hz,rfl⟩:=List.mem_map.1 hy;obtain⟨i,hi⟩:=List.getElem?_of_mem hz;rw[←X9];exact ha i z (Af.1 hi).1 hi
 have h2:decide (s.data.toList=[47])=false:=decide_eq_false fun e=>h3 (Rf e);have h4:CY ps≠[]:=fun e=>by rw[e]at hl;simp at hl;omega
 rw[h1,h2,decide_eq_true h4];simp only[Bool.true_and,Bool.false_or];rw[Bool.eq_iff_iff,decide_eq_true_iff,decide_eq_true_iff];exact⟨fun e=>Rf e,fun e=>by rw[e]⟩
theorem jW{s:AF}{ps:List AF}(h:CY ps=DW s.data.toList)(h3:¬s=⟨#[47]⟩)(h0:ps.length=0):Fo s.data.toList=false:=by
 have e:CY ps=[]:=by rw[Ff h0];rfl
 rw[←TZ];unfold PL;rw[←h,e];have h2:decide (s.data.toList=[47])=false:=decide_eq_false fun e=>h3 (Rf e);rw[h2];simp
section
theorem UB(s:AF)(hs:s.size≤100000):AFn prog 191 [.v (.string s)] (fun r=>∃ps:List AF,CY ps=DW s.data.toList∧r= .tup [.sl 1 (ps.map J0) none, .v (.bool (J1 s)), .v (.bool (Bi s))]):=by
 have hsz:=Lib.size_eq s;refine enter Tryz.func191 rfl rfl rfl rfl rfl 0 rfl ?_;refine w_ (a_ (h:=a_ (h:=BO (h:=D7 (h:=D7 (h:=DT (h:=?_)))))));refine N6 5 9 1 rfl (by repeat constructor) ?_;refine BM (fun m t=>∃(f k:Nat) (ps:List AF),k≤s.size+1∧f≤k∧ps.length≤k∧m=s.size+1 - k∧Fp s.data.toList f k (CY ps)∧t=⟨look [(0, .v (.string s)),(5, .sl 1 (ps.map J0) (some 0)),(6, .v (.int .i64 (f:Int))),(7, .v (.int .i64 (k:Int)))],⟨[],[(9,1,ps.map J0)]⟩⟩) (s.size+1) ((wk 0 1)) (⟨0,0,[],by omega,by omega,by simp,rfl,fM _,rfl⟩) ?_;rintro m t ⟨f,k,ps,hk,hfk,hpl,rfl,hI,rfl⟩;refine De (h:=n_ (h:=Fg (h:=e_ (?_))));refine A4 rfl (fun hb1 hc1=>?_) (fun hb1 hc1=>?_)
 ·refine By (h:=DA (h:=n_ (h:=E4 (h:=?_))));refine AJ false rfl rfl (fun hb2 hc2=>?_) (fun hb2 hc2=>?_)
  ·refine BB (h:=DS (h:=E3 (h:=De (h:=Ed (h:=e_ (?_))))));refine A4 rfl (fun hb3 hc3=>?_) (fun hb3 hc3=>?_)
   ·have hnx:=YA hI (by omega) (.inl (by omega)) (by omega);refine EK (h:=Jd (h:=?_));refine A3 rfl (Y7 (a:=f) (k:=k) Tryz.underlying9 rfl rfl rfl rfl rfl (by omega) (by omega) ?_);refine BX (h:=?_);refine A3 rfl (EF rfl rfl rfl (by simp;omega) (by repeat constructor) ?_);refine BO (h:=NH (h:=Ef (h:=?_)));refine⟨_,_,?_,⟨_,k+1,_,by omega,by omega,(by(try simp only[List.length_append,List.length_cons,List.length_nil]);omega),rfl,hnx,rfl⟩,(by(try simp only[List.map_append,List.map_cons,List.map_nil]);exact Ah 0 1 rfl rfl rfl rfl ((by repeat (first|exact Sub.nil|refine Ai rfl rfl ?_|refine Ap ?_|refine Aq rfl ?_|refine Ar rfl ?_))))⟩;omega
   have hnx:=YB hI (.inl (by omega)) (by omega);refine AG (NH (h:=Ef (h:=?_)));refine⟨_,_,?_,⟨_,k+1,_,by omega,by omega,(by(try simp only[List.length_append,List.length_cons,List.length_nil]);omega),rfl,hnx,rfl⟩,(by(try simp only[List.map_append,List.map_cons,List.map_nil]);exact Ah 0 1 rfl rfl rfl rfl ((by repeat (first|exact Sub.nil|refine Ai rfl rfl ?_|refine Ap ?_|refine Aq rfl ?_|refine Ar rfl ?_))))⟩;omega
  refine Jd (h:=?_);refine As (M3 (n:=k) Tryz.underlying9 rfl rfl rfl (by omega) ?_);refine Dt (h:=CO (h:=?_));refine A4 rfl (fun hb4 hc4=>?_) (fun hb4 hc4=>?_)
  ·refine De (h:=Ed (h:=e_ (?_)));refine A4 rfl (fun hb5 hc5=>?_) (fun hb5 hc5=>?_)
   ·have hnx:=YA hI (by omega) (.inr (Y8 (by omega) hc4)) (by omega);refine EK (h:=Jd (h:=?_));refine A3 rfl (Y7 (a:=f) (k:=k) Tryz.underlying9 rfl rfl rfl rfl rfl (by omega) (by omega) ?_);refine BX (h:=?_);refine A3 rfl (EF rfl rfl rfl (by simp;omega) (by repeat constructor) ?_);refine BO (h:=NH (h:=Ef (h:=?_)));refine⟨_,_,?_,⟨_,k+1,_,by omega,by omega,(by(try simp only[List.length_append,List.length_cons,List.length_nil]);omega),rfl,hnx,rfl⟩,(by(try simp only[List.map_append,List.map_cons,List.map_nil]);exact Ah 0 1 rfl rfl rfl rfl ((by repeat (first|exact Sub.nil|refine Ai rfl rfl ?_|refine Ap ?_|refine Aq rfl ?_|refine Ar rfl ?_))))⟩;omega
   have hnx:=YB hI (.inr (Y8 (by omega) hc4)) (by omega);refine AG (NH (h:=Ef (h:=?_)));refine⟨_,_,?_,⟨_,k+1,_,by omega,by omega,(by(try simp only[List.length_append,List.length_cons,List.length_nil]);omega),rfl,hnx,rfl⟩,(by(try simp only[List.map_append,List.map_cons,List.map_nil]);exact Ah 0 1 rfl rfl rfl rfl ((by repeat (first|exact Sub.nil|refine Ai rfl rfl ?_|refine Ap ?_|refine Aq rfl ?_|refine Ar rfl ?_))))⟩;omega
  have hnx:=jS hI (by omega) hc4;refine Cm (h:=?_);refine⟨_,_,?_,⟨_,k+1,_,by omega,by omega,(by(try simp only[List.length_append,List.length_cons,List.length_nil]);omega),rfl,hnx,rfl⟩,(by(try simp only[List.map_append,List.map_cons,List.map_nil]);exact Ah 0 1 rfl rfl rfl rfl ((by repeat (first|exact Sub.nil|refine Ai rfl rfl ?_|refine Ap ?_|refine Aq rfl ?_|refine Ar rfl ?_))))⟩;omega
 refine MR (Jz (Jz (LJ (t_ (q_ (Ct 23 (h:=AE 0 (h:=AE 1 (h:=Lu 2 (h:=Sl 3 (h:=AE 4 (h:=?_))))))))))));refine GD (j:=4) rfl (fun hb6=>?_) (fun hb6=>?_)
 ·have hc6:=bp hb6;refine AE 5 (h:=?_);refine F9 (i:=6) rfl (M3 (n:=0) Tryz.underlying9 rfl rfl rfl (by omega) ⟨rfl,rfl⟩) ?_;refine JF 7 (h:=Hk 8 (h:=AE 9 (h:=Lu 10 (h:=Sl 11 (h:=AE 12 (h:=?_))))));refine GD (j:=12) rfl (fun hb7=>?_) (fun hb7=>?_)
  ·have hc7:=bp hb7;refine AE 13 (h:=AE 14 (h:=Lu 15 (h:=Sk 16 (h:=?_))));refine F9 (i:=17) rfl (M3 (n:=s.size - 1) Tryz.underlying9 rfl rfl (by omega) (by omega) ⟨rfl,rfl⟩) ?_;refine JF 18 (h:=Hk 19 (h:=B9 20 (h:=B9 21 (h:=B9 22 (h:=z_ (h:=t_ (B3 (?_))))))));refine A6 ?_;refine⟨ps,RL hI (by omega),?_⟩
   (rw[Rd (by omega),Re (by omega)];rfl)
  have hc7:=bp hb7;refine Aj 13 (h:=Aj 14 (h:=Aj 15 (h:=Aj 16 (h:=Aj 17 (h:=Aj 18 (h:=FB 19 (h:=B9 20 (h:=B9 21 (h:=B9 22 (h:=z_ (h:=t_ (B3 (?_)))))))))))));refine A6 ?_;refine⟨ps,RL hI (by omega),?_⟩
  first|(rw[Rd (by omega),Re (by omega)];rfl)|(rw[U8 (by omega),U9 (by omega)];rfl)|(exfalso;omega)
 have hc6:=bp hb6;refine Aj 5 (h:=Aj 6 (h:=Aj 7 (h:=FB 8 (h:=AE 9 (h:=Lu 10 (h:=Sl 11 (h:=AE 12 (h:=?_))))))));refine GD (j:=12) rfl (fun hb8=>?_) (fun hb8=>?_)
 ·have hc8:=bp hb8;refine AE 13 (h:=AE 14 (h:=Lu 15 (h:=Sk 16 (h:=?_))));refine F9 (i:=17) rfl (M3 (n:=s.size - 1) Tryz.underlying9 rfl rfl (by omega) (by omega) ⟨rfl,rfl⟩) ?_;refine JF 18 (h:=Hk 19 (h:=B9 20 (h:=B9 21 (h:=B9 22 (h:=z_ (h:=t_ (B3 (?_))))))));refine A6 ?_;refine⟨ps,RL hI (by omega),?_⟩
  first|(rw[Rd (by omega),Re (by omega)];rfl)|(rw[U8 (by omega),U9 (by omega)];rfl)|(exfalso;omega)
 have hc8:=bp hb8;refine Aj 13 (h:=Aj 14 (h:=Aj 15 (h:=Aj 16 (h:=Aj 17 (h:=Aj 18 (h:=FB 19 (h:=B9 20 (h:=B9 21 (h:=B9 22 (h:=z_ (h:=t_ (B3 (?_)))))))))))));refine A6 ?_;refine⟨ps,RL hI (by omega),?_⟩
 first|(rw[Rd (by omega),Re (by omega)];rfl)|(rw[U8 (by omega),U9 (by omega)];rfl)
theorem Rg(s:AF)(hs:s.size≤50000):AFn prog 156 [.v (.string s)] (fun r=>r= .v (.bool (Fo s.data.toList))):=by
 have hsz:=Lib.size_eq s;refine enter Tryz.func156 rfl rfl rfl rfl rfl 0 rfl ?_;refine EL (h:=?_);refine A3 rfl (A8 (UB s (by omega)) ?_);rintro r ⟨ps,hps,rfl⟩;have hpl:(ps.map J0).length=ps.length:=by simp
 have hfl:=Tc s.data.toList;rw[←hps]at hfl;have hpm:=YC ps;refine Ge (h:=x_ (h:=a_ (h:=a_ (h:=BO (h:=D7 (h:=DT (h:=?_)))))));refine BM (fun m t=>∃(j:Nat) (t1:AF),j≤ps.length∧m=ps.length - j∧(∀i y,i<j→ps[i]?=some y→Hs y=true)∧t1.data.toList=EA ((CY ps).take j)∧t=⟨look [(0, .v (.string s)),(3, .sl 1 (ps.map J0) none),(6, .v (.string t1)),(7, .v (.int .i64 (j:Int)))],⟨[],[]⟩⟩) (ps.length) ((wk 0 0)) (⟨0,⟨#[]⟩,by omega,rfl,fun i y hi=>by omega,rfl,rfl⟩) ?_;rintro m t ⟨j,t1,hj,rfl,ha,ht1,rfl⟩;refine De (h:=Fi (h:=?_));refine A4 rfl (fun hb1 hc1=>?_) (fun hb1 hc1=>?_)
 ·obtain⟨hlt,x,hy,hrow, -⟩:=Br J0 hc1;have ht2:t1.size≤s.size+1:=by rw[Lib.size_eq,ht1];exact Nat.le_trans (fW _ _) (by omega)
  refine By (h:=De (h:=?_));refine A3 rfl (DE (n:=j) rfl rfl rfl hrow ?_);refine l_ (h:=?_);refine A3 rfl (A8 (Sz x (by have:=UA hps hy;omega)) ?_);rintro r rfl;refine D2 (h:=?_);refine A4 rfl (fun hb2 hc2=>?_) (fun hb2 hc2=>?_)
  ·refine BK (h:=D8 (h:=Dk (h:=?_)));refine A6 ?_;exact vb (jU hps hy hc2).symm
  refine AG (EK (h:=m_ (h:=?_)));refine A3 rfl (DE (n:=j) rfl rfl rfl hrow ?_);refine l_ (h:=?_);refine A3 rfl (H0 rfl rfl (by have:=UA hps hy;show 1+x.size≤_;omega) ?_);refine A3 rfl (H0 rfl rfl (by have:=UA hps hy;rw[ByteArray.size_append];show t1.size+(1+x.size)≤_;omega) ?_);refine H6 (h:=Ef (h:=?_));refine⟨_,_,?_,⟨j+1,t1++(⟨#[47]⟩++x),by omega,rfl,GN hy ha hc2,jT hy ht1,rfl⟩,(wk 0 0)⟩;omega
 refine CP (h:=Aa (h:=E4 (h:=?_)));refine AJ false rfl rfl (fun hb3 hc3=>?_) (fun hb3 hc3=>?_)
 ·refine BB (h:=Fx (h:=Gf (h:=?_)));refine A6 ?_;exact vb (by rw[hc3];rfl)
 refine m_ (h:=FW (h:=m_ (h:=?_)));refine AJ true rfl rfl (fun hb4 hc4=>?_) (fun hb4 hc4=>?_)
 ·refine m_ (h:=CE (h:=CD (h:=Bh (h:=Az (h:=?_)))));refine A6 ?_;have e:=C6 J0 hj hc1;subst e;exact vb (jV hps ha ht1 hc3 (by omega)).symm
 refine Cu (h:=Bh (h:=Az (h:=?_)));refine A6 ?_;have e:=C6 J0 hj hc1;subst e;exact vb (jW hps hc3 (by omega)).symm
end
theorem UC{s:Spc}{d:Int}(h:(C1 s d).isSome=true):C1 s d=some ((C1 s d).getD (0,0)):=by
 cases ho:C1 s d with
 |none=>rw[ho]at h;cases h
 |some o=>rfl
theorem jX{s:Spc}{d:Int}(h:(C1 s d).isSome=false):C1 s d=none:=by
 cases ho:C1 s d with
 |none=>rfl
 |some o=>rw[ho]at h;cases h
theorem YD{s:Spc}{a:AD}(k:Nat)(h:Ac s.files a=false):Gm s (k+1) a=(0,0):=by unfold Gm;rw[h];rfl
theorem jY{s:Spc}{a:AD}(k:Nat)(h:Ac s.files a=true)(h1:¬a.2=1):Gm s (k+1) a=(a.1,(Ag s.files a).parent):=by unfold Gm;rw[if_pos h,if_pos h1]
theorem jZ{s:Spc}{a:AD}(k:Nat)(h:Ac s.files a=true)(h1:a.2=1)(ho:(C1 s a.1).isSome=true):Gm s (k+1) a=Gm s k ((C1 s a.1).getD (0,0)):=by
 conv=>lhs;unfold Gm
 rw[if_pos h,if_neg (by simpa using h1),UC ho];rfl
theorem kA{s:Spc}{a:AD}(k:Nat)(h:Ac s.files a=true)(h1:a.2=1)(ho:(C1 s a.1).isSome=false):Gm s (k+1) a=a:=by
 conv=>lhs;unfold Gm
 rw[if_pos h,if_neg (by simpa using h1),jX ho]
section
theorem YE{s:Spc}(hs:SpcB s)(hv:SpcV s)(a:AD)
    (hrec:Ac s.files a=true→∀b,El s a=some b→AFn prog 195 [.agg (AW s), .agg (AB b)] (fun r=>r= .tup [.v (.string (EY s b).1), .v (.bool (EY s b).2)])):
    AFn prog 195 [.agg (AW s), .agg (AB a)] (fun r=>r= .tup [.v (.string (EY s a).1), .v (.bool (EY s a).2)]):=by
 have hnm:=U2 hv.files a;have hwz:=Y4 hv;refine enter Tryz.func195 rfl rfl rfl rfl rfl 0 rfl ?_;refine Lw (h:=a_ (h:=Fy (h:=l_ (h:=?_))));refine A3 rfl (A8 (L3 s.files a hs.files) ?_);rintro r rfl;refine EH (h:=?_);refine AJ false rfl rfl (fun hb1 hc1=>?_) (fun hb1 hc1=>?_)
 ·refine BY (h:=EM (h:=E3 (h:=w_ (EV (h:=?_)))));refine A6 ?_
  (rw[Pd hv (by simp_all)];rfl)
 refine l_ (h:=AO (h:=?_));refine As (A8 (P6 s a.1 hs) ?_);rintro r rfl;refine Ck (h:=CO (h:=?_));refine A4 rfl (fun hb2 hc2=>?_) (fun hb2 hc2=>?_)
 ·refine w_ (EV (h:=?_));refine A6 ?_
  (rw[Pd hv (by simp_all)];rfl)
 refine DU (h:=Bd (h:=?_));refine A4 rfl (fun hb3 hc3=>?_) (fun hb3 hc3=>?_)
 ·refine q_ (C4 (h:=AO (h:=?_)));refine A3 rfl (A8 (R4 s a.1 hs) ?_);rintro r rfl;refine Ee (h:=Bt (h:=e_ (?_)));refine A4 rfl (fun hb4 hc4=>?_) (fun hb4 hc4=>?_)
  ·have hst:El s a=some ((C1 s a.1).getD (0,0)):=by unfold El;rw[if_neg (by simpa using hc3)];exact UC hc4
   obtain⟨hw1,hw2⟩:=Y2 hv hc1 hc2 (fun e=>by rw[e,jE hv]at hc4;cases hc4) hst;rw[if_pos hc3]at hw1;refine CA (h:=?_);refine A3 rfl (A8 (hrec hc1 _ hst) ?_);rintro r rfl
   skip
   refine Ky (h:=EV (h:=BN (?_)));refine A6 ?_
   first|(rw[Pd hv (by simp_all)];rfl)|(rw[hw1];first|rfl|(rw[←hw2];rfl))
  have h00:a=(0,1):=by
   refine Prod.ext ?_ hc3;have:=hc2;unfold DN at this;rw[hc4,Bool.false_or]at this;exact of_decide_eq_true this
  refine AG (w_ (EV (h:=?_)));refine A6 ?_
  first|(rw[Pd hv (by simp_all)];rfl)|(rw[hw1];first|rfl|(rw[←hw2];rfl))|(rw[h00,jH hv (by rw[←h00];exact hc1)];rfl)
 have hst:El s a=some (a.1,(Ag s.files a).parent):=if_pos hc3;obtain⟨hw1,hw2⟩:=Y2 hv hc1 hc2 (fun e=>hc3 (by rw[e])) hst;rw[if_neg hc3]at hw1;refine FY (h:=l_ (h:=?_));refine A3 rfl (A8 (FJ s.files a hs.files) ?_);rintro r rfl;refine Ee (h:=BO (h:=C4 (h:=Eg (h:=Bk (h:=?_)))));refine A3 rfl (A8 (hrec hc1 _ hst) ?_);rintro r rfl
 skip
 refine Ge (h:=a_ (h:=Bt (h:=AO (h:=l_ (h:=?_)))));refine A3 rfl (A8 (jR s a hs) ?_);rintro r rfl;refine A3 rfl (A8 (Y6 (EY s (a.1,(Ag s.files a).parent)).1 (L8 s a) (by have:=hwz (a.1,(Ag s.files a).parent);omega) (by omega)) ?_);rintro r rfl;refine m_ (h:=a_ (h:=Az (h:=?_)));refine A6 ?_
 first|(rw[Pd hv (by simp_all)];rfl)|(rw[hw1];first|rfl|(rw[←hw2];rfl))
theorem kB{s:Spc}(hs:SpcB s)(hv:SpcV s)(a:AD):AFn prog 195 [.agg (AW s), .agg (AB a)] (fun r=>r= .tup [.v (.string (EY s a).1), .v (.bool (EY s a).2)]):=by
 have key:∀(k:Nat) (a:AD),ends s k a→AFn prog 195 [.agg (AW s), .agg (AB a)] (fun r=>r= .tup [.v (.string (EY s a).1), .v (.bool (EY s a).2)]):=by
  intro k
  induction k with
  |zero=>intro a h;exact YE hs hv a fun hd=>by rw[show Ac s.files a=false from h]at hd;cases hd
  |succ k ih=>intro a h;exact YE hs hv a fun hd b hb=>ih b (h.resolve_left (by rw[hd];simp) b hb)
 exact key _ a (Pc hv a)
theorem kC{s:Spc}(hs:SpcB s)(a:AD)(p:Nat)(hrec:(C1 s a.1).isSome=true→AFn prog 194 [.agg (AW s), .agg (AB ((C1 s a.1).getD (0,0)))] (fun r=>r= .agg (AB (Gm s p ((C1 s a.1).getD (0,0)))))):
    AFn prog 194 [.agg (AW s), .agg (AB a)] (fun r=>r= .agg (AB (Gm s (p+1) a))):=by
 have hde:=M1 s.files a;refine enter Tryz.func194 rfl rfl rfl rfl rfl 0 rfl ?_;refine FU (h:=e_ (Ay (h:=l_ (h:=?_))));refine A3 rfl (A8 (FJ s.files a hs.files) ?_);rintro r rfl;refine JJ (h:=EH (h:=?_));refine AJ false rfl rfl (fun hb1 hc1=>?_) (fun hb1 hc1=>?_)
 ·refine EM (h:=E3 (h:=JH (h:=e_ (B3 (BN (?_))))));refine A6 ?_;rw[YD p (by rw[hde,hc1];rfl)];rfl
 refine Ce (h:=CO (h:=?_));refine A4 rfl (fun hb2 hc2=>?_) (fun hb2 hc2=>?_)
 ·refine JH (h:=e_ (B3 (BN (?_))));refine A6 ?_;rw[YD p (by rw[hde,decide_eq_false hc2,Bool.and_false])];rfl
 refine DU (h:=Bl (h:=?_));refine A4 rfl (fun hb3 hc3=>?_) (fun hb3 hc3=>?_)
 ·refine Ay (h:=AO (h:=Hm (h:=e_ (B3 (BN (?_))))));refine A6 ?_;rw[jY p (by rw[hde,hc1,decide_eq_true hc2];rfl) hc3];rfl
 refine Eh (h:=C4 (h:=AO (h:=?_)));refine A3 rfl (A8 (R4 s a.1 hs) ?_);rintro r rfl;refine Ee (h:=Bt (h:=e_ (?_)));refine A4 rfl (fun hb4 hc4=>?_) (fun hb4 hc4=>?_)
 ·refine CA (h:=?_);refine A3 rfl (A8 (hrec hc4) ?_);rintro r rfl;refine Ei (h:=B3 (BN (?_)));refine A6 ?_;rw[jZ p (by rw[hde,hc1,decide_eq_true hc2];rfl) hc3 hc4];rfl
 refine AG (Di (h:=e_ (B3 (?_))));refine A6 ?_;rw[kA p (by rw[hde,hc1,decide_eq_true hc2];rfl) hc3 hc4];rfl
theorem kF{s:Spc}(hs:SpcB s)(hv:SpcV s):∀(p:Nat) (a:AD),Ms s a.1<p→AFn prog 194 [.agg (AW s), .agg (AB a)] (fun r=>r= .agg (AB (Gm s p a))):=by
 intro p
 induction p with
 |zero=>intro a h;omega
 |succ p ih=>intro a hp;exact kC hs a p fun ho=>ih _ (by have:=Xr hv (UC ho);omega)
end
end Go.Proofs.YtbgnigjfkbmceaaGreatDoor
namespace Go.Proofs.YtbgnigjfkbmceaaGreatDoor
structure Fnd where
 dir:AD
 name:AF
 file:AD
 ex:Bool
 slash:Bool
 path:AF
def GT:Fnd:=⟨(0,0),⟨#[]⟩,(0,0),false,false,⟨#[]⟩⟩
def Al(x:Fnd):List AV:=[.v (.int .i64 x.dir.1), .v (.int .i64 x.dir.2), .v (.string x.name), .v (.int .i64 x.file.1), .v (.int .i64 x.file.2), .v (.bool x.ex), .v (.bool x.slash), .v (.string x.path)]
def Fq(s:AF):List AF:=(DW s.data.toList).map fun l=>⟨l.toArray⟩
theorem YF(s:AF):CY (Fq s)=DW s.data.toList:=by
 unfold CY Fq;rw[List.map_map];have:((fun x:AF=>x.data.toList) ∘ fun l:Bs=>(⟨l.toArray⟩:AF))=id:=by funext l;simp
 rw[this,List.map_id]
theorem YG:∀{a b:List AF},CY a=CY b→a=b
 |[],[],_=>rfl
 |[],_::_,h=>by simp[CY]at h
 |_::_,[],h=>by simp[CY]at h
 |x::a,y::b,h=>by
   simp only[CY,List.map_cons,List.cons.injEq]at h;rw[Rf h.1,YG (a:=a) (b:=b) h.2]
theorem YH{s:AF}{ps:List AF}(h:CY ps=DW s.data.toList):ps=Fq s:=YG (h.trans (YF s).symm)
theorem UD(s:AF):(Fq s).length≤s.size+1:=by
 have h1:=YC (Fq s);have h2:=Tc s.data.toList;rw[←YF]at h2;rw[Lib.size_eq];omega
def J2(s:Spc):AD:=Fa s s.mounts.length (0,1)
structure Lk where
 ps:List AF
 dir:AD
 name:AF
 file:AD
 ex:Bool
 links:Nat
abbrev kG:AF:=⟨#[46]⟩
abbrev kH:AF:=⟨#[46,46]⟩
def DX(s:Spc)(fl:Bool)(p:AF)(ps:List AF)(a:AD)(lk:Nat):Int ⊕ Lk:=
 if Ac s.files a=false then .inl 20
 else if 12<p.size then .inl 36
 else if p=kG then .inr ⟨ps,a,⟨#[]⟩,a,true,lk⟩
 else if p=kH then .inr ⟨ps,Fa s s.mounts.length (Gm s (s.mounts.length+1) a),⟨#[]⟩,Fa s s.mounts.length (Gm s (s.mounts.length+1) a),true,lk⟩
 else if(AM s.files a p).2≠0 then(if ps≠[]∨Hs p=false then .inl 2 else .inr ⟨[],a,p,(0,0),false,lk⟩)
 else if(Ag s.files (AM s.files a p).1).kind=3∧(ps≠[]∨fl=true)then
  (if lk=8 then .inl 40 else
    .inr ⟨Fq (Ag s.files (AM s.files a p).1).target++ps,if J1 (Ag s.files (AM s.files a p).1).target=true then J2 s else a,⟨#[]⟩,if J1 (Ag s.files (AM s.files a p).1).target=true then J2 s else a,true,lk+1⟩)
 else .inr ⟨ps,a,p,Fa s s.mounts.length (AM s.files a p).1,true,lk⟩
def UE:Lk:=⟨[],(0,0),⟨#[]⟩,(0,0),false,0⟩
def L9(s:Spc)(fl:Bool):Nat→Lk→Int×Lk
 |0,σ=>(0,σ)
 |k+1,σ=>match σ.ps with
   |[]=>(0,σ)
   |p::ps=>match DX s fl p ps σ.file σ.links with
     | .inl e=>(e,UE)
     | .inr τ=>L9 s fl k τ
def Gp(σ:Lk):Nat:=(8 - σ.links) * 200+σ.ps.length
section
variable {s:Spc}(hv:FlsV s.files)
include hv
theorem UF{fl:Bool}{p:AF}{ps:List AF}{a:AD}{lk:Nat}{τ:Lk}(h8:lk≤8)(h:DX s fl p ps a lk= .inr τ):τ.links≤8∧Gp τ<(8 - lk) * 200+(ps.length+1):=by
 unfold DX at h;split at h
 ·cases h
 split at h
 ·cases h
 split at h
 ·injection h with h;subst h;exact⟨h8,by unfold Gp;simp only;omega⟩
 split at h
 ·injection h with h;subst h;exact⟨h8,by unfold Gp;simp only;omega⟩
 split at h
 ·split at h
  ·cases h
  injection h with h;subst h;exact⟨h8,by unfold Gp;simp only[List.length_nil];omega⟩
 split at h
 ·split at h
  ·cases h
  rename_i h9;injection h with h;subst h;have ht:=Tv hv (AM s.files a p).1;have hl:=UD (Ag s.files (AM s.files a p).1).target;refine⟨by simp only;omega,?_⟩;unfold Gp;simp only[List.length_append]
  have:(8 - lk) * 200=(8 - (lk+1)) * 200+200:=by
   rw[show 8 - lk=(8 - (lk+1))+1 by omega,Nat.add_mul]
  omega
 injection h with h;subst h;exact⟨h8,by unfold Gp;simp only;omega⟩
theorem kJ(fl:Bool):∀(k k':Nat) (σ:Lk),σ.links≤8→Gp σ≤k→Gp σ≤k'→L9 s fl k σ=L9 s fl k' σ:=by
 intro k
 induction k with
 |zero=>
   intro k' σ h8 h h'
   have he:σ.ps=[]:=by
    unfold Gp at h;exact Ff (by omega)
   cases k' with
   |zero=>rfl
   |succ k'=>unfold L9;rw[he]
 |succ k ih=>
   intro k' σ h8 h h'
   cases hps:σ.ps with
   |nil=>cases k'<;>(unfold L9;rw[hps])
   |cons p ps=>
     have hm:Gp σ=(8 - σ.links) * 200+(ps.length+1):=by unfold Gp;rw[hps];rfl
     cases k' with
     |zero=>rw[hm]at h';omega
     |succ k'=>
       unfold L9;rw[hps];simp only
       cases hs:DX s fl p ps σ.file σ.links with
       |inl e=>rfl
       |inr τ=>
         simp only;obtain⟨h1,h2⟩:=UF hv h8 hs;exact ih k' τ h1 (by omega) (by omega)
end
def GU(s:Spc)(fl:Bool)(σ:Lk):Int×Lk:=L9 s fl (Gp σ) σ
theorem YJ{s:Spc}{fl:Bool}{σ:Lk}(h:σ.ps=[]):GU s fl σ=(0,σ):=by
 unfold GU
 cases Gp σ with
 |zero=>rfl
 |succ k=>unfold L9;rw[h]
theorem kK{s:Spc}(hv:FlsV s.files){fl:Bool}{σ:Lk}{p:AF}{ps:List AF}(h8:σ.links≤8)(h:σ.ps=p::ps):GU s fl σ=match DX s fl p ps σ.file σ.links with
    | .inl e=>(e,UE)
    | .inr τ=>GU s fl τ:=by
 have hm:Gp σ=((8 - σ.links) * 200+ps.length)+1:=by unfold Gp;rw[h];rfl
 unfold GU;rw[hm]
 conv=>lhs;unfold L9
 rw[h];simp only
 cases hs:DX s fl p ps σ.file σ.links with
 |inl e=>rfl
 |inr τ=>
   simp only;obtain⟨h1,h2⟩:=UF hv h8 hs;exact kJ hv fl _ _ τ h1 (by omega) (B7 _)
def Mt(s:Spc)(sl:Bool)(τ:Lk):Fnd:=⟨τ.dir,τ.name,τ.file,τ.ex,sl,if(EY s τ.dir).2=true then(if τ.name=⟨#[]⟩then(EY s τ.dir).1 else Kj (EY s τ.dir).1 τ.name)else⟨#[]⟩⟩
def LA(ps:List AF)(a:AD):Lk:=⟨ps,a,⟨#[]⟩,a,true,0⟩
def C9(s:Spc)(start:AD)(p:AF)(fl:Bool):Fnd×Int:=
 if p=⟨#[]⟩then(GT,2)else if 128<p.size then(GT,36)
 else if Ac s.files (if J1 p=true then J2 s else start)=false then(GT,2)
 else if(GU s (fl||Bi p) (LA (Fq p) (if J1 p=true then J2 s else start))).1≠0 then(GT,(GU s (fl||Bi p) (LA (Fq p) (if J1 p=true then J2 s else start))).1)
 else if Bi p=true∧(GU s (fl||Bi p) (LA (Fq p) (if J1 p=true then J2 s else start))).2.ex=true∧Ac s.files (GU s (fl||Bi p) (LA (Fq p) (if J1 p=true then J2 s else start))).2.file=false then(GT,20)
 else(Mt s (Bi p) (GU s (fl||Bi p) (LA (Fq p) (if J1 p=true then J2 s else start))).2,0)
end Go.Proofs.YtbgnigjfkbmceaaGreatDoor
namespace Go.Proofs.YtbgnigjfkbmceaaGreatDoor
open Go.RowKit
structure Dsc where
 fd:Int
 file:AD
 flags:Int
structure Prc where
 pid:Int
 ppid:Int
 uid:Int
 euid:Int
 gid:Int
 egid:Int
 auid:Int
 ses:Int
 cwd:AD
 comm:AF
 exe:AF
 opens:List Dsc
 audited:Bool
structure Tab where
 next:Int
 nextS:Int
 ps:List Prc
structure Syst where
 spc:Spc
 tab:Tab
structure Cal where
 num:Int
 a0:Int
 a1:Int
 a2:Int
 a3:Int
 paths:List AF
 args:List AF
structure Res where
 exit:Int
 child:Int
 gone:Int
 items:List Itm
 changes:List Lx
structure Wrk where
 s:Syst
 p:Prc
 c:Cal
 found:List Fnd
 r:Res
def UG:Prc:=⟨0,0,0,0,0,0,0,0,(0,0),⟨#[]⟩,⟨#[]⟩,[],false⟩
def EB:Tab:=⟨0,0,[]⟩
def Gq:Res:=⟨0,0,0,[],[]⟩
def OQ(cwd:AD):Tab:=⟨2,1,[⟨1,0,0,0,0,0,4294967295,4294967295,cwd,⟨#[105,110,105,116]⟩,⟨#[47,105,110,105,116]⟩,[],true⟩]⟩
def OR(t:Tab)(pid:Int):Option Prc:=t.ps.find? fun p=>decide (p.pid=pid)
def CS(t:Tab)(pid:Int):Bool:=(OR t pid).isSome
def AP(t:Tab)(pid:Int):Prc:=(OR t pid).getD UG
def JS(t:Tab)(p:Prc):Tab:=⟨t.next,t.nextS,t.ps.map fun x=>if x.pid=p.pid then p else x⟩
def Gr(t:Tab)(pid:Int):Tab×Int×Int:=
 if CS t pid=false then(EB,0,3)else if 16≤(t.ps.length:Int)∨t.next=1073741824 then(EB,0,11)
 else(⟨t.next+1,t.nextS,t.ps++[{AP t pid with pid:=t.next,ppid:=pid}]⟩,t.next,0)
def Jl(pid:Int)(p:Prc):Prc:=if p.ppid=pid then{p with ppid:=1}else p
def Jm(t:Tab)(pid:Int):Tab×Int:=
 if CS t pid=false then(EB,3)else if pid=1 then(EB,1)
 else(⟨t.next,t.nextS,(t.ps.filter fun p=>decide (p.pid≠pid)).map (Jl pid)⟩,0)
def FP(priv:Bool)(real eff n:Int):Int×Int×Int:=if priv=true then(n,n,0)else if n=real∨n=eff then(real,n,0)else(0,0,1)
def Kk(n:Int):Bool:=decide (0≤n)&&decide (n<4294967295)
def Jn(t:Tab)(pid u:Int):Tab×Int:=
 if CS t pid=false then(EB,3)else if Kk u=false then(EB,22)
 else if(FP (decide ((AP t pid).euid=0)) (AP t pid).uid (AP t pid).euid u).2.2≠0 then(EB,(FP (decide ((AP t pid).euid=0)) (AP t pid).uid (AP t pid).euid u).2.2)
 else(JS t {AP t pid with uid:=(FP (decide ((AP t pid).euid=0)) (AP t pid).uid (AP t pid).euid u).1,euid:=(FP (decide ((AP t pid).euid=0)) (AP t pid).uid (AP t pid).euid u).2.1},0)
def Jo(t:Tab)(pid u:Int):Tab×Int:=
 if CS t pid=false then(EB,3)else if Kk u=false then(EB,22)
 else if(FP (decide ((AP t pid).euid=0)) (AP t pid).gid (AP t pid).egid u).2.2≠0 then(EB,(FP (decide ((AP t pid).euid=0)) (AP t pid).gid (AP t pid).egid u).2.2)
 else(JS t {AP t pid with gid:=(FP (decide ((AP t pid).euid=0)) (AP t pid).gid (AP t pid).egid u).1,egid:=(FP (decide ((AP t pid).euid=0)) (AP t pid).gid (AP t pid).egid u).2.1},0)
def GV(t:Tab)(pid auid:Int):Tab×Int:=
 if CS t pid=false then(EB,3)else if Kk auid=false then(EB,22)
 else if(AP t pid).auid≠4294967295∧(AP t pid).euid≠0 then(EB,1)else if t.nextS=1073741824 then(EB,11)
 else(⟨t.next,t.nextS+1,(JS t {AP t pid with auid:=auid,ses:=t.nextS}).ps⟩,0)
def G7:Nat→List Dsc→Nat
 |k,[]=>k
 |k,d::r=>if d.fd=(k:Int)then G7 (k+1) r else k
def OS(l:List Dsc)(fd:Nat)(x:Dsc):List Dsc:=l.take fd++x::l.drop fd
def GW(t:Tab)(pid:Int)(a:AD)(flags:Int):Tab×Int×Int:=
 if CS t pid=false then(EB,0,3)else if 8≤((AP t pid).opens.length:Int)then(EB,0,24)
 else(JS t {AP t pid with opens:=OS (AP t pid).opens (G7 0 (AP t pid).opens) ⟨(G7 0 (AP t pid).opens:Nat),a,flags⟩},(G7 0 (AP t pid).opens:Nat),0)
def Kl(t:Tab)(pid fd:Int):Tab×Int:=
 if CS t pid=false then(EB,3)else if(((AP t pid).opens.filter fun d=>decide (d.fd≠fd)).length:Int)=((AP t pid).opens.length:Int)then(EB,9)
 else(JS t {AP t pid with opens:=(AP t pid).opens.filter fun d=>decide (d.fd≠fd)},0)
def LC(t:Tab)(pid:Int)(dir:AD):Tab×Int:=if CS t pid=false then(EB,3)else(JS t {AP t pid with cwd:=dir},0)
def LD(t:Tab)(pid:Int)(exe comm:AF):Tab×Int:=if CS t pid=false then(EB,3)else(JS t {AP t pid with exe:=exe,comm:=comm},0)
def JT(t:Tab)(pid target:Int)(ends:Bool):Tab×Int:=
 if CS t pid=false then(EB,3)else if CS t target=false then(EB,3)
 else if target=1∨(AP t pid).euid≠0∧(AP t pid).euid≠(AP t target).uid then(EB,1)
 else if ends=true then Jm t target else(t,0)
def Fr:List (AF×Int×Int×Int×Int):=[(⟨#[102,111,114,107]⟩,0,0,0,0),
 (⟨#[101,120,101,99,118,101]⟩,0,1,0,4),
 (⟨#[101,120,105,116]⟩,1,0,0,0),
 (⟨#[115,101,116,117,105,100]⟩,1,0,0,0),
 (⟨#[115,101,116,103,105,100]⟩,1,0,0,0),
 (⟨#[108,111,103,105,110]⟩,1,0,0,0),
 (⟨#[111,112,101,110]⟩,2,1,0,0),
 (⟨#[99,108,111,115,101]⟩,1,0,0,0),
 (⟨#[108,105,110,107]⟩,0,2,0,0),
 (⟨#[115,121,109,108,105,110,107]⟩,0,1,1,1),
 (⟨#[117,110,108,105,110,107]⟩,0,1,0,0),
 (⟨#[109,107,100,105,114]⟩,1,1,0,0),
 (⟨#[114,109,100,105,114]⟩,0,1,0,0),
 (⟨#[114,101,110,97,109,101]⟩,0,2,0,0),
 (⟨#[99,104,109,111,100]⟩,1,1,0,0),
 (⟨#[99,104,111,119,110]⟩,2,1,0,0),
 (⟨#[99,104,100,105,114]⟩,0,1,0,0),
 (⟨#[109,111,117,110,116]⟩,1,1,0,0),
 (⟨#[117,109,111,117,110,116]⟩,1,0,0,0),
 (⟨#[99,111,110,110,101,99,116]⟩,1,0,1,1),
 (⟨#[107,105,108,108]⟩,2,0,0,0),
 (⟨#[116,114,117,110,99,97,116,101]⟩,1,1,0,0)]
def C3(n:Int):AF×Int×Int×Int×Int:=if n<0∨22≤n then(⟨#[]⟩,0,0,0,0)else(Fr[n.toNat]?).getD (⟨#[]⟩,0,0,0,0)
def OT(c:Cal):List Int:=[c.a0,c.a1,c.a2,c.a3]
def Bp(c:Cal):Int:=
 if(C3 c.num).1=⟨#[]⟩then 100 else if(((OT c).drop (C3 c.num).2.1.toNat).any fun x=>decide (x≠0))=true then 101
 else if(c.paths.length:Int)≠(C3 c.num).2.2.1∨(c.args.length:Int)<(C3 c.num).2.2.2.1∨(C3 c.num).2.2.2.2<(c.args.length:Int)then 101
 else if(c.paths.any fun p=>decide (128<p.size))=true then 102 else if(c.args.any fun p=>decide (64<p.size))=true then 102 else 0
def Hd(n:Nod)(euid egid:Int):Int:=
 if euid=n.uid then GZ .i64 (N9 .i64 n.mode 6) 7 else if egid=n.gid then GZ .i64 (N9 .i64 n.mode 3) 7 else GZ .i64 n.mode 7
def Gs(n:Nod)(euid egid want:Int):Bool:=
 if want<0∨7<want then false
 else if euid=0 then decide (GZ .i64 want 1=0)||decide (n.kind=2)||decide (GZ .i64 n.mode 73≠0)
 else decide (GZ .i64 (Hd n euid egid) want=want)
def CG(a f:Int):Bool:=decide (GZ .i64 a f≠0)
def DD(c:Cal):List Int:=
 if c.num=1 then[1]else if c.num=6 then[(if CG c.a0 1=true then 4 else 0)+(if CG c.a0 22=true then 2 else 0)]
 else if c.num=8 then[8,2]else if c.num=13 then[2,2]else if c.num=14∨c.num=15∨c.num=17 then[8]else if c.num=16 then[4]else[2]
def DY(c:Cal):Bool:=
 if c.num=6 then decide (GZ .i64 c.a0 32=0)else decide (c.num=1∨c.num=14∨c.num=15∨c.num=16∨c.num=17∨c.num=21)
def Pe(n:Int):Bool:=decide (0≤n)&&decide (n≤511)
def Km(c:Cal):AF:=c.args.headD ⟨#[]⟩
def DG(p:Prc)(c:Cal):Int:=
 if c.num=6 then(if c.a0<0∨63<c.a0∨GZ .i64 c.a0 3=0∨Pe c.a1=false then 22 else if 8≤(p.opens.length:Int)then 24 else 0)
 else if c.num=9 then(if Km c=⟨#[]⟩then 2 else if(Km c).data.toList.any (fun b=>decide (b=0))=true then 22 else 0)
 else if c.num=11∨c.num=14 then(if Pe c.a0=false then 22 else 0)
 else if c.num=15 then(if c.a0<0∨4294967295<c.a0∨c.a1<0∨4294967295<c.a1 then 22 else 0)
 else if c.num=17 then(if p.euid≠0 then 1 else 0)
 else if c.num=21 then(if c.a0<0 then 22 else 0)else 0
def Pg(s:Spc)(given:AF)(perm:Int)(f:Fnd):Itm:=
 ⟨given,f.path,f.dir,f.name,f.file,1,(Ag s.files f.file).kind,(Ag s.files f.file).mode,(Ag s.files f.file).uid,(Ag s.files f.file).gid,perm⟩
def Jp(given:AF)(perm:Int):Itm:=⟨given,⟨#[]⟩,(0,0),⟨#[]⟩,(0,0),1,0,0,0,0,perm⟩
def J3(s:Spc)(cwd:AD)(fl:Bool)(x:List Itm×List Fnd×Int)(g:AF×Int):List Itm×List Fnd×Int:=
 if x.2.2=0 then
  (if(C9 s cwd g.1 fl).2=0 then(x.1++[Pg s g.1 g.2 (C9 s cwd g.1 fl).1],x.2.1++[(C9 s cwd g.1 fl).1],0)else(x.1++[Jp g.1 g.2],x.2.1++[(C9 s cwd g.1 fl).1],(C9 s cwd g.1 fl).2))
 else(x.1++[Jp g.1 g.2],x.2.1++[GT],x.2.2)
def Ld(s:Spc)(cwd:AD)(fl:Bool)(l:List (AF×Int))(e:Int):List Itm×List Fnd×Int:=l.foldl (J3 s cwd fl) ([],[],e)
def B0(w:Wrk)(i:Nat):Fnd:=(w.found[i]?).getD GT
def CH(w:Wrk)(a:AD)(want:Int):Bool:=Gs (Ag w.s.spc.files a) w.p.euid w.p.egid want
def Kn(w:Wrk)(i:Nat):Bool:=Ac w.s.spc.files (B0 w i).file
def Jq(w:Wrk)(a:AD):Bool:=(Dm w.s.spc a).isSome||w.s.tab.ps.any fun p=>decide (p.cwd=a)
def BZ(w:Wrk)(R:FH):Wrk×Int:=if R.2.2=0 then({w with s:=⟨⟨R.1,w.s.spc.mounts⟩,w.s.tab⟩,r:={w.r with changes:=R.2.1}},0)else(w,R.2.2)
def CJ(w:Wrk)(R:Tab×Int):Wrk×Int:=if R.2=0 then({w with s:=⟨w.s.spc,R.1⟩},0)else(w,R.2)
def YK(n:Nod)(a:AD)(x:Itm):Itm:={x with role:=2,file:=a,kind:=n.kind,mode:=n.mode,uid:=n.uid,gid:=n.gid}
def Ko(w:Wrk)(i:Nat)(a:AD):Wrk:={w with r:={w.r with items:=w.r.items.modify i (YK (Ag w.s.spc.files a) a)}}
def kL:Lx:=((0,0),⟨#[]⟩,(0,0),(0,0))
def YL(l:List Lx):AD:=(l.headD kL).2.2.2
def Ph(w:Wrk)(n:Nod):Nod:={n with uid:=w.p.euid,gid:=w.p.egid}
def Fs(w:Wrk)(i:Nat)(n:Nod):FH:=FN w.s.spc.files (B0 w i).dir (B0 w i).name (Ph w n)
def D4(w:Wrk)(i:Nat)(n:Nod):Wrk×Int:=
 if(Fs w i n).2.2=0 then(Ko (BZ w (Fs w i n)).1 i (YL (Fs w i n).2.1),0)else(w,(Fs w i n).2.2)
def Jr(w:Wrk)(i:Nat)(role:Int):Wrk:={w with r:={w.r with items:=w.r.items.modify i fun x=>{x with role:=role}}}
def Rh(w:Wrk)(n:Int):Wrk:={w with r:={w.r with exit:=n}}
def Kq(mode:Int):Nod:=⟨0,1,mode,0,0,0,⟨#[]⟩,[]⟩
def LE(w:Wrk)(a:AD):Wrk×Int:=CJ (Rh w (GW w.s.tab w.p.pid a w.c.a0).2.1) ((GW w.s.tab w.p.pid a w.c.a0).1,(GW w.s.tab w.p.pid a w.c.a0).2.2)
def MC(a:Int):Int:=(if CG a 1=true then 4 else 0)+(if CG a 18=true then 2 else 0)
def Cp(w:Wrk):Wrk×Int:=
 if(B0 w 0).ex=true then
  (if CG w.c.a0 4=true∧CG w.c.a0 8=true then(w,17)
  else if(Ag w.s.spc.files (B0 w 0).file).kind=3 then(w,40)
  else if(Ag w.s.spc.files (B0 w 0).file).kind=2∧CG w.c.a0 22=true then(w,21)
  else if CH w (B0 w 0).file (MC w.c.a0)=false then(w,13)
  else LE w (B0 w 0).file)
 else
  (if CG w.c.a0 4=false then(w,2)else if(B0 w 0).slash=true then(w,21)else if CH w (B0 w 0).dir 2=false then(w,13)
  else if(D4 w 0 (Kq w.c.a1)).2≠0 then D4 w 0 (Kq w.c.a1)
  else LE (D4 w 0 (Kq w.c.a1)).1 (YL (D4 w 0 (Kq w.c.a1)).1.r.changes))
def G8(w:Wrk):Wrk×Int:=
 if(B0 w 0).ex=false then(w,2)else if Kn w 0=true then(w,1)else if(B0 w 1).ex=true then(w,17)else if(B0 w 1).slash=true then(w,2)
 else if(B0 w 0).file.1≠(B0 w 1).dir.1 then(w,18)else if CH w (B0 w 1).dir 2=false then(w,13)
 else if(Ex w.s.spc.files (B0 w 1).dir (B0 w 1).name (B0 w 0).file).2.2≠0 then(w,(Ex w.s.spc.files (B0 w 1).dir (B0 w 1).name (B0 w 0).file).2.2)
 else(Ko (BZ w (Ex w.s.spc.files (B0 w 1).dir (B0 w 1).name (B0 w 0).file)).1 1 (B0 w 0).file,0)
def KG(w:Wrk)(R:FH):Wrk×Int:=if R.2.2≠0 then(w,R.2.2)else(Jr (BZ w R).1 0 3,0)
def Ey(w:Wrk):Wrk×Int:=
 if(B0 w 0).ex=false then(w,2)
 else if w.c.num=10 then
  (if(B0 w 0).name=⟨#[]⟩∨Kn w 0=true then(w,21)else if CH w (B0 w 0).dir 2=false then(w,13)
  else KG w (Hy w.s.spc.files (B0 w 0).dir (B0 w 0).name))
 else
  (if(B0 w 0).name=⟨#[]⟩then(w,16)else if Kn w 0=false then(w,20)
  else if Jq w (AM w.s.spc.files (B0 w 0).dir (B0 w 0).name).1=true then(w,16)else if CH w (B0 w 0).dir 2=false then(w,13)
  else KG w (Gk w.s.spc.files (B0 w 0).dir (B0 w 0).name))
def Le(w:Wrk)(R:FH)(x:AD):Wrk×Int:=
 if R.2.2≠0 then(w,R.2.2)else if 0<(R.2.1.length:Int)then(Ko (Jr (BZ w R).1 0 3) 1 x,0)else((BZ w R).1,0)
def G9(w:Wrk):Wrk×Int:=
 if(B0 w 0).ex=false then(w,2)else if(B0 w 0).name=⟨#[]⟩∨(B0 w 1).name=⟨#[]⟩then(w,16)
 else if(B0 w 1).slash=true∧Kn w 0=false then(w,20)else if(B0 w 0).dir.1≠(B0 w 1).dir.1 then(w,18)
 else if CH w (B0 w 0).dir 2=false∨CH w (B0 w 1).dir 2=false then(w,13)
 else if(AM w.s.spc.files (B0 w 1).dir (B0 w 1).name).2=0∧(AM w.s.spc.files (B0 w 1).dir (B0 w 1).name).1≠(AM w.s.spc.files (B0 w 0).dir (B0 w 0).name).1∧Ac w.s.spc.files (AM w.s.spc.files (B0 w 1).dir (B0 w 1).name).1=true∧Jq w (AM w.s.spc.files (B0 w 1).dir (B0 w 1).name).1=true then(w,16)
 else Le w (G6 w.s.spc.files (B0 w 0).dir (B0 w 0).name (B0 w 1).dir (B0 w 1).name) (AM w.s.spc.files (B0 w 0).dir (B0 w 0).name).1
def Lf(w:Wrk)(R:AU×Int):Wrk×Int:=BZ w (R.1,[],R.2)
def GX(w:Wrk):Wrk×Int:=
 if(B0 w 0).ex=false then(w,2)
 else if w.c.num=14 then
  (if w.p.euid≠0∧w.p.euid≠(Ag w.s.spc.files (B0 w 0).file).uid then(w,1)
  else Lf w (G5 w.s.spc.files (B0 w 0).file w.c.a0 (Ag w.s.spc.files (B0 w 0).file).uid (Ag w.s.spc.files (B0 w 0).file).gid))
 else if w.p.euid≠0 then(w,1)else Lf w (G5 w.s.spc.files (B0 w 0).file (Ag w.s.spc.files (B0 w 0).file).mode w.c.a0 w.c.a1)
def Lg(w:Wrk)(R:Spc×Int):Wrk×Int:=if R.2=0 then({w with s:=⟨R.1,w.s.tab⟩},0)else(w,R.2)
def Dz(w:Wrk):Wrk×Int:=
 if(B0 w 0).ex=false then(w,2)
 else if w.c.num=1 then(if Kn w 0=true∨CH w (B0 w 0).file 1=false then(w,13)else CJ w (LD w.s.tab w.p.pid (B0 w 0).path (B0 w 0).name))
 else if w.c.num=16 then(if Kn w 0=false then(w,20)else if CH w (B0 w 0).file 1=false then(w,13)else CJ w (LC w.s.tab w.p.pid (B0 w 0).file))
 else if w.c.num=17 then(if Kn w 0=false then(w,20)else Lg w (ER w.s.spc w.c.a0 (B0 w 0).file))
 else if Kn w 0=true then(w,21)else if CH w (B0 w 0).file 2=false then(w,13)else(w,0)
def OU(t:AF):Nod:=⟨0,3,511,0,0,0,t,[]⟩
def Pi(mode:Int):Nod:=⟨0,2,mode,0,0,0,⟨#[]⟩,[]⟩
def GY(w:Wrk):Wrk×Int:=
 if(B0 w 0).ex=true then(w,17)else if(B0 w 0).slash=true∧w.c.num=9 then(w,2)else if CH w (B0 w 0).dir 2=false then(w,13)
 else if w.c.num=9 then D4 w 0 (OU (Km w.c))else D4 w 0 (Pi w.c.a0)
def OV(t:Tab)(dev:Int):Bool:=t.ps.any fun p=>decide (p.cwd.1=dev)||p.opens.any fun d=>decide (d.file.1=dev)
def Lh(w:Wrk)(R:Spc×Int):Wrk×Int:=if R.2=0 then({w with s:=⟨R.1,w.s.tab⟩,r:={w.r with gone:=w.c.a0}},0)else(w,R.2)
def He(w:Wrk):Wrk×Int:=
 if w.p.euid≠0 then(w,1)else if w.c.a0=0∨DN w.s.spc w.c.a0=false then(w,22)else if OV w.s.tab w.c.a0=true then(w,16)
 else Lh w (Hz w.s.spc w.c.a0)
def OW(w:Wrk)(n:Int):Wrk:={w with r:={w.r with exit:=n,child:=n}}
def FQ(w:Wrk):Wrk×Int:=
 if w.c.num=0 then CJ (OW w (Gr w.s.tab w.p.pid).2.1) ((Gr w.s.tab w.p.pid).1,(Gr w.s.tab w.p.pid).2.2)
 else if w.c.num=2 then CJ w (Jm w.s.tab w.p.pid)
 else if w.c.num=3 then CJ w (Jn w.s.tab w.p.pid w.c.a0)
 else if w.c.num=4 then CJ w (Jo w.s.tab w.p.pid w.c.a0)
 else if w.c.num=5 then CJ w (GV w.s.tab w.p.pid w.c.a0)
 else if w.c.num=7 then CJ w (Kl w.s.tab w.p.pid w.c.a0)
 else if w.c.num=18 then He w
 else if w.c.num=19 then(if w.c.a0<0∨65535<w.c.a0∨Km w.c=⟨#[]⟩then(w,22)else if w.c.a0=0 then(w,111)else(w,0))
 else if w.c.a1<0∨64<w.c.a1 then(w,22)else CJ w (JT w.s.tab w.p.pid w.c.a0 (decide (w.c.a1≠0)))
def BT(w:Wrk):Wrk×Int:=
 if w.c.num=6 then Cp w else if w.c.num=8 then G8 w else if w.c.num=10∨w.c.num=12 then Ey w else if w.c.num=13 then G9 w
 else if w.c.num=14∨w.c.num=15 then GX w else if w.c.num=1∨w.c.num=16∨w.c.num=17∨w.c.num=21 then Dz w
 else if w.c.num=9∨w.c.num=11 then GY w else FQ w
def Gt(s:Syst)(p:Prc)(c:Cal):List Itm×List Fnd×Int:=Ld s.spc p.cwd (DY c) (c.paths.zip (DD c)) (DG p c)
def KH(s:Syst)(pid:Int)(c:Cal):Wrk:=⟨s,AP s.tab pid,c,(Gt s (AP s.tab pid) c).2.1,{Gq with items:=(Gt s (AP s.tab pid) c).1}⟩
def KJ(n:Int):Syst×Int:=if(GO n).2≠0 then(⟨⟨[],[]⟩,EB⟩,(GO n).2)else(⟨⟨(GO n).1,[]⟩,OQ (0,1)⟩,0)
def Gu(d:Dsc):List AV:=[.v (.int .i64 d.fd), .v (.int .i64 d.file.1), .v (.int .i64 d.file.2), .v (.int .i64 d.flags)]
def Av(p:Prc):List AV:=[.v (.int .i64 p.pid), .v (.int .i64 p.ppid), .v (.int .i64 p.uid), .v (.int .i64 p.euid), .v (.int .i64 p.gid), .v (.int .i64 p.egid), .v (.int .i64 p.auid), .v (.int .i64 p.ses), .v (.int .i64 p.cwd.1), .v (.int .i64 p.cwd.2), .v (.string p.comm), .v (.string p.exe), .sl 4 (p.opens.map Gu) none, .v (.bool p.audited)]
def Ao(t:Tab):List AV:=[.v (.int .i64 t.next), .v (.int .i64 t.nextS), .sl 14 (t.ps.map Av) none]
def CW(s:Syst):List AV:=[.sl 2 (s.spc.files.map Cg) none, .sl 3 (s.spc.mounts.map Gg) none, .v (.int .i64 s.tab.next), .v (.int .i64 s.tab.nextS), .sl 14 (s.tab.ps.map Av) none]
def DH(s:AF):List AV:=[.v (.string s)]
def Fe(c:Cal):List AV:=[.v (.int .i64 c.num), .v (.int .i64 c.a0), .v (.int .i64 c.a1), .v (.int .i64 c.a2), .v (.int .i64 c.a3), .sl 1 (c.paths.map DH) none, .sl 1 (c.args.map DH) none]
def CZ(y:Itm):List AV:=[.v (.string y.given), .v (.string y.path), .v (.int .i64 y.dir.1), .v (.int .i64 y.dir.2), .v (.string y.name), .v (.int .i64 y.file.1), .v (.int .i64 y.file.2), .v (.int .i64 y.role), .v (.int .i64 y.kind), .v (.int .i64 y.mode), .v (.int .i64 y.uid), .v (.int .i64 y.gid), .v (.int .i64 y.perm)]
def Kr(r:Res):List AV:=[.v (.int .i64 r.exit), .v (.int .i64 r.child), .v (.int .i64 r.gone), .sl 13 (r.items.map CZ) none, .sl 7 (r.changes.map Ek) none]
def Df(w:Wrk)(fnd its:AV):List AV:=
 [.sl 2 (w.s.spc.files.map Cg) none, .sl 3 (w.s.spc.mounts.map Gg) none, .v (.int .i64 w.s.tab.next), .v (.int .i64 w.s.tab.nextS), .sl 14 (w.s.tab.ps.map Av) none,
 .v (.int .i64 w.p.pid), .v (.int .i64 w.p.ppid), .v (.int .i64 w.p.uid), .v (.int .i64 w.p.euid), .v (.int .i64 w.p.gid), .v (.int .i64 w.p.egid), .v (.int .i64 w.p.auid), .v (.int .i64 w.p.ses), .v (.int .i64 w.p.cwd.1), .v (.int .i64 w.p.cwd.2), .v (.string w.p.comm), .v (.string w.p.exe), .sl 4 (w.p.opens.map Gu) none, .v (.bool w.p.audited),
 .v (.int .i64 w.c.num), .v (.int .i64 w.c.a0), .v (.int .i64 w.c.a1), .v (.int .i64 w.c.a2), .v (.int .i64 w.c.a3), .sl 1 (w.c.paths.map DH) none, .sl 1 (w.c.args.map DH) none,fnd,
 .v (.int .i64 w.r.exit), .v (.int .i64 w.r.child), .v (.int .i64 w.r.gone),its, .sl 7 (w.r.changes.map Ek) none]
structure TabB(t:Tab):Prop where
 few:t.ps.length≤16
 opens:∀p∈t.ps,p.opens.length≤8
 next:t.next≤1073741824
 nextS:t.nextS≤1073741824
structure RowF(sz:Nat){α:Type}(F:α→List AV):Prop where
 len:∀x,(F x).length=sz
 flat:∀x,∀y∈F x,(∃v,y= .v v)∨∃s r,y= .sl s r none
 pos:0<sz
def LB(sz:Nat){α:Type}(F:α→List AV)(l:List α)(cap:Nat):List AV:=Cc sz cap (l.map F)
section
variable {α:Type}{sz:Nat}{F:α→List AV}(hF:RowF sz F)
include hF
theorem Nf(l:List α):∀r∈l.map F,r.length=sz:=by
 intro r hr;obtain⟨x,_,rfl⟩:=List.mem_map.1 hr;exact hF.len x
theorem Ri{l:List α}{cap:Nat}(h:l.length≤cap):(LB sz F l cap).length=cap * sz:=T8 (Nf hF l) (by simpa using h)
theorem kM{g:AV→AV}(hv:∀x,g (.v x)= .v x)(hs:∀sz rows,g (.sl sz rows none)= .sl sz rows none)(x:α):(F x).map g=F x:=by
 conv=>rhs;rw[←List.map_id (F x)]
 apply List.map_congr_left;intro y hy;rcases hF.flat x y hy with⟨v,rfl⟩|⟨s,r,rfl⟩
 ·exact hv v
 exact hs s r
theorem UH{g:AV→AV}(hany:g .any= .any)(hv:∀x,g (.v x)= .v x)(hs:∀sz rows,g (.sl sz rows none)= .sl sz rows none)(l:List α)(cap:Nat):(LB sz F l cap).map g=LB sz F l cap:=by
 unfold LB;rw[PG g hany,List.map_map]
 congr 1
 apply List.map_congr_left;intro x _;exact kM hF hv hs x
theorem Dg(g:Nat→Option Nat)(l:List α)(cap:Nat):E9 g (LB sz F l cap)=LB sz F l cap:=by
 rw[PD];exact UH hF rfl (fun _=>rfl) (fun _ _=>rfl) l cap
theorem MD(g:Nat→Option Nat)(l:List α)(cap:Nat):JZ g (LB sz F l cap)=LB sz F l cap:=by
 rw[RE];exact UH hF rfl (fun _=>rfl) (fun _ _=>rfl) l cap
theorem kN(g:Nat→Option (List AV))(l:List α)(cap:Nat):KY g (LB sz F l cap)=LB sz F l cap:=by
 rw[PF];exact UH hF rfl (fun _=>rfl) (fun _ _=>rfl) l cap
theorem kO{n m:Nat}(x:α):AT n m (F x)=true:=by
 refine TN.2 fun y hy=>?_;rcases hF.flat x y hy with⟨v,rfl⟩|⟨s,r,rfl⟩<;>rfl
theorem Bq{n m:Nat}{l:List α}{cap:Nat}:AT n m (LB sz F l cap)=true:=by
 refine TO fun r hr=>?_;obtain⟨x,_,rfl⟩:=List.mem_map.1 hr;exact kO hF x
theorem kP{n:Nat}{bx:List (List AV)}{k j:Nat}{l:List α}{cap:Nat}(hn:n≤j)(hj:bx[j]?=some (LB sz F l cap)):Eb n bx (k+1) j=some (LB sz F l cap):=by
 have:Nat.blt j n=false:=by rw[←Bool.not_eq_true,Nat.blt_eq];omega
 simp only[Eb,this,hj,Option.map_some,kN hF]
theorem OX{n:Nat}{bx:List (List AV)}{k j:Nat}{l:List α}{cap cap0:Nat}(hn:Nat.ble n j=true)(hj:bx[j]?=some (LB sz F l cap))(hc:l.length≤cap):H4 n (Eb n bx (k+1)) (.bs j 0 sz l.length cap0)= .sl sz (l.map F) none:=
 Xe (BV hn) (kP hF (BV hn) hj) (Nf hF l) (by simp) (by simpa using hc)
theorem kQ{l:List α}{cap i k:Nat}{x:α}{y:AV}(h:l[i]?=some x)(hx:(F x)[k]?=some y):(LB sz F l cap)[0+i * sz+k]?=some y:=PJ (Nf hF l) (by rw[List.getElem?_map,h];rfl) hx
theorem ME{l:List α}{cap i k:Nat}{x x':α}{cs:List AV}(h:l[i]?=some x)(hs:SetAt (F x) k cs (F x'))(hne:cs≠[]):SetAt (LB sz F l cap) (0+i * sz+k) cs (LB sz F (l.set i x') cap):=by
 have key:=TR (cap:=cap) (Nf hF l) (by rw[List.getElem?_map,h];rfl) hs hne;rw[←List.map_set]at key;exact key
theorem YM{l:List α}{cap i:Nat}{x x':α}(h:l[i]?=some x):SetAt (LB sz F l cap) (0+i * sz) (F x') (LB sz F (l.set i x') cap):=by
 have hne:F x'≠[]:=fun e=>by have h1:=hF.len x';have h2:=hF.pos;rw[e]at h1;simp at h1;omega
 have hs:SetAt (F x) 0 (F x') (F x'):=by
  have:=SetAt.whole (xs:=F x') (l:=F x) (b:=[]) (by rw[hF.len,hF.len])
  simpa using this
 have key:=ME hF (cap:=cap) h hs hne
 simpa using key
theorem YN(x:α)(cap:Nat):F x++List.replicate ((cap - 1) * sz) .any=LB sz F [x] cap:=by
 have _:=hF;unfold LB Cc;simp
theorem UJ(acc:List α)(x:α)(cap0 cap:Nat):((LB sz F acc cap0).drop 0).take (acc.length * sz)++F x++List.replicate ((cap - (acc.length+1)) * sz) .any=LB sz F (acc++[x]) cap:=by
 unfold LB;rw[Wh (Nf hF acc) (by simp),List.map_append];rfl
theorem UK{acc:List α}{x:α}{cap:Nat}{row:List AV}(hs:SetAt (LB sz F acc cap) (0+acc.length * sz) (F x) row)(hc:acc.length+1≤cap):row=LB sz F (acc++[x]) cap:=by
 have key:=Wg (rows:=acc.map F) (sz:=sz) (cap:=cap) (r:=F x) (row':=row) (Nf hF acc) (hF.len x) hF.pos (by simpa using hc) (by rw[List.length_map];exact hs);rw[key];unfold LB;rw[List.map_append];rfl
end
theorem Em:RowF 14 Av:=⟨fun _=>rfl,fun x y h=>by simp[Av]at h;rcases h with h|h|h|h|h|h|h|h|h|h|h|h|h|h<;>first|exact .inl ⟨_,h⟩|exact .inr ⟨_,_,h⟩,by decide⟩
theorem B5:RowF 13 CZ:=⟨fun _=>rfl,fun x y h=>by simp[CZ]at h;rcases h with h|h|h|h|h|h|h|h|h|h|h|h|h<;>exact .inl ⟨_,h⟩,by decide⟩
theorem CM{f:Nat→Option AV}{bx:List (List AV)}{tk:List (Nat×Nat×List (List AV))}{l:List (Nat×AV)}{N:Dim}(n m:Nat){bx':List (List AV)}{tk':List (Nat×Nat×List (List AV))}(hbp:AY n m bx'=true)(hn:Nat.ble N.ni n=true:=by rfl)(hb:bx.take n=bx':=by rfl)(ht:tk.take m=tk':=by rfl)(hl:Sub n m f l:=by repeat (first|exact Sub.nil|refine Sub.cons _ _ _ rfl rfl ?_|refine Sub.any _ _ ?_|refine Sub.sl _ _ _ _ _ rfl ?_|refine Sub.slnil _ _ _ rfl ?_|(apply Sub.of;(focus exact rfl);(focus exact LeA.of_eq (vb (by simp[*])));(focus exact rfl)))):Weak N ⟨f,⟨bx,tk⟩⟩ ⟨look l,⟨bx',tk'⟩⟩:=Ah n m hn hb ht hbp hl
def E0(bx:List (List AV))(g:Nat→Option Nat):List Nat→List (List AV)→List (List AV)
 |[],bc=>bx++bc.map (E9 g)
 |i::is,[]=>E0 bx g is []
 |i::is,r::bc=>E0 (bx.set i (E9 g r)) g is bc
theorem YO{g:Nat→Option Nat}:∀(is:List Nat) (bx bc:List (List AV)),is.length≤bc.length→(E0 bx g is bc).length=bx.length+(bc.length - is.length)
 |[],bx,bc,_=>by simp[E0]
 |i::is,bx,[],h=>by simp at h
 |i::is,bx,r::bc,h=>by
   unfold E0;rw[YO is _ bc (by simpa using h)];simp
theorem Rj{g:Nat→Option Nat}:∀(is:List Nat) (bx bc:List (List AV)) (i:Nat),i∉is→i<bx.length→(E0 bx g is bc)[i]?=bx[i]?
 |[],bx,bc,i,_,hi=>by unfold E0;rw[DJ hi]
 |j::is,bx,[],i,h,hi=>by
   unfold E0;exact Rj is bx [] i (fun hm=>h (List.mem_cons_of_mem _ hm)) hi
 |j::is,bx,r::bc,i,h,hi=>by
   unfold E0;rw[Rj is _ bc i (fun hm=>h (List.mem_cons_of_mem _ hm)) (by simpa using hi),List.getElem?_set_ne (fun e=>h (by rw[e];exact List.mem_cons_self ..))]
theorem YP{g:Nat→Option Nat}:∀(is:List Nat) (bx bc:List (List AV)) (k i:Nat) (row:List AV),is.Nodup→i<bx.length→is[k]?=some i→bc[k]?=some row→(E0 bx g is bc)[i]?=some (E9 g row)
 |[],_,_,_,_,_,_,_,h,_=>by simp at h
 |j::is,bx,[],k,i,row,_,_,_,h=>by simp at h
 |j::is,bx,r::bc,0,i,row,hn,hi,h1,h2=>by
   simp at h1 h2;subst h1 h2;unfold E0;rw[Rj is _ bc j (List.nodup_cons.1 hn).1 (by simpa using hi),List.getElem?_set_self hi]
 |j::is,bx,r::bc,k+1,i,row,hn,hi,h1,h2=>by
   unfold E0;exact YP is _ bc k i row (List.nodup_cons.1 hn).2 (by simpa using hi) (by simpa using h1) (by simpa using h2)
theorem YQ{g:Nat→Option Nat}:∀(is:List Nat) (bx bc:List (List AV)) (k:Nat) (row:List AV),bc[is.length+k]?=some row→(E0 bx g is bc)[bx.length+k]?=some (E9 g row)
 |[],bx,bc,k,row,h=>by
   unfold E0;rw[F1 (by omega),show bx.length+k - bx.length=k by omega,List.getElem?_map];simp at h;rw[h];rfl
 |j::is,bx,[],k,row,h=>by simp at h
 |j::is,bx,r::bc,k,row,h=>by
   unfold E0;have:=YQ (g:=g) is (bx.set j (E9 g r)) bc k row (by simpa[Nat.add_right_comm]using h)
   simpa using this
theorem Pj{bx:List (List AV)}{is:List Nat}{bc:List (List AV)}(hn:is.Nodup)(hi:∀i∈is,i<bx.length)(hl:is.length≤bc.length):Back bx is bc (E0 bx (Er is bx.length) is bc):=by
 refine⟨YO is bx bc hl,fun i row h1 h2=>?_,fun k i row h1 h2=>?_,fun k row h=>YQ is bx bc k row h⟩
 ·rw[Rj is bx bc i h1 (Af.1 h2).1];exact h2
 exact YP is bx bc k i row hn (hi i (Am h1)) h1 h2
def DZ:List AV:=[.v (.int .i64 0), .v (.int .i64 0), .v (.slice none 0 0)]
def Da(t:Tab)(x:AV):List AV:=[.v (.int .i64 t.next), .v (.int .i64 t.nextS),x]
def Ez(f:Prc→Prc)(l:List Prc)(j:Nat):List Prc:=(l.take j).map f++l.drop j
def Js(p x:Prc):Prc:=if x.pid=p.pid then p else x
theorem Mu(f:Prc→Prc)(l:List Prc)(j:Nat):(Ez f l j).length=l.length:=by
 unfold Ez;simp;omega
theorem UL{f:Prc→Prc}{l:List Prc}{j:Nat}{x:Prc}(h:l[j]?=some x):(Ez f l j)[j]?=some x:=by
 have hl:=(Af.1 h).1;unfold Ez;rw[F1 (by simp;omega)];simp only[List.length_map,List.length_take,List.getElem?_drop];rw[show j+(j - min j l.length)=j by omega];exact h
theorem YR{f:Prc→Prc}{l:List Prc}{j:Nat}{x:Prc}(h:l[j]?=some x):(Ez f l j).set j (f x)=Ez f l (j+1):=by
 obtain⟨hl,e⟩:=Af.1 h;unfold Ez;rw[List.take_add_one,h,List.drop_eq_getElem_cons hl,List.set_append_right _ _ (by simp;omega)];simp only[List.length_map,List.length_take,List.map_append,List.append_assoc];rw[show j - min j l.length=0 by omega];rfl
theorem kT{f:Prc→Prc}{l:List Prc}{j:Nat}{x:Prc}(h:l[j]?=some x)(hf:f x=x):Ez f l j=Ez f l (j+1):=by
 rw[←YR h,hf];have h2:=UL (f:=f) h;obtain⟨h3,h4⟩:=Af.1 h2;rw[←h4,List.set_getElem_self]
theorem kU(f:Prc→Prc)(l:List Prc):Ez f l l.length=l.map f:=by
 unfold Ez;simp
theorem YS{t:Tab}{pid:Int}{p:Prc}(h:OR t pid=some p):p∈t.ps:=List.mem_of_find?_eq_some h
theorem Jt{t:Tab}(ht:TabB t)(pid:Int):(AP t pid).opens.length≤8:=by
 unfold AP
 cases h:OR t pid with
 |none=>exact BE _
 |some p=>exact ht.opens p (YS h)
theorem Mv{t:Tab}{pid:Int}(h:CS t pid=true):0<t.ps.length:=by
 unfold CS at h;obtain⟨p,hp⟩:=Option.isSome_iff_exists.1 h;exact List.length_pos_of_mem (YS hp)
theorem YT{bx:List (List AV)}{n:Nat}(hn:bx.length=n)(t:Tab)(cap:Nat):Back bx [] [Ao t,Da t (.bs 3 0 14 t.ps.length cap),Da t (.bs 3 0 14 t.ps.length cap),LB 14 Av t.ps cap] (bx++[Ao t,Da t (.bs (n+3) 0 14 t.ps.length cap),Da t (.bs (n+3) 0 14 t.ps.length cap),LB 14 Av t.ps cap]):=by
 subst hn;have:=Pj (bx:=bx) (is:=[]) (bc:=[Ao t,Da t (.bs 3 0 14 t.ps.length cap),Da t (.bs 3 0 14 t.ps.length cap),LB 14 Av t.ps cap]) List.nodup_nil (by simp) (by simp);have e1:E9 (Er [] bx.length) (Ao t)=Ao t:=rfl;have e2:E9 (Er [] bx.length) (Da t (.bs 3 0 14 t.ps.length cap))=Da t (.bs (bx.length+3) 0 14 t.ps.length cap):=by simp[E9,Da,H3,Er]
 simpa[E0,Dg Em,e1,e2]using this
section
theorem Pk(p:Prc)(hp:p.opens.length≤1000):AFn prog 137 [.agg (Av p)] (fun r=>r= .agg (Av p)):=by
 refine enter Tryz.func137 rfl rfl rfl rfl rfl 0 rfl ?_;refine E5 (h:=e_ (Ay (h:=?_)))
 first|refine A3 rfl (EF rfl rfl rfl (by simp;omega) (by repeat constructor) ?_)|refine A3 rfl (JC rfl rfl (by simp;omega) (by repeat constructor) ?_)
 refine DF (h:=Di (h:=e_ (B3 (?_))));refine A6 ?_;rfl
theorem YU(t:Tab)(ht:TabB t):AFn prog 138 [.agg (Ao t)] (fun r=>r= .agg (Ao t)):=by
 have hfew:=ht.few;refine enter Tryz.func138 rfl rfl rfl rfl rfl 0 rfl ?_;refine E5 (h:=e_ (Ay (h:=AO (h:=Bk (h:=Dw (h:=DT (h:=?_)))))));refine Ls 2 2 29 14 rfl rfl (by repeat constructor) (by repeat constructor) (by repeat constructor) ?_;refine BM (fun m s=>∃j:Nat,j≤t.ps.length∧m=t.ps.length - j∧s=⟨look [(1, .bp 0 0),(2, .bp 1 0),(3, .bp 2 0),(4, .v (.int .i64 (j:Int)))],⟨[Ao t,DZ,Da t (.sl 14 ((t.ps.take j).map Av) (some 0))],[(29,14,(t.ps.take j).map Av)]⟩⟩) (t.ps.length) ((wk 3 1)) (⟨0,BE _,rfl,rfl⟩) ?_;rintro m s ⟨j,hj,rfl,rfl⟩;refine Fz (h:=?_);refine A4 rfl (fun hb1 hc1=>?_) (fun hb1 hc1=>?_)
 ·obtain⟨hlt,p,hy,hrow,e⟩:=Br Av hc1;have hop:p.opens.length≤1000:=by have:=ht.opens p (Am hy);omega
  refine AG (q_ (BF (BR ([(0,Ao t),(1,DZ),(2,Da t (.sl 14 ((t.ps.take j).map Av) (some 0)))]) 11 (h:=AA 0 (h:=A9 1 (h:=AA 2 (h:=A9 3 (h:=AE 4 (h:=CL 5 (h:=A9 6 (h:=?_)))))))))));refine c_ 7 rfl (A8 (Pk p hop) ?_);rintro r rfl;refine o_ (h:=K4 8 (h:=?_));refine c_ 9 rfl (EF rfl rfl rfl (by simp;omega) (by repeat constructor) ?_);refine o_ (h:=AA 10 (h:=?_));refine B8 11 (h:=z_ (h:=BA (t_ (Aw (m_ (h:=Ec (h:=a_ (h:=Bw (AR (?_))))))))));refine⟨_,_,?_,⟨j+1,by omega,rfl,rfl⟩,(by rw[e];exact Ah 3 1 rfl rfl rfl rfl ((by repeat (first|exact Sub.nil|refine Ai rfl rfl ?_|refine Ap ?_|refine Aq rfl ?_|refine Ar rfl ?_))))⟩;omega
 have e:=C6 Av hj hc1;subst e;rw[List.take_length];refine CP (h:=Di (h:=e_ (B3 (?_))));refine A6 ?_;rfl
theorem YV(t:Tab)(ht:TabB t)(h0:0<t.ps.length):ACall prog 138 [.agg (Ao t)] [] (fun r b tk=>tk=[]∧∃cap,t.ps.length≤cap∧r= .agg (Da t (.bs 3 0 14 t.ps.length cap))∧b=[Ao t,Da t (.bs 3 0 14 t.ps.length cap),Da t (.bs 3 0 14 t.ps.length cap),LB 14 Av t.ps cap]):=by
 have hfew:=ht.few;refine enter Tryz.func138 rfl rfl rfl rfl rfl 4 rfl ?_;refine E5 (h:=e_ (Ay (h:=AO (h:=Bk (h:=Dw (h:=DT (h:=?_)))))));refine BM (fun m s=>∃(j:Nat) (acc:List Prc),j≤t.ps.length∧m=t.ps.length - j∧t.ps.take j=acc∧((acc=[]∧s=⟨look [(1, .bp 0 0),(2, .bp 1 0),(3, .bp 2 0),(4, .v (.int .i64 (j:Int)))],⟨[Ao t,DZ,Da t (.v (.slice none 0 0))],[]⟩⟩)∨(∃cap,acc.length≤cap∧s=⟨look [(1, .bp 0 0),(2, .bp 1 0),(3, .bp 2 0),(4, .v (.int .i64 (j:Int)))],⟨[Ao t,DZ,Da t (.bs 3 0 14 acc.length cap),LB 14 Av acc cap],[]⟩⟩))) (t.ps.length) ((wk 3 0)) (⟨0,[],BE _,rfl,rfl, .inl ⟨rfl,rfl⟩⟩) ?_;rintro m s ⟨j,acc,hj,rfl,hacc,⟨rfl,rfl⟩|⟨cap,hcp,rfl⟩⟩
 ·skip
  refine Fz (h:=?_);refine A4 rfl (fun hb1 hc1=>?_) (fun hb1 hc1=>?_)
  ·obtain⟨hlt,p,hy,hrow, -⟩:=Br Av hc1;have hk:t.ps.take (j+1)=t.ps.take j++[p]:=by rw[List.take_add_one,hy];rfl
   have hop:p.opens.length≤1000:=by have:=ht.opens p (Am hy);omega
   refine AG (q_ (BF (BR ([(0,Ao t),(1,DZ),(2,Da t (.v (.slice none 0 0)))]) 11 (h:=AA 0 (h:=A9 1 (h:=AA 2 (h:=A9 3 (h:=AE 4 (h:=CL 5 (h:=A9 6 (h:=?_)))))))))));refine c_ 7 rfl (A8 (Pk p hop) ?_);rintro r rfl;refine o_ (h:=K4 8 (h:=?_));refine c_ 9 rfl (Qu rfl rfl M7 (by omega) (by omega) ?_);rintro cap2 k bx2 hcp hs;rw[show CX (.agg (Av p))++List.replicate ((cap2 - 1) * 14) AV.any=LB 14 Av [p] cap2 from YN Em p cap2]at hs;obtain⟨rfl,rfl⟩:k=3∧bx2=[_,_,_,_]:=hs.eq;refine o_ (h:=?_);refine AA 10 (h:=?_);refine B8 11 (h:=z_ (h:=BA (t_ (Aw (m_ (h:=Ec (h:=a_ (h:=Bw (AR (?_))))))))));exact⟨t.ps.length - (j+1),_,by omega,⟨j+1,[p],by omega,rfl,(by rw[hk,hacc];rfl), .inr ⟨cap2,hcp,rfl⟩⟩,Ah 4 0 rfl rfl rfl (by simp[AY,AT,AQ,Bq Em,Ao,Da,DZ]) ((by repeat (first|exact Sub.nil|refine Ai rfl rfl ?_|refine Ap ?_|refine Aq rfl ?_|refine Ar rfl ?_)))⟩
  exfalso;have e:=C6 Av hj hc1;rw[e,List.take_length]at hacc;rw[hacc]at h0;exact absurd h0 (by simp)
 skip
 refine Fz (h:=?_);refine A4 rfl (fun hb2 hc2=>?_) (fun hb2 hc2=>?_)
 ·obtain⟨hlt,p,hy,hrow, -⟩:=Br Av hc2;have hk:t.ps.take (j+1)=t.ps.take j++[p]:=by rw[List.take_add_one,hy];rfl
  have hop:p.opens.length≤1000:=by have:=ht.opens p (Am hy);omega
  refine AG (q_ (BF (BR ([(0,Ao t),(1,DZ),(2,Da t (.bs 3 0 14 acc.length cap))]) 11 (h:=AA 0 (h:=A9 1 (h:=AA 2 (h:=A9 3 (h:=AE 4 (h:=CL 5 (h:=A9 6 (h:=?_)))))))))));refine c_ 7 rfl (A8 (Pk p hop) ?_);rintro r rfl;refine o_ (h:=K4 8 (h:=?_));refine c_ 9 rfl (O0 rfl rfl rfl (by rw[Ri Em hcp];omega) M7 (by omega) (by have:=congrArg List.length hacc;simp at this;omega) ?_ ?_)
  ·rintro hg row2 bx2 hs hb;obtain rfl:=UK Em hs hg;obtain rfl:bx2=[_,_,_,_]:=hb.one.2;refine o_ (h:=?_);refine AA 10 (h:=?_);refine B8 11 (h:=z_ (h:=BA (t_ (Aw (m_ (h:=Ec (h:=a_ (h:=Bw (AR (?_))))))))));exact⟨t.ps.length - (j+1),_,by omega,⟨j+1,acc++[p],by omega,rfl,(by rw[hk,hacc]), .inr ⟨cap,by simpa using hg,by rw[List.length_append];rfl⟩⟩,Ah 4 0 rfl rfl rfl (by simp[AY,AT,AQ,Bq Em,Ao,Da,DZ]) ((by repeat (first|exact Sub.nil|refine Ai rfl rfl ?_|refine Ap ?_|refine Aq rfl ?_|refine Ar rfl ?_)))⟩
  rintro hg cap3 k bx2 hcp3 hs;rw[show((LB 14 Av acc cap).drop 0).take (acc.length * 14)++CX (.agg (Av p))++List.replicate ((cap3 - (acc.length+1)) * 14) AV.any=LB 14 Av (acc++[p]) cap3 from UJ Em acc p cap cap3]at hs;obtain⟨rfl,rfl⟩:k=4∧bx2=[_,_,_,_,_]:=hs.eq;refine o_ (h:=?_);refine AA 10 (h:=?_);refine B8 11 (h:=z_ (h:=BA (t_ (Aw (m_ (h:=Ec (h:=a_ (h:=Bw (AR (?_))))))))))
  first|exact⟨t.ps.length - (j+1),_,by omega,⟨j+1,acc++[p],by omega,rfl,(by rw[hk,hacc]), .inr ⟨cap,by simpa using hg,by rw[List.length_append];rfl⟩⟩,Ah 4 0 rfl rfl rfl (by simp[AY,AT,AQ,Bq Em,Ao,Da,DZ]) ((by repeat (first|exact Sub.nil|refine Ai rfl rfl ?_|refine Ap ?_|refine Aq rfl ?_|refine Ar rfl ?_)))⟩|exact⟨t.ps.length - (j+1),_,by omega,⟨j+1,acc++[p],by omega,rfl,(by rw[hk,hacc]), .inr ⟨cap3,by simpa using hcp3,by rw[List.length_append];rfl⟩⟩,Ga [0,1,2,4] (fun i hi=>absurd hi (Nat.not_lt_zero i)) (by decide) (.cons _ _ _ _ _ rfl rfl (.cons _ _ _ _ _ rfl rfl (.cons _ _ _ _ _ rfl rfl (.cons _ _ _ _ _ rfl (MD Em _ _ _) .nil)))) (by repeat (first|exact SubK.nil|refine SubK.cons _ _ _ _ rfl (A7 _) ?_))⟩
 have e:=C6 Av hj hc2;refine CP (h:=Di (h:=e_ (B3 (?_))));rw[e,List.take_length]at hacc;subst hacc;refine AX (r:= .agg (Da t (.bs 3 0 14 t.ps.length cap))) none (h4:=(by simp[AY,AT,AQ,Bq Em,Ao,Da])) (h5:=(A7 _)) (h6:=⟨rfl,cap,hcp,rfl,rfl⟩)
theorem KK(t:Tab)(pid:Int)(ht:TabB t):AFn prog 93 [.agg (Ao t), .v (.int .i64 pid)] (fun r=>r= .tup [.agg (Av (AP t pid)), .v (.bool (CS t pid))]):=by
 have hfew:=ht.few;refine enter Tryz.func93 rfl rfl rfl rfl rfl 0 rfl ?_;refine E5 (h:=JK (h:=?_));refine BM (fun m s=>∃j:Nat,j≤t.ps.length∧m=t.ps.length - j∧(∀i y,i<j→t.ps[i]?=some y→decide (y.pid=pid)=false)∧s=⟨look [(1, .v (.int .i64 pid)),(2, .bp 0 0),(4, .bp 1 0),(6, .v (.int .i64 (j:Int)))],⟨[Ao t,[.v (.int .i64 0), .v (.int .i64 0), .v (.int .i64 0), .v (.int .i64 0), .v (.int .i64 0), .v (.int .i64 0), .v (.int .i64 0), .v (.int .i64 0), .v (.int .i64 0), .v (.int .i64 0), .v (.string ⟨#[]⟩), .v (.string ⟨#[]⟩), .v (.slice none 0 0), .v (.bool false)]],[]⟩⟩) (t.ps.length) ((wk 2 0)) (⟨0,BE _,rfl,fun i y hi=>by omega,rfl⟩) ?_;rintro m s ⟨j,hj,rfl,ha,rfl⟩;refine Fz (h:=?_);refine A4 rfl (fun hb1 hc1=>?_) (fun hb1 hc1=>?_)
 ·obtain⟨hlt,p,hy,hrow, -⟩:=Br Av hc1;have hop:p.opens.length≤1000:=by have:=ht.opens p (Am hy);omega
  refine By (h:=H9 (h:=AO (h:=CE (h:=e_ (?_)))));refine A4 rfl (fun hb2 hc2=>?_) (fun hb2 hc2=>?_)
  ·have hg:OR t pid=some p:=NM hy (decide_eq_true hc2) ha;refine H9 (h:=l_ (h:=?_));refine A3 rfl (A8 (Pk p hop) ?_);rintro r rfl;refine s_ (h:=Ax (h:=Dk (h:=?_)));refine A6 ?_;rw[AP,CS,hg];rfl
  refine Cm (h:=?_);refine⟨_,_,?_,⟨j+1,by omega,rfl,GN hy ha (decide_eq_false hc2),rfl⟩,(wk 2 0)⟩;omega
 have e:=C6 Av hj hc1;subst e;have hg:OR t pid=none:=NN ha;refine CP (h:=JH (h:=Az (h:=?_)));refine AX (r:= .tup [.agg (Av (AP t pid)), .v (.bool (CS t pid))]) none (h5:=?_) (h6:=⟨rfl,rfl,rfl⟩);rw[AP,CS,hg];exact(by repeat (first|exact A7 _|exact LeA.nil _|exact LeL.refl _|refine LeA.agg ?_|refine LeA.tup ?_|exact LeL.nil|refine LeL.cons ?_ ?_|exact LeA.any _))
theorem Ng(t:Tab)(p:Prc)(ht:TabB t)(h0:0<t.ps.length)(hp:p.opens.length≤1000):AFn prog 250 [.agg (Ao t), .agg (Av p)] (fun r=>r= .agg (Ao (JS t p))):=by
 have hfew:=ht.few;refine enter Tryz.func250 rfl rfl rfl rfl rfl 0 rfl ?_;refine FU (h:=e_ (?_));refine BC (fun s=>∃cap,t.ps.length≤cap∧s=⟨look [(3, .bp 1 0),(4, .bp 2 0),(5, .bp 3 0)],⟨[Ao t,Av p,DZ,Da t (.bs 4 0 14 (Ez (Js p) t.ps 0).length cap),LB 14 Av (Ez (Js p) t.ps 0) cap],[]⟩⟩) ?_ ?_
 ·skip
  refine Aw (l_ (h:=?_));refine A3 rfl (Bj [] rfl (.cons _ _ _ _ _ rfl (A7 _) .nil) (by decide) .nil (YV t ht h0) ?_);rintro r bc tc ⟨rfl,cap,hcap,rfl,rfl⟩;refine⟨rfl,_,(YT (n:=3) rfl t cap:Back _ [] _ [_,_,_,_,_,_,_]),?_⟩;refine Mf (h:=GH (h:=?_));exact⟨_,⟨cap,hcap,rfl⟩,Ga [0,1,2,7,6] (fun i hi=>absurd hi (Nat.not_lt_zero i)) (by decide) (.cons _ _ _ _ _ rfl rfl (.cons _ _ _ _ _ rfl rfl (.cons _ _ _ _ _ rfl rfl (.cons _ _ _ _ _ rfl (by rw[Mu];rfl) (.cons _ _ _ _ _ rfl (MD Em _ _ _) .nil))))) (by repeat (first|exact SubK.nil|refine SubK.cons _ _ _ _ rfl (A7 _) ?_))⟩
 rintro s ⟨cap,hcap,rfl⟩;refine BC (fun s=>s=⟨look [(4, .bp 2 0),(5, .bp 3 0)],⟨[Ao t,Av p,DZ,Ao (JS t p)],[]⟩⟩) ?_ ?_
 ·skip
  refine NJ (h:=?_);refine BM (fun m s=>∃j:Nat,j≤t.ps.length∧m=t.ps.length - j∧s=⟨look [(3, .bp 1 0),(4, .bp 2 0),(5, .bp 3 0),(6, .v (.int .i64 (j:Int)))],⟨[Ao t,Av p,DZ,Da t (.bs 4 0 14 (Ez (Js p) t.ps j).length cap),LB 14 Av (Ez (Js p) t.ps j) cap],[]⟩⟩) (t.ps.length) (Be 5 0 (by simp[AY,AT,AQ,Bq Em,Ao,Da,DZ,Av])) (⟨0,BE _,rfl,rfl⟩) ?_;rintro m s ⟨j,hj,rfl,rfl⟩;refine Mg (h:=?_);refine A3 rfl (Sb rfl ?_);refine Cv (h:=?_);refine A4 rfl (fun hb1 hc1=>?_) (fun hb1 hc1=>?_)
  ·have hlt:j<t.ps.length:=by rw[Mu]at hc1;omega
   obtain⟨x,hy⟩:∃x,t.ps[j]?=some x:=⟨_,B6 hlt⟩;have hl1:j<(Ez (Js p) t.ps j).length:=by rw[Mu];exact hlt
   refine AG (q_ (BF (q_ (Ct 9 (h:=AA 0 (h:=A9 1 (h:=AE 2 (h:=?_))))))));refine F9 (i:=3) rfl (E1 (m:=j) rfl rfl rfl hl1 ⟨rfl,rfl⟩) ?_;refine AA 4 (h:=?_);refine F9 (i:=5) rfl (Dq rfl rfl (kQ Em (UL hy) rfl) ⟨rfl,rfl⟩) ?_;refine AA 6 (h:=A9 7 (h:=JF 8 (h:=z_ (h:=t_ (?_)))));refine A4 rfl (fun hb2 hc2=>?_) (fun hb2 hc2=>?_)
   ·have hu:(Ez (Js p) t.ps j).set j p=Ez (Js p) t.ps (j+1):=by rw[←YR hy,Js,if_pos hc2]
    refine Aw (AO (h:=m_ (h:=l_ (h:=?_))));refine A3 rfl (E1 (m:=j) rfl rfl rfl hl1 ?_);refine Mc (Ep rfl rfl rfl rfl rfl rfl (YM Em (x':=p) (UL hy)) (by repeat constructor) ?_);refine Bw (Ef (h:=?_));exact⟨t.ps.length - (j+1),_,by omega,⟨j+1,by omega,rfl,rfl⟩,(by first|(rw[hu,show(Ez (Js p) t.ps j).length=(Ez (Js p) t.ps (j+1)).length by rw[Mu,Mu]];exact Be 5 0 (by simp[AY,AT,AQ,Bq Em,Ao,Da,DZ,Av]))|(rw[hu];exact Be 5 0 (by simp[AY,AT,AQ,Bq Em,Ao,Da,DZ,Av])))⟩
   have hu:Ez (Js p) t.ps j=Ez (Js p) t.ps (j+1):=kT hy (if_neg hc2);refine Cm (h:=?_);exact⟨t.ps.length - (j+1),_,by omega,⟨j+1,by omega,rfl,rfl⟩,(by first|(rw[hu,show(Ez (Js p) t.ps j).length=(Ez (Js p) t.ps (j+1)).length by rw[Mu,Mu]];exact Be 5 0 (by simp[AY,AT,AQ,Bq Em,Ao,Da,DZ,Av]))|(rw[hu];exact Be 5 0 (by simp[AY,AT,AQ,Bq Em,Ao,Da,DZ,Av])))⟩
  obtain rfl:j=t.ps.length:=by rw[Mu]at hc1;omega
  rw[kU];refine Kb (h:=AR (?_));exact⟨_,rfl,Hg 4 1 rfl (congrArg (fun x=>[Ao t,Av p,DZ,[.v (.int .i64 t.next), .v (.int .i64 t.nextS),x]]) (OX Em rfl rfl (by rw[List.length_map];exact hcap))) (.cons _ _ _ _ rfl (A7 _) (.cons _ _ _ _ rfl (A7 _) .nil))⟩
 rintro s rfl;refine Di (h:=e_ (B3 (?_)));refine A6 ?_;rfl
end
end Go.Proofs.YtbgnigjfkbmceaaGreatDoor
