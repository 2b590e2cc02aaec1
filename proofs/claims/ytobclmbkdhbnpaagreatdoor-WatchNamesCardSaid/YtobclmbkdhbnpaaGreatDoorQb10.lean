/-
  Part 10 of the proof of WatchNamesP: what the statement's proof uses of the texts in wip/tpl.
-/
import Derived.Lib.AppendZerosOnto
import Derived.Test.YtobclmbkdhbnpaaGreatDoorQb9
open Go.Proofs.Tryz (prog)
set_option maxRecDepth 10000
set_option maxHeartbeats 4000000
set_option linter.unusedVariables false
set_option linter.unusedSimpArgs false
namespace Go.Proofs.YtobclmbkdhbnpaaGreatDoor
open Go.RowKit
theorem Y3(d m:AB):(Cl d m).size≤d.size+1+m.size:=by
 unfold Cl;split
 ·rw[ByteArray.size_append];omega
 rw[ByteArray.size_append,ByteArray.size_append];show d.size+1+m.size≤_;omega
theorem Y4{s:Spc}(hv:SpcV s)(pre:List A6):(Fi s pre).size≤1+13 * pre.length:=by
 have key:∀(l:List AB) (d:AB),(∀x∈l,x.size≤12)→(l.foldl Cl d).size≤d.size+13 * l.length:=by
  intro l
  induction l with
  |nil=>intro d _;simp
  |cons x l ih=>
    intro d h;have h1:=ih (Cl d x) fun y hy=>h y (List.mem_cons_of_mem _ hy);have h2:=h x (List.mem_cons_self ..);have h3:=Y3 d x;rw[List.foldl_cons,List.length_cons];omega
 have h:=key (CT s pre).reverse ⟨#[47]⟩ (fun x hx=>by
  rw[List.mem_reverse]at hx;obtain⟨y,_,rfl⟩:=List.mem_map.1 hx
  exact Ox hv.files y)
 have h2:(CT s pre).length≤pre.length:=by unfold CT;rw[List.length_map];exact List.length_filter_le _ _
 rw[List.length_reverse]at h;have:(⟨#[47]⟩:AB).size=1:=rfl;unfold Fi;omega
theorem P3{s:Spc}(hv:SpcV s)(a:A6):(BV s a).1.size≤1000:=by
 unfold BV;split
 ·have h3:=SR s (BM s.files) a;have h4:=SP hv.files;refine Nat.le_trans (Y4 hv _) ?_;refine Nat.le_trans (Nat.add_le_add_left (Nat.mul_le_mul_left 13 ((List.takeWhile_sublist _).length_le)) 1) ?_;omega
 exact BC _
theorem SY(d:AB)(h:0<d.size):d.data.toList.getLast?=some 47↔(((d[d.size - 1]'(by omega)).toNat:Int)=47):=by
 have hl:d.data.toList.length=d.size:=by simp
 rw[List.getLast?_eq_getElem?,hl,BG (by omega)];show some (d[d.size - 1]'(by omega))=some 47↔_;rw[Option.some.injEq];constructor
 ·intro e;rw[e];rfl
 intro e;refine UInt8.toNat_inj.1 ?_;show _=47;omega
theorem Y5{d m:AB}(h:¬0<d.size):Cl d m=d++⟨#[47]⟩++m:=by
 refine if_neg fun e=>?_;have hl:d.data.toList.length=d.size:=by simp
 rw[List.getLast?_eq_getElem?,List.getElem?_eq_none (by omega)]at e;cases e
section
theorem SZ(d m:AB)(hd:d.size≤1000000)(hm:m.size≤1000000):AFn prog 91 [.v (.string d), .v (.string m)] (fun r=>r= .v (.string (Cl d m))):=by
 refine enter Tryz.func91 rfl rfl rfl rfl rfl 0 rfl ?_;refine w_ (a_ (h:=e_ (q_ (w_ (m_ (h:=n_ (h:=Co (h:=m_ (h:=?_)))))))));refine Aw true rfl rfl (fun hb1=>?_) (fun hb1=>?_)
 ·have hc1:=bp hb1;refine m_ (h:=m_ (h:=n_ (h:=VC (h:=?_))));refine Ax (GY (n:=d.size - 1) Tryz.underlying9 rfl rfl (by omega) (by omega) ?_);refine Ah (h:=AY (h:=e_ (?_)));refine AA rfl (fun hb2=>?_) (fun hb2=>?_)
  ·have hc2:=bp hb2;refine w_ (m_ (h:=m_ (h:=?_)));refine A8 rfl (Hp rfl rfl (by omega) ?_);refine a_ (h:=e_ (A4 (A9 (?_))));refine AD ?_;rw[show Cl d m=d++m from if_pos ((SY d (by omega)).2 hc2)];rfl
  have hc2:=bp hb2;refine AO (w_ (m_ (h:=?_)));refine A8 rfl (Hp rfl rfl (by show d.size+1≤_;omega) ?_);refine m_ (h:=?_);refine A8 rfl (Hp rfl rfl (by rw[ByteArray.size_append];show d.size+1+m.size≤_;omega) ?_);refine a_ (h:=e_ (A4 (?_)));refine AD ?_;rw[show Cl d m=d++⟨#[47]⟩++m from if_neg (fun h=>hc2 ((SY d (by omega)).1 h))];rfl
 have hc1:=bp hb1;refine A3 (h:=A3 (h:=A3 (h:=A3 (h:=A3 (h:=A3 (h:=Aj (h:=e_ (F6 (h:=AO (w_ (m_ (h:=?_))))))))))));refine A8 rfl (Hp rfl rfl (by show d.size+1≤_;omega) ?_);refine m_ (h:=?_);refine A8 rfl (Hp rfl rfl (by rw[ByteArray.size_append];show d.size+1+m.size≤_;omega) ?_);refine a_ (h:=e_ (A4 (?_)));refine AD ?_;rw[Y5 (by omega)];rfl
theorem Y6(s:Spc)(a:A6)(hs:SpcB s):AFn prog 128 [.agg (Am s.files), .agg (A7 a)] (fun r=>r= .v (.string (Bw s a))):=by
 have hen:=Ki hs.files (a.1,(AU s.files a).parent);change (EW s a).entries.length≤1000 at hen;refine enter Tryz.func128 rfl rfl rfl rfl rfl 0 rfl ?_;refine w_ (b_ (h:=b_ (h:=a_ (h:=e_ (w_ (l_ (h:=l_ (h:=?_))))))));refine A8 rfl (AN (E1 s.files a hs.files) ?_);rintro r rfl
 skip
 refine m_ (h:=x_ (h:=x_ (h:=Ak (h:=s_ (h:=a_ (h:=e_ (w_ (l_ (h:=f_ (h:=l_ (h:=f_ (h:=l_ (h:=Aa (h:=?_))))))))))))));refine A8 rfl (AN (E1 s.files (a.1,(AU s.files a).parent) hs.files) ?_);rintro r rfl
 skip
 refine m_ (h:=x_ (h:=x_ (h:=Ak (h:=s_ (h:=a_ (h:=e_ (q_ (w_ (a_ (h:=e_ (Ap (?_))))))))))));refine By (fun m t=>∃j:Nat,j≤(EW s a).entries.length∧m=(EW s a).entries.length - j∧(∀i y,i<j→(EW s a).entries[i]?=some y→decide (y.2=a.2)=false)∧t=⟨look [(3, .bp 1 0),(7, .bp 3 0),(9, .v (.int .i64 (j:Int)))],⟨[Am s.files,A7 a,AW (AU s.files a),AW (EW s a)],[]⟩⟩) ((EW s a).entries.length) ((wk 4 0)) (⟨0,by omega,rfl,fun i y hi=>by omega,rfl⟩) ?_;rintro m t ⟨j,hj,rfl,ha,rfl⟩;refine q_ (w_ (m_ (h:=f_ (h:=l_ (h:=n_ (h:=BQ (h:=e_ (?_))))))));refine AA rfl (fun hb1=>?_) (fun hb1=>?_)
 ·have hc1:=bp hb1;obtain⟨hlt,x,hy,hrow, -⟩:=Cp CA hc1;refine AO (q_ (Ap (q_ (Dp 9 (h:=AJ 0 (h:=AF 1 (h:=AQ 2 (h:=DD 3 (h:=AJ 4 (h:=AF 5 (h:=AJ 6 (h:=AF 7 (h:=GU 8 (h:=z_ (h:=t_ (?_))))))))))))))));refine AA rfl (fun hb2=>?_) (fun hb2=>?_)
  ·have hc2:=bp hb2;refine w_ (f_ (h:=l_ (h:=m_ (h:=i_ (h:=f_ (h:=l_ (h:=a_ (h:=e_ (A4 (Ab (A9 (A9 (Ab (A9 (?_)))))))))))))));refine AD ?_;rw[show Bw s a=x.1 by simp only[Bw];rw[G0 hy (by simpa using hc2) ha];rfl];rfl
  have hc2:=bp hb2;refine BH (Ay (t_ (AX (m_ (h:=BB (h:=a_ (h:=AT (?_))))))));refine AG ?_;refine⟨_,_,?_,⟨j+1,by omega,rfl,Eb hy ha (by simpa using hc2),rfl⟩,(wk 4 0)⟩;omega
 have hc1:=bp hb1;have e3:=D0 CA hj hc1;subst e3;refine Ba (Ao (Ao (Bb (t_ (w_ (a_ (h:=e_ (A4 (?_)))))))));refine AD ?_;rw[show Bw s a=⟨#[]⟩ by simp only[Bw];rw[G4 ha];rfl];rfl
end
def Cx(s:AB):List AV:=[.v (.string s)]
theorem Sa{P:Program}{ev:Operand→Option AV}{h:AH}{R:AV→AH→Prop}{d:Option Tmp}{ty:TypeId}{pos:String}{af:Array Edge}{gd:Option (Nat×Bool)}{T:TypeId}{x lo hi:Operand}{s:ByteArray}{a k:Nat}{i j:Int}(hu:P.underlying T=some .string)
    (hx:ev x=some (.v (.string s))) (hl:ev lo=some (.v (.int .i64 i))) (hh:ev hi=some (.v (.int .i64 j))) (hi':i=(a:Int)) (hj:j=(k:Int)) (h1:a≤k) (h2:k≤s.size) (hR:R (.v (.string (s.extract a k))) h):AStep P ⟨d, .slice T x (some lo) (some hi) none,ty,pos,af,gd⟩ ev h R:=by
 refine CU (fun _ G w ec _ he=>?_) hR;have k1:=he x (by simp[Op.operands]) _ hx;have k2:=he lo (by simp[Op.operands]) _ hl;have k3:=he hi (by simp[Op.operands]) _ hh;simp only[rep]at k1 k2 k3;subst hi' hj;refine⟨.string (s.extract a k),?_,by simp only[rep]⟩;simp[execOp,k1,k2,k3,Instr.sliceAt,Instr.slice,Instr.sliceBounds,Instr.sliceBound,asIntOf,run_underlying hu,h1,h2]
def Cg(s:AB):Bool:=decide (s.data.toList.head?=some 47)
def B2(s:AB):Bool:=decide (s.data.toList.getLast?=some 47)
theorem Mh{s:AB}(h:0<s.size):Cg s=decide (((s[0]'h).toNat:Int)=47):=by
 unfold Cg;rw[WW s h,Bool.eq_iff_iff];simp
theorem Mi{s:AB}(h:0<s.size):B2 s=decide (((s[s.size - 1]'(by omega)).toNat:Int)=47):=by
 unfold B2;rw[WX s h,Bool.eq_iff_iff];simp
theorem Mj{s:AB}(h:¬0<s.size):Cg s=false:=by
 have:s.data.toList=[]:=DC (by rw[←Lib.size_eq];omega);unfold Cg;rw[this];rfl
theorem Mk{s:AB}(h:¬0<s.size):B2 s=false:=by
 have:s.data.toList=[]:=DC (by rw[←Lib.size_eq];omega);unfold B2;rw[this];rfl
theorem Sb{s:AB}{k:Nat}(h:k<s.size)(h47:((s[k]'h).toNat:Int)=47):s.data.toList[k]?=some 47:=by
 rw[Lib.data_getElem? s k h]
 congr 1
 refine UInt8.toNat_inj.1 ?_;show _=47;omega
theorem Sc{s:AB}{f k:Nat}{ps:List AB}(hI:Dg s.data.toList f k (D1 ps))(h:k=s.size∨s.data.toList[k]?=some 47):Dg s.data.toList (k+1) (k+1) (D1 ps++one_ ((s.data.toList.drop f).take (k - f))):=by
 rcases h with h|h
 ·rw[Lib.size_eq]at h;subst h;exact WS hI
 exact WR hI h
theorem Sd{s:AB}{f k:Nat}{ps:List AB}(hI:Dg s.data.toList f k (D1 ps))(hk:k≤s.size)(h:k=s.size∨s.data.toList[k]?=some 47)(hf:f<k):Dg s.data.toList (k+1) (k+1) (D1 (ps++[s.extract f k])):=WY (Sc hI h) (WU (WV s hf hk))
theorem Se{s:AB}{f k:Nat}{ps:List AB}(hI:Dg s.data.toList f k (D1 ps))(h:k=s.size∨s.data.toList[k]?=some 47)(hf:¬f<k):Dg s.data.toList (k+1) (k+1) (D1 ps):=WZ (Sc hI h) (by omega)
theorem Y7{s:AB}{f k:Nat}{ps:List AB}(hI:Dg s.data.toList f k (D1 ps))(h:k<s.size)(h47:¬((s[k]'h).toNat:Int)=47):Dg s.data.toList f (k+1) (D1 ps):=WQ hI (Lib.data_getElem? s k h) (fun e=>h47 (by rw[e];rfl))
theorem Y8(ps:List AB):ps.length≤(G8 (D1 ps)).length:=by
 induction ps with
 |nil=>simp
 |cons p ps ih=>
   have:D1 (p::ps)=p.data.toList::D1 ps:=rfl;rw[this,HU];simp;omega
theorem Sf{a b:AB}(h:a.data.toList=b.data.toList):a=b:=ByteArray.ext (Array.toList_inj.1 h)
section
theorem Sg(s:AB)(hs:s.size≤100000):AFn prog 86 [.v (.string s)] (fun r=>∃ps:List AB,D1 ps=CF s.data.toList∧r= .tup [.sl 1 (ps.map Cx) none, .v (.bool (Cg s)), .v (.bool (B2 s))]):=by
 have hsz:=Lib.size_eq s;refine enter Tryz.func86 rfl rfl rfl rfl rfl 0 rfl ?_;refine w_ (a_ (h:=a_ (h:=a_ (h:=e_ (w_ (a_ (h:=e_ (w_ (a_ (h:=e_ (q_ (w_ (a_ (h:=e_ (Ap (?_))))))))))))))));refine Q9 5 9 1 rfl (by repeat constructor) ?_;refine By (fun m t=>∃(f k:Nat) (ps:List AB),k≤s.size+1∧f≤k∧ps.length≤k∧m=s.size+1 - k∧Dg s.data.toList f k (D1 ps)∧t=⟨look [(0, .v (.string s)),(5, .sl 1 (ps.map Cx) (some 0)),(6, .v (.int .i64 (f:Int))),(7, .v (.int .i64 (k:Int)))],⟨[],[(9,1,ps.map Cx)]⟩⟩) (s.size+1) ((wk 0 1)) (⟨0,0,[],by omega,by omega,by simp,rfl,WT _,rfl⟩) ?_;rintro m t ⟨f,k,ps,hk,hfk,hpl,rfl,hI,rfl⟩;refine q_ (w_ (m_ (h:=m_ (h:=n_ (h:=Kh (h:=e_ (?_)))))));refine AA rfl (fun hb1=>?_) (fun hb1=>?_)
 ·have hc1:=bp hb1;refine AO (q_ (Ap (w_ (m_ (h:=m_ (h:=n_ (h:=Ah (h:=m_ (h:=?_)))))))));refine Aw false rfl rfl (fun hb2=>?_) (fun hb2=>?_)
  ·have hc2:=bp hb2;refine A3 (h:=A3 (h:=A3 (h:=A3 (h:=AY (h:=e_ (CD (h:=q_ (w_ (m_ (h:=m_ (h:=Co (h:=e_ (?_)))))))))))));refine AA rfl (fun hb3=>?_) (fun hb3=>?_)
   ·have hc3:=bp hb3;have hnx:=Sd hI (by omega) (.inl (by omega)) (by omega);refine AX (m_ (h:=m_ (h:=m_ (h:=m_ (h:=?_)))));refine A8 rfl (Sa (a:=f) (k:=k) Tryz.underlying9 rfl rfl rfl rfl rfl (by omega) (by omega) ?_);refine CR (h:=?_)
    first|refine A8 rfl (Ei rfl rfl rfl (by simp;omega) (by repeat constructor) ?_)|refine A8 rfl (Ej rfl rfl (by simp;omega) (by repeat constructor) ?_)
    refine a_ (h:=e_ (AX (m_ (h:=BB (h:=a_ (h:=AT (Ay (t_ (AX (m_ (h:=BB (h:=a_ (h:=AT (?_))))))))))))));refine AG ?_;refine⟨_,_,?_,⟨_,k+1,_,by omega,by omega,(by(try simp only[List.length_append,List.length_cons,List.length_nil]);omega),rfl,hnx,rfl⟩,(by(try simp only[List.map_append,List.map_cons,List.map_nil]);exact B4 0 1 rfl rfl rfl rfl ((by repeat (first|exact Sub.nil|refine B9 rfl rfl ?_|refine BD ?_|refine BE rfl ?_|refine BF rfl ?_))))⟩;omega
   have hc3:=bp hb3;have hnx:=Se hI (.inl (by omega)) (by omega);refine AO (AX (m_ (h:=BB (h:=a_ (h:=AT (Ay (t_ (AX (m_ (h:=BB (h:=a_ (h:=AT (?_)))))))))))));refine AG ?_;refine⟨_,_,?_,⟨_,k+1,_,by omega,by omega,(by(try simp only[List.length_append,List.length_cons,List.length_nil]);omega),rfl,hnx,rfl⟩,(by(try simp only[List.map_append,List.map_cons,List.map_nil]);exact B4 0 1 rfl rfl rfl rfl ((by repeat (first|exact Sub.nil|refine B9 rfl rfl ?_|refine BD ?_|refine BE rfl ?_|refine BF rfl ?_))))⟩;omega
  have hc2:=bp hb2;refine m_ (h:=m_ (h:=?_));refine Ax (GY (n:=k) Tryz.underlying9 rfl rfl rfl (by omega) ?_);refine Ah (h:=Aj (h:=e_ (?_)));refine AA rfl (fun hb4=>?_) (fun hb4=>?_)
  ·have hc4:=bp hb4;refine q_ (w_ (m_ (h:=m_ (h:=Co (h:=e_ (?_))))));refine AA rfl (fun hb5=>?_) (fun hb5=>?_)
   ·have hc5:=bp hb5;have hnx:=Sd hI (by omega) (.inr (Sb (by omega) hc4)) (by omega);refine AX (m_ (h:=m_ (h:=m_ (h:=m_ (h:=?_)))));refine A8 rfl (Sa (a:=f) (k:=k) Tryz.underlying9 rfl rfl rfl rfl rfl (by omega) (by omega) ?_);refine CR (h:=?_)
    first|refine A8 rfl (Ei rfl rfl rfl (by simp;omega) (by repeat constructor) ?_)|refine A8 rfl (Ej rfl rfl (by simp;omega) (by repeat constructor) ?_)
    refine a_ (h:=e_ (AX (m_ (h:=BB (h:=a_ (h:=AT (Ay (t_ (AX (m_ (h:=BB (h:=a_ (h:=AT (?_))))))))))))));refine AG ?_;refine⟨_,_,?_,⟨_,k+1,_,by omega,by omega,(by(try simp only[List.length_append,List.length_cons,List.length_nil]);omega),rfl,hnx,rfl⟩,(by(try simp only[List.map_append,List.map_cons,List.map_nil]);exact B4 0 1 rfl rfl rfl rfl ((by repeat (first|exact Sub.nil|refine B9 rfl rfl ?_|refine BD ?_|refine BE rfl ?_|refine BF rfl ?_))))⟩;omega
   have hc5:=bp hb5;have hnx:=Se hI (.inr (Sb (by omega) hc4)) (by omega);refine AO (AX (m_ (h:=BB (h:=a_ (h:=AT (Ay (t_ (AX (m_ (h:=BB (h:=a_ (h:=AT (?_)))))))))))));refine AG ?_;refine⟨_,_,?_,⟨_,k+1,_,by omega,by omega,(by(try simp only[List.length_append,List.length_cons,List.length_nil]);omega),rfl,hnx,rfl⟩,(by(try simp only[List.map_append,List.map_cons,List.map_nil]);exact B4 0 1 rfl rfl rfl rfl ((by repeat (first|exact Sub.nil|refine B9 rfl rfl ?_|refine BD ?_|refine BE rfl ?_|refine BF rfl ?_))))⟩;omega
  have hc4:=bp hb4;have hnx:=Y7 hI (by omega) hc4;refine BH (Ay (t_ (AX (m_ (h:=BB (h:=a_ (h:=AT (?_))))))));refine AG ?_;refine⟨_,_,?_,⟨_,k+1,_,by omega,by omega,(by(try simp only[List.length_append,List.length_cons,List.length_nil]);omega),rfl,hnx,rfl⟩,(by(try simp only[List.map_append,List.map_cons,List.map_nil]);exact B4 0 1 rfl rfl rfl rfl ((by repeat (first|exact Sub.nil|refine B9 rfl rfl ?_|refine BD ?_|refine BE rfl ?_|refine BF rfl ?_))))⟩;omega
 have hc1:=bp hb1;refine Ba (Ao (Ao (Bb (t_ (q_ (Dp 23 (h:=AQ 0 (h:=AQ 1 (h:=Kg 2 (h:=Nq 3 (h:=AQ 4 (h:=?_))))))))))));refine Gu (j:=4) rfl (fun hb6=>?_) (fun hb6=>?_)
 ·have hc6:=bp hb6;refine AQ 5 (h:=?_);refine F3 (i:=6) rfl (GY (n:=0) Tryz.underlying9 rfl rfl rfl (by omega) ⟨rfl,rfl⟩) ?_;refine GU 7 (h:=H4 8 (h:=AQ 9 (h:=Kg 10 (h:=Nq 11 (h:=AQ 12 (h:=?_))))));refine Gu (j:=12) rfl (fun hb7=>?_) (fun hb7=>?_)
  ·have hc7:=bp hb7;refine AQ 13 (h:=AQ 14 (h:=Kg 15 (h:=Qc 16 (h:=?_))));refine F3 (i:=17) rfl (GY (n:=s.size - 1) Tryz.underlying9 rfl rfl (by omega) (by omega) ⟨rfl,rfl⟩) ?_;refine GU 18 (h:=H4 19 (h:=BO 20 (h:=BO 21 (h:=BO 22 (h:=z_ (h:=t_ (A4 (?_))))))));refine AD ?_;refine⟨ps,MO hI (by omega),?_⟩
   first|(rw[Mh (by omega),Mi (by omega)];rfl)|(rw[Mj (by omega),Mk (by omega)];rfl)|(exfalso;omega)
  have hc7:=bp hb7;refine Be 13 (h:=Be 14 (h:=Be 15 (h:=Be 16 (h:=Be 17 (h:=Be 18 (h:=FP 19 (h:=BO 20 (h:=BO 21 (h:=BO 22 (h:=z_ (h:=t_ (A4 (?_)))))))))))));refine AD ?_;refine⟨ps,MO hI (by omega),?_⟩
  first|(rw[Mh (by omega),Mi (by omega)];rfl)|(rw[Mj (by omega),Mk (by omega)];rfl)|(exfalso;omega)
 have hc6:=bp hb6;refine Be 5 (h:=Be 6 (h:=Be 7 (h:=FP 8 (h:=AQ 9 (h:=Kg 10 (h:=Nq 11 (h:=AQ 12 (h:=?_))))))));refine Gu (j:=12) rfl (fun hb8=>?_) (fun hb8=>?_)
 ·have hc8:=bp hb8;refine AQ 13 (h:=AQ 14 (h:=Kg 15 (h:=Qc 16 (h:=?_))));refine F3 (i:=17) rfl (GY (n:=s.size - 1) Tryz.underlying9 rfl rfl (by omega) (by omega) ⟨rfl,rfl⟩) ?_;refine GU 18 (h:=H4 19 (h:=BO 20 (h:=BO 21 (h:=BO 22 (h:=z_ (h:=t_ (A4 (?_))))))));refine AD ?_;refine⟨ps,MO hI (by omega),?_⟩
  first|(rw[Mh (by omega),Mi (by omega)];rfl)|(rw[Mj (by omega),Mk (by omega)];rfl)|(exfalso;omega)
 have hc8:=bp hb8;refine Be 13 (h:=Be 14 (h:=Be 15 (h:=Be 16 (h:=Be 17 (h:=Be 18 (h:=FP 19 (h:=BO 20 (h:=BO 21 (h:=BO 22 (h:=z_ (h:=t_ (A4 (?_)))))))))))));refine AD ?_;refine⟨ps,MO hI (by omega),?_⟩
 first|(rw[Mh (by omega),Mi (by omega)];rfl)|(rw[Mj (by omega),Mk (by omega)];rfl)|(exfalso;omega)
end
theorem Sh{f:AR}{a:A6}(h:Al f a=true):(AU f a).ino=a.2:=by
 obtain⟨q,d,m,_,_,_,h4,h5,_⟩:=JE (f:=f) (a:=a) (by rw[h];simp);rw[h5,h4]
theorem P4{s:Spc}{d:Int}(h:(Bk s d).isSome=true):Bk s d=some ((Bk s d).getD (0,0)):=by
 cases ho:Bk s d with
 |none=>rw[ho]at h;cases h
 |some o=>rfl
theorem Y9{s:Spc}{d:Int}(h:(Bk s d).isSome=false):Bk s d=none:=by
 cases ho:Bk s d with
 |none=>rfl
 |some o=>rw[ho]at h;cases h
theorem Ml{s:Spc}{a:A6}(k:Nat)(h:Al s.files a=false):DH s (k+1) a=(0,0):=by unfold DH;rw[h];rfl
theorem Si{s:Spc}{a:A6}(k:Nat)(h:Al s.files a=true)(h1:¬a.2=1):DH s (k+1) a=(a.1,(AU s.files a).parent):=by unfold DH;rw[if_pos h,if_pos h1]
theorem Sj{s:Spc}{a:A6}(k:Nat)(h:Al s.files a=true)(h1:a.2=1)(ho:(Bk s a.1).isSome=true):DH s (k+1) a=DH s k ((Bk s a.1).getD (0,0)):=by
 conv=>lhs;unfold DH
 rw[if_pos h,if_neg (by simpa using h1),P4 ho];rfl
theorem Sk{s:Spc}{a:A6}(k:Nat)(h:Al s.files a=true)(h1:a.2=1)(ho:(Bk s a.1).isSome=false):DH s (k+1) a=a:=by
 conv=>lhs;unfold DH
 rw[if_pos h,if_neg (by simpa using h1),Y9 ho]
section
theorem Sl{s:Spc}(hs:SpcB s)(hv:SpcV s)(a:A6)
    (hrec:Al s.files a=true→∀b,Ce s a=some b→AFn prog 90 [.agg (As s), .agg (A7 b)] (fun r=>r= .tup [.v (.string (BV s b).1), .v (.bool (BV s b).2)])):
    AFn prog 90 [.agg (As s), .agg (A7 a)] (fun r=>r= .tup [.v (.string (BV s a).1), .v (.bool (BV s a).2)]):=by
 have hnm:=Ox hv.files a;have hwz:=P3 hv;refine enter Tryz.func90 rfl rfl rfl rfl rfl 0 rfl ?_;refine w_ (b_ (h:=b_ (h:=a_ (h:=a_ (h:=e_ (q_ (w_ (f_ (h:=l_ (h:=l_ (h:=?_)))))))))));refine A8 rfl (AN (GX s.files a hs.files) ?_);rintro r rfl;refine Bt (h:=m_ (h:=?_));refine Aw false rfl rfl (fun hb1=>?_) (fun hb1=>?_)
 ·have hc1:=bp hb1;refine A3 (h:=A3 (h:=A3 (h:=A3 (h:=A3 (h:=AY (h:=e_ (CD (h:=w_ (a_ (h:=a_ (h:=e_ (A4 (A9 (?_))))))))))))));refine AD ?_
  first|(rw[Jp hv (by simp_all)];rfl)|(rw[hw1];first|rfl|(rw[←hw2];rfl))|(rw[h00,LO hv (by rw[←h00];exact hc1)];rfl)
 have hc1:=bp hb1;refine l_ (h:=f_ (h:=l_ (h:=?_)));refine Ax (AN (VR s a.1 hs) ?_);rintro r rfl;refine Bt (h:=Aj (h:=e_ (?_)));refine AA rfl (fun hb2=>?_) (fun hb2=>?_)
 ·have hc2:=bp hb2;refine w_ (a_ (h:=a_ (h:=e_ (A4 (A9 (?_))))));refine AD ?_
  first|(rw[Jp hv (by simp_all)];rfl)|(rw[hw1];first|rfl|(rw[←hw2];rfl))|(rw[h00,LO hv (by rw[←h00];exact hc1)];rfl)
 have hc2:=bp hb2;refine AO (q_ (w_ (f_ (h:=l_ (h:=Ah (h:=e_ (?_)))))));refine AA rfl (fun hb3=>?_) (fun hb3=>?_)
 ·have hc3:=bp hb3;refine q_ (w_ (l_ (h:=f_ (h:=l_ (h:=?_)))));refine A8 rfl (AN (Nv s a.1 hs) ?_);rintro r rfl;refine m_ (h:=x_ (h:=x_ (h:=Ak (h:=s_ (h:=a_ (h:=e_ (w_ (m_ (h:=e_ (?_))))))))));refine AA rfl (fun hb4=>?_) (fun hb4=>?_)
  ·have hc4:=bp hb4;have hst:Ce s a=some ((Bk s a.1).getD (0,0)):=by unfold Ce;rw[if_neg (by simpa using hc3)];exact P4 hc4
   obtain⟨hw1,hw2⟩:=SS hv hc1 hc2 (fun e=>by rw[e,P0 hv]at hc4;cases hc4) hst;rw[if_pos hc3]at hw1;refine w_ (l_ (h:=l_ (h:=?_)));refine A8 rfl (AN (hrec hc1 _ hst) ?_);rintro r rfl
   skip
   refine x_ (h:=x_ (h:=a_ (h:=a_ (h:=e_ (A4 (A9 (A9 (?_))))))));refine AD ?_
   first|(rw[Jp hv (by simp_all)];rfl)|(rw[hw1];first|rfl|(rw[←hw2];rfl))|(rw[h00,LO hv (by rw[←h00];exact hc1)];rfl)
  have hc4:=bp hb4
  have h00:a=(0,1):=by
   refine Prod.ext ?_ hc3;have:=hc2;unfold Bz at this;rw[hc4,Bool.false_or]at this;exact of_decide_eq_true this
  refine AO (w_ (a_ (h:=a_ (h:=e_ (A4 (A9 (?_)))))));refine AD ?_
  first|(rw[Jp hv (by simp_all)];rfl)|(rw[hw1];first|rfl|(rw[←hw2];rfl))|(rw[h00,LO hv (by rw[←h00];exact hc1)];rfl)
 have hc3:=bp hb3;have hst:Ce s a=some (a.1,(AU s.files a).parent):=if_pos hc3;obtain⟨hw1,hw2⟩:=SS hv hc1 hc2 (fun e=>hc3 (by rw[e])) hst;rw[if_neg hc3]at hw1;refine AO (w_ (f_ (h:=l_ (h:=l_ (h:=?_)))));refine A8 rfl (AN (E1 s.files a hs.files) ?_);rintro r rfl;refine m_ (h:=x_ (h:=x_ (h:=Ak (h:=s_ (h:=a_ (h:=e_ (w_ (l_ (h:=f_ (h:=l_ (h:=f_ (h:=l_ (h:=Aa (h:=?_))))))))))))));refine A8 rfl (AN (hrec hc1 _ hst) ?_);rintro r rfl
 skip
 refine m_ (h:=x_ (h:=x_ (h:=a_ (h:=a_ (h:=e_ (w_ (m_ (h:=f_ (h:=l_ (h:=l_ (h:=?_)))))))))));refine A8 rfl (AN (Y6 s a hs) ?_);rintro r rfl;refine A8 rfl (AN (SZ (BV s (a.1,(AU s.files a).parent)).1 (Bw s a) (by have:=hwz (a.1,(AU s.files a).parent);omega) (by omega)) ?_);rintro r rfl;refine m_ (h:=a_ (h:=a_ (h:=e_ (A4 (?_)))));refine AD ?_
 first|(rw[Jp hv (by simp_all)];rfl)|(rw[hw1];first|rfl|(rw[←hw2];rfl))|(rw[h00,LO hv (by rw[←h00];exact hc1)];rfl)
theorem YA{s:Spc}(hs:SpcB s)(hv:SpcV s)(a:A6):AFn prog 90 [.agg (As s), .agg (A7 a)] (fun r=>r= .tup [.v (.string (BV s a).1), .v (.bool (BV s a).2)]):=by
 have key:∀(k:Nat) (a:A6),ends s k a→AFn prog 90 [.agg (As s), .agg (A7 a)] (fun r=>r= .tup [.v (.string (BV s a).1), .v (.bool (BV s a).2)]):=by
  intro k
  induction k with
  |zero=>intro a h;exact Sl hs hv a fun hd=>by rw[show Al s.files a=false from h]at hd;cases hd
  |succ k ih=>intro a h;exact Sl hs hv a fun hd b hb=>ih b (h.resolve_left (by rw[hd];simp) b hb)
 exact key _ a (GE hv a)
theorem YB{s:Spc}(hs:SpcB s)(a:A6)(p:Nat)(hrec:(Bk s a.1).isSome=true→AFn prog 89 [.agg (As s), .agg (A7 ((Bk s a.1).getD (0,0)))] (fun r=>r= .agg (A7 (DH s p ((Bk s a.1).getD (0,0)))))):
    AFn prog 89 [.agg (As s), .agg (A7 a)] (fun r=>r= .agg (A7 (DH s (p+1) a))):=by
 have hde:=Fb s.files a;refine enter Tryz.func89 rfl rfl rfl rfl rfl 0 rfl ?_;refine w_ (b_ (h:=b_ (h:=Ak (h:=e_ (w_ (f_ (h:=l_ (h:=l_ (h:=?_)))))))));refine A8 rfl (AN (E1 s.files a hs.files) ?_);rintro r rfl;refine m_ (h:=x_ (h:=x_ (h:=Ak (h:=s_ (h:=a_ (h:=e_ (q_ (w_ (m_ (h:=Bt (h:=m_ (h:=?_))))))))))));refine Aw false rfl rfl (fun hb1=>?_) (fun hb1=>?_)
 ·have hc1:=bp hb1;refine A3 (h:=A3 (h:=A3 (h:=AY (h:=e_ (CD (h:=w_ (Aa (h:=s_ (h:=e_ (A4 (A9 (?_))))))))))));refine AD ?_;rw[Ml p (by rw[hde,hc1];rfl)];rfl
 have hc1:=bp hb1;refine f_ (h:=l_ (h:=Bf (h:=Aj (h:=e_ (?_)))));refine AA rfl (fun hb2=>?_) (fun hb2=>?_)
 ·have hc2:=bp hb2;refine w_ (Aa (h:=s_ (h:=e_ (A4 (A9 (?_))))));refine AD ?_;rw[Ml p (by rw[hde,decide_eq_false hc2,Bool.and_false])];rfl
 have hc2:=bp hb2;refine AO (q_ (w_ (f_ (h:=l_ (h:=Bf (h:=e_ (?_)))))));refine AA rfl (fun hb3=>?_) (fun hb3=>?_)
 ·have hc3:=bp hb3;refine w_ (f_ (h:=l_ (h:=f_ (h:=l_ (h:=Aa (h:=s_ (h:=e_ (A4 (A9 (?_))))))))));refine AD ?_;rw[Si p (by rw[hde,hc1,decide_eq_true hc2];rfl) hc3];rfl
 have hc3:=bp hb3;refine AO (q_ (w_ (l_ (h:=f_ (h:=l_ (h:=?_))))));refine A8 rfl (AN (Nv s a.1 hs) ?_);rintro r rfl;refine m_ (h:=x_ (h:=x_ (h:=Ak (h:=s_ (h:=a_ (h:=e_ (w_ (m_ (h:=e_ (?_))))))))));refine AA rfl (fun hb4=>?_) (fun hb4=>?_)
 ·have hc4:=bp hb4;refine w_ (l_ (h:=l_ (h:=?_)));refine A8 rfl (AN (hrec hc4) ?_);rintro r rfl;refine s_ (h:=e_ (A4 (A9 (?_))));refine AD ?_;rw[Sj p (by rw[hde,hc1,decide_eq_true hc2];rfl) hc3 hc4];rfl
 have hc4:=bp hb4;refine AO (w_ (l_ (h:=s_ (h:=e_ (A4 (?_))))));refine AD ?_;rw[Sk p (by rw[hde,hc1,decide_eq_true hc2];rfl) hc3 hc4];rfl
theorem YC{s:Spc}(hs:SpcB s)(hv:SpcV s):∀(p:Nat) (a:A6),Hd s a.1<p→AFn prog 89 [.agg (As s), .agg (A7 a)] (fun r=>r= .agg (A7 (DH s p a))):=by
 intro p
 induction p with
 |zero=>intro a h;omega
 |succ p ih=>intro a hp;exact YB hs a p fun ho=>ih _ (by have:=SE hv (P4 ho);omega)
theorem YD{s:Spc}(hs:SpcB s)(hv:SpcV s)(a:A6):AFn prog 123 [.agg (As s), .agg (A7 a)] (fun r=>r= .agg (A7 (DH s (s.mounts.length+1) a))):=by
 have hfew:=hs.few;have hml:(s.mounts.map Cu).length=s.mounts.length:=by simp
 refine enter Tryz.func123 rfl rfl rfl rfl rfl 0 rfl ?_;refine w_ (b_ (h:=b_ (h:=Ak (h:=e_ (q_ (w_ (f_ (h:=l_ (h:=n_ (h:=BB (h:=m_ (h:=e_ (Ap (?_))))))))))))));refine By (fun m t=>∃(j:Nat) (b:A6),j≤s.mounts.length+1∧m=s.mounts.length+1 - j∧DH s (s.mounts.length+1 - j) b=DH s (s.mounts.length+1) a∧t=⟨look [(2, .bp 0 0),(3, .bp 1 0),(4, .bp 2 0),(11, .v (.int .i64 (((s.mounts.map Cu).length:Int)+1))),(12, .v (.int .i64 (j:Int)))],⟨[As s,A7 b,[.v (.int .i64 0), .v (.int .i64 0)]],[]⟩⟩) (s.mounts.length+1) ((wk 3 0)) (⟨0,a,by omega,rfl,rfl,rfl⟩) ?_;rintro m t ⟨j,b,hj,rfl,hit,rfl⟩;have hde:=Fb s.files b;refine w_ (BQ (h:=e_ (q_ (?_))));refine AA rfl (fun hb1=>?_) (fun hb1=>?_)
 ·have hc1:=bp hb1;obtain⟨k,hk⟩:∃k,s.mounts.length+1 - j=k+1:=⟨s.mounts.length - j,by omega⟩;rw[hk]at hit;refine AO (q_ (Ap (w_ (f_ (h:=l_ (h:=l_ (h:=?_)))))));refine A8 rfl (AN (G5 s.files b hs.files) ?_);rintro r rfl;refine m_ (h:=x_ (h:=x_ (h:=Ak (h:=s_ (h:=a_ (h:=e_ (q_ (w_ (m_ (h:=Bt (h:=m_ (h:=?_))))))))))));refine Aw false rfl rfl (fun hb2=>?_) (fun hb2=>?_)
  ·have hc2:=bp hb2;refine A3 (h:=A3 (h:=A3 (h:=AY (h:=e_ (CD (h:=w_ (Aa (h:=s_ (h:=e_ (A4 (A9 (Ab (A9 (A9 (Ab (A9 (?_)))))))))))))))));refine AD ?_;rw[←hit,Ml k (by rw[hde,hc2];rfl)];rfl
  have hc2:=bp hb2;refine f_ (h:=l_ (h:=Bf (h:=Aj (h:=e_ (?_)))));refine AA rfl (fun hb3=>?_) (fun hb3=>?_)
  ·have hc3:=bp hb3;refine w_ (Aa (h:=s_ (h:=e_ (A4 (A9 (Ab (A9 (A9 (Ab (A9 (?_)))))))))));refine AD ?_;rw[←hit,Ml k (by rw[hde,decide_eq_false hc3,Bool.and_false])];rfl
  have hc3:=bp hb3;refine AO (q_ (w_ (f_ (h:=l_ (h:=Bf (h:=e_ (?_)))))));refine AA rfl (fun hb4=>?_) (fun hb4=>?_)
  ·have hc4:=bp hb4;have hdd:Al s.files b=true:=by rw[hde,hc2,decide_eq_true hc3];rfl
   have hb1:¬b.2=1:=by rw[←Sh hdd];exact hc4
   refine w_ (f_ (h:=l_ (h:=f_ (h:=l_ (h:=Aa (h:=s_ (h:=e_ (A4 (A9 (Ab (A9 (A9 (Ab (A9 (?_)))))))))))))));refine AD ?_;rw[←hit,Si k hdd hb1];rfl
  have hc4:=bp hb4;have hdd:Al s.files b=true:=by rw[hde,hc2,decide_eq_true hc3];rfl
  have hb1:b.2=1:=by rw[←Sh hdd];exact hc4
  refine AO (w_ (l_ (h:=f_ (h:=l_ (h:=?_)))));refine A8 rfl (AN (Nx s b.1 hs) ?_);rintro r rfl;refine m_ (h:=x_ (h:=x_ (h:=Ak (h:=s_ (h:=a_ (h:=e_ (q_ (w_ (m_ (h:=Bt (h:=m_ (h:=?_))))))))))));refine Aw false rfl rfl (fun hb5=>?_) (fun hb5=>?_)
  ·have hc5:=bp hb5;refine A3 (h:=A3 (h:=A3 (h:=AY (h:=e_ (CD (h:=w_ (l_ (h:=s_ (h:=e_ (A4 (A9 (Ab (A9 (A9 (Ab (A9 (?_)))))))))))))))));refine AD ?_;rw[←hit,Sk k hdd hb1 hc5];rfl
  have hc5:=bp hb5;refine f_ (h:=l_ (h:=Ah (h:=Aj (h:=e_ (?_)))));refine AA rfl (fun hb6=>?_) (fun hb6=>?_)
  ·have hc6:=bp hb6;refine w_ (l_ (h:=s_ (h:=e_ (A4 (A9 (Ab (A9 (A9 (Ab (A9 (?_)))))))))));refine AD ?_;exfalso;rw[hc6,P0 hv]at hc5;cases hc5
  have hc6:=bp hb6;refine AO (AX (l_ (h:=s_ (h:=AT (Ay (t_ (AX (BB (h:=m_ (h:=AT (?_)))))))))));refine AG ?_;refine⟨_,_,?_,⟨j+1,((Bk s b.1).getD (0,0)),by omega,rfl,(by rw[←hit,Sj k hdd hb1 hc5,show s.mounts.length+1 - (j+1)=k by omega]),rfl⟩,(wk 3 0)⟩;omega
 have hc1:=bp hb1;refine Ba (Ao (Ao (Bb (t_ (w_ (l_ (h:=s_ (h:=e_ (A4 (?_))))))))));refine AD ?_;have ej:s.mounts.length+1 - j=0:=by omega
 rw[ej]at hit;rw[←hit];rfl
end
end Go.Proofs.YtobclmbkdhbnpaaGreatDoor
namespace Go.Proofs.YtobclmbkdhbnpaaGreatDoor
section
variable {s:Spc}(hv:SpcV s)
include hv
omit hv in
theorem P5{a:A6}(h:(BV s a).2=true):Al s.files a=true∧Bz s a.1=true:=by
 unfold BV at h;split at h
 ·rename_i c;exact⟨c.1,c.2.1⟩
 cases h
theorem Sm{d:Int}(h0:0≤d)(h1:d<(s.files.length:Int)):Al s.files (d,1)=true:=by
 obtain⟨q,rfl⟩:=Int.eq_ofNat_of_zero_le h0;have hq:s.files[q]?=some s.files[q]:=BG (by omega);obtain⟨r,rest,hr,h2,h3,_⟩:=(hv.files.vd _ (Au hq)).root;exact(JC (Oy hv hq (by rw[hr];exact List.mem_cons_self ..) h2)).2 h3
end
end Go.Proofs.YtobclmbkdhbnpaaGreatDoor
namespace Go.Proofs.YtobclmbkdhbnpaaGreatDoor
structure Fnd where
 dir:A6
 name:AB
 file:A6
 ex:Bool
 slash:Bool
 path:AB
def Cm:Fnd:=⟨(0,0),⟨#[]⟩,(0,0),false,false,⟨#[]⟩⟩
def Aq(x:Fnd):List AV:=[.v (.int .i64 x.dir.1), .v (.int .i64 x.dir.2), .v (.string x.name), .v (.int .i64 x.file.1), .v (.int .i64 x.file.2), .v (.bool x.ex), .v (.bool x.slash), .v (.string x.path)]
def CN(s:AB):List AB:=(CF s.data.toList).map fun l=>⟨l.toArray⟩
theorem Sn(s:AB):D1 (CN s)=CF s.data.toList:=by
 unfold D1 CN;rw[List.map_map];have:((fun x:AB=>x.data.toList) ∘ fun l:Bs=>(⟨l.toArray⟩:AB))=id:=by funext l;simp
 rw[this,List.map_id]
theorem So:∀{a b:List AB},D1 a=D1 b→a=b
 |[],[],_=>rfl
 |[],_::_,h=>by simp[D1]at h
 |_::_,[],h=>by simp[D1]at h
 |x::a,y::b,h=>by
   simp only[D1,List.map_cons,List.cons.injEq]at h;rw[Sf h.1,So (a:=a) (b:=b) h.2]
theorem P6{s:AB}{ps:List AB}(h:D1 ps=CF s.data.toList):ps=CN s:=So (h.trans (Sn s).symm)
theorem Jq(s:AB):(CN s).length≤s.size+1:=by
 have h1:=Y8 (CN s);have h2:=We s.data.toList;rw[←Sn]at h2;rw[Lib.size_eq];omega
def DW(s:Spc):A6:=CS s s.mounts.length (0,1)
structure Lk where
 ps:List AB
 dir:A6
 name:AB
 file:A6
 ex:Bool
 links:Nat
abbrev Mm:AB:=⟨#[46]⟩
abbrev LP:AB:=⟨#[46,46]⟩
def CG(s:Spc)(fl:Bool)(p:AB)(ps:List AB)(a:A6)(lk:Nat):Int ⊕ Lk:=
 if Al s.files a=false then .inl 20
 else if 12<p.size then .inl 36
 else if p=Mm then .inr ⟨ps,a,⟨#[]⟩,a,true,lk⟩
 else if p=LP then .inr ⟨ps,CS s s.mounts.length (DH s (s.mounts.length+1) a),⟨#[]⟩,CS s s.mounts.length (DH s (s.mounts.length+1) a),true,lk⟩
 else if(AK s.files a p).2≠0 then(if ps≠[]∨Da p=false then .inl 2 else .inr ⟨[],a,p,(0,0),false,lk⟩)
 else if(AU s.files (AK s.files a p).1).kind=3∧(ps≠[]∨fl=true)then
  (if lk=8 then .inl 40 else
    .inr ⟨CN (AU s.files (AK s.files a p).1).target++ps,if Cg (AU s.files (AK s.files a p).1).target=true then DW s else a,⟨#[]⟩,if Cg (AU s.files (AK s.files a p).1).target=true then DW s else a,true,lk+1⟩)
 else .inr ⟨ps,a,p,CS s s.mounts.length (AK s.files a p).1,true,lk⟩
def Mn:Lk:=⟨[],(0,0),⟨#[]⟩,(0,0),false,0⟩
def Fj(s:Spc)(fl:Bool):Nat→Lk→Int×Lk
 |0,σ=>(0,σ)
 |k+1,σ=>match σ.ps with
   |[]=>(0,σ)
   |p::ps=>match CG s fl p ps σ.file σ.links with
     | .inl e=>(e,Mn)
     | .inr τ=>Fj s fl k τ
def EB(σ:Lk):Nat:=(8 - σ.links) * 200+σ.ps.length
section
variable {s:Spc}(hv:FlsV s.files)
include hv
theorem P7{fl:Bool}{p:AB}{ps:List AB}{a:A6}{lk:Nat}{τ:Lk}(h8:lk≤8)(h:CG s fl p ps a lk= .inr τ):τ.links≤8∧EB τ<(8 - lk) * 200+(ps.length+1):=by
 unfold CG at h;split at h
 ·cases h
 split at h
 ·cases h
 split at h
 ·injection h with h;subst h;exact⟨h8,by unfold EB;simp only;omega⟩
 split at h
 ·injection h with h;subst h;exact⟨h8,by unfold EB;simp only;omega⟩
 split at h
 ·split at h
  ·cases h
  injection h with h;subst h;exact⟨h8,by unfold EB;simp only[List.length_nil];omega⟩
 split at h
 ·split at h
  ·cases h
  rename_i h9;injection h with h;subst h;have ht:=MZ hv (AK s.files a p).1;have hl:=Jq (AU s.files (AK s.files a p).1).target;refine⟨by simp only;omega,?_⟩;unfold EB;simp only[List.length_append]
  have:(8 - lk) * 200=(8 - (lk+1)) * 200+200:=by
   rw[show 8 - lk=(8 - (lk+1))+1 by omega,Nat.add_mul]
  omega
 injection h with h;subst h;exact⟨h8,by unfold EB;simp only;omega⟩
theorem YE(fl:Bool):∀(k k':Nat) (σ:Lk),σ.links≤8→EB σ≤k→EB σ≤k'→Fj s fl k σ=Fj s fl k' σ:=by
 intro k
 induction k with
 |zero=>
   intro k' σ h8 h h'
   have he:σ.ps=[]:=by
    unfold EB at h;exact DC (by omega)
   cases k' with
   |zero=>rfl
   |succ k'=>unfold Fj;rw[he]
 |succ k ih=>
   intro k' σ h8 h h'
   cases hps:σ.ps with
   |nil=>cases k'<;>(unfold Fj;rw[hps])
   |cons p ps=>
     have hm:EB σ=(8 - σ.links) * 200+(ps.length+1):=by unfold EB;rw[hps];rfl
     cases k' with
     |zero=>rw[hm]at h';omega
     |succ k'=>
       unfold Fj;rw[hps];simp only
       cases hs:CG s fl p ps σ.file σ.links with
       |inl e=>rfl
       |inr τ=>
         simp only;obtain⟨h1,h2⟩:=P7 hv h8 hs;exact ih k' τ h1 (by omega) (by omega)
end
def DX(s:Spc)(fl:Bool)(σ:Lk):Int×Lk:=Fj s fl (EB σ) σ
theorem P8{s:Spc}{fl:Bool}{σ:Lk}(h:σ.ps=[]):DX s fl σ=(0,σ):=by
 unfold DX
 cases EB σ with
 |zero=>rfl
 |succ k=>unfold Fj;rw[h]
theorem Sq{s:Spc}(hv:FlsV s.files){fl:Bool}{σ:Lk}{p:AB}{ps:List AB}(h8:σ.links≤8)(h:σ.ps=p::ps):DX s fl σ=match CG s fl p ps σ.file σ.links with
    | .inl e=>(e,Mn)
    | .inr τ=>DX s fl τ:=by
 have hm:EB σ=((8 - σ.links) * 200+ps.length)+1:=by unfold EB;rw[h];rfl
 unfold DX;rw[hm]
 conv=>lhs;unfold Fj
 rw[h];simp only
 cases hs:CG s fl p ps σ.file σ.links with
 |inl e=>rfl
 |inr τ=>
   simp only;obtain⟨h1,h2⟩:=P7 hv h8 hs;exact YE hv fl _ _ τ h1 (by omega) (Av _)
def Fk(s:Spc)(sl:Bool)(τ:Lk):Fnd:=⟨τ.dir,τ.name,τ.file,τ.ex,sl,if(BV s τ.dir).2=true then(if τ.name=⟨#[]⟩then(BV s τ.dir).1 else Cl (BV s τ.dir).1 τ.name)else⟨#[]⟩⟩
def FC(ps:List AB)(a:A6):Lk:=⟨ps,a,⟨#[]⟩,a,true,0⟩
def BY(s:Spc)(start:A6)(p:AB)(fl:Bool):Fnd×Int:=
 if p=⟨#[]⟩then(Cm,2)else if 128<p.size then(Cm,36)
 else if Al s.files (if Cg p=true then DW s else start)=false then(Cm,2)
 else if(DX s (fl||B2 p) (FC (CN p) (if Cg p=true then DW s else start))).1≠0 then(Cm,(DX s (fl||B2 p) (FC (CN p) (if Cg p=true then DW s else start))).1)
 else if B2 p=true∧(DX s (fl||B2 p) (FC (CN p) (if Cg p=true then DW s else start))).2.ex=true∧Al s.files (DX s (fl||B2 p) (FC (CN p) (if Cg p=true then DW s else start))).2.file=false then(Cm,20)
 else(Fk s (B2 p) (DX s (fl||B2 p) (FC (CN p) (if Cg p=true then DW s else start))).2,0)
end Go.Proofs.YtobclmbkdhbnpaaGreatDoor
namespace Go.Proofs.YtobclmbkdhbnpaaGreatDoor
open Go.RowKit
structure Dsc where
 fd:Int
 file:A6
 flags:Int
structure Prc where
 pid:Int
 ppid:Int
 uid:Int
 euid:Int
 gid:Int
 egid:Int
 auid:Int
 ses:Int
 cwd:A6
 comm:AB
 exe:AB
 opens:List Dsc
 audited:Bool
structure Tab where
 next:Int
 nextS:Int
 ps:List Prc
structure Syst where
 spc:Spc
 tab:Tab
structure Cal where
 num:Int
 a0:Int
 a1:Int
 a2:Int
 a3:Int
 paths:List AB
 args:List AB
structure Res where
 exit:Int
 child:Int
 gone:Int
 items:List Itm
 changes:List DP
structure Wrk where
 s:Syst
 p:Prc
 c:Cal
 found:List Fnd
 r:Res
def YF:Prc:=⟨0,0,0,0,0,0,0,0,(0,0),⟨#[]⟩,⟨#[]⟩,[],false⟩
def D3:Tab:=⟨0,0,[]⟩
def FD:Res:=⟨0,0,0,[],[]⟩
def P9(cwd:A6):Tab:=⟨2,1,[⟨1,0,0,0,0,0,4294967295,4294967295,cwd,⟨#[105,110,105,116]⟩,⟨#[47,105,110,105,116]⟩,[],true⟩]⟩
def Jr(t:Tab)(pid:Int):Option Prc:=t.ps.find? fun p=>decide (p.pid=pid)
def Dh(t:Tab)(pid:Int):Bool:=(Jr t pid).isSome
def At(t:Tab)(pid:Int):Prc:=(Jr t pid).getD YF
def Fl(t:Tab)(p:Prc):Tab:=⟨t.next,t.nextS,t.ps.map fun x=>if x.pid=p.pid then p else x⟩
def PA(t:Tab)(pid:Int):Tab×Int×Int:=
 if Dh t pid=false then(D3,0,3)else if 16≤(t.ps.length:Int)∨t.next=1073741824 then(D3,0,11)
 else(⟨t.next+1,t.nextS,t.ps++[{At t pid with pid:=t.next,ppid:=pid}]⟩,t.next,0)
def YG(pid:Int)(p:Prc):Prc:=if p.ppid=pid then{p with ppid:=1}else p
def Sr(t:Tab)(pid:Int):Tab×Int:=
 if Dh t pid=false then(D3,3)else if pid=1 then(D3,1)
 else(⟨t.next,t.nextS,(t.ps.filter fun p=>decide (p.pid≠pid)).map (YG pid)⟩,0)
def Hf(priv:Bool)(real eff n:Int):Int×Int×Int:=if priv=true then(n,n,0)else if n=real∨n=eff then(real,n,0)else(0,0,1)
def PB(n:Int):Bool:=decide (0≤n)&&decide (n<4294967295)
def YH(t:Tab)(pid u:Int):Tab×Int:=
 if Dh t pid=false then(D3,3)else if PB u=false then(D3,22)
 else if(Hf (decide ((At t pid).euid=0)) (At t pid).uid (At t pid).euid u).2.2≠0 then(D3,(Hf (decide ((At t pid).euid=0)) (At t pid).uid (At t pid).euid u).2.2)
 else(Fl t {At t pid with uid:=(Hf (decide ((At t pid).euid=0)) (At t pid).uid (At t pid).euid u).1,euid:=(Hf (decide ((At t pid).euid=0)) (At t pid).uid (At t pid).euid u).2.1},0)
def YJ(t:Tab)(pid u:Int):Tab×Int:=
 if Dh t pid=false then(D3,3)else if PB u=false then(D3,22)
 else if(Hf (decide ((At t pid).euid=0)) (At t pid).gid (At t pid).egid u).2.2≠0 then(D3,(Hf (decide ((At t pid).euid=0)) (At t pid).gid (At t pid).egid u).2.2)
 else(Fl t {At t pid with gid:=(Hf (decide ((At t pid).euid=0)) (At t pid).gid (At t pid).egid u).1,egid:=(Hf (decide ((At t pid).euid=0)) (At t pid).gid (At t pid).egid u).2.1},0)
def YK(t:Tab)(pid auid:Int):Tab×Int:=
 if Dh t pid=false then(D3,3)else if PB auid=false then(D3,22)
 else if(At t pid).auid≠4294967295∧(At t pid).euid≠0 then(D3,1)else if t.nextS=1073741824 then(D3,11)
 else(⟨t.next,t.nextS+1,(Fl t {At t pid with auid:=auid,ses:=t.nextS}).ps⟩,0)
def Dt:Nat→List Dsc→Nat
 |k,[]=>k
 |k,d::r=>if d.fd=(k:Int)then Dt (k+1) r else k
def Js(l:List Dsc)(fd:Nat)(x:Dsc):List Dsc:=l.take fd++x::l.drop fd
def EM(t:Tab)(pid:Int)(a:A6)(flags:Int):Tab×Int×Int:=
 if Dh t pid=false then(D3,0,3)else if 8≤((At t pid).opens.length:Int)then(D3,0,24)
 else(Fl t {At t pid with opens:=Js (At t pid).opens (Dt 0 (At t pid).opens) ⟨(Dt 0 (At t pid).opens:Nat),a,flags⟩},(Dt 0 (At t pid).opens:Nat),0)
def YL(t:Tab)(pid fd:Int):Tab×Int:=
 if Dh t pid=false then(D3,3)else if(((At t pid).opens.filter fun d=>decide (d.fd≠fd)).length:Int)=((At t pid).opens.length:Int)then(D3,9)
 else(Fl t {At t pid with opens:=(At t pid).opens.filter fun d=>decide (d.fd≠fd)},0)
def YM(t:Tab)(pid:Int)(dir:A6):Tab×Int:=if Dh t pid=false then(D3,3)else(Fl t {At t pid with cwd:=dir},0)
def YN(t:Tab)(pid:Int)(exe comm:AB):Tab×Int:=if Dh t pid=false then(D3,3)else(Fl t {At t pid with exe:=exe,comm:=comm},0)
def YO(t:Tab)(pid target:Int)(ends:Bool):Tab×Int:=
 if Dh t pid=false then(D3,3)else if Dh t target=false then(D3,3)
 else if target=1∨(At t pid).euid≠0∧(At t pid).euid≠(At t target).uid then(D3,1)
 else if ends=true then Sr t target else(t,0)
def JG:List (AB×Int×Int×Int×Int):=[(⟨#[102,111,114,107]⟩,0,0,0,0),
 (⟨#[101,120,101,99,118,101]⟩,0,1,0,4),
 (⟨#[101,120,105,116]⟩,1,0,0,0),
 (⟨#[115,101,116,117,105,100]⟩,1,0,0,0),
 (⟨#[115,101,116,103,105,100]⟩,1,0,0,0),
 (⟨#[108,111,103,105,110]⟩,1,0,0,0),
 (⟨#[111,112,101,110]⟩,2,1,0,0),
 (⟨#[99,108,111,115,101]⟩,1,0,0,0),
 (⟨#[108,105,110,107]⟩,0,2,0,0),
 (⟨#[115,121,109,108,105,110,107]⟩,0,1,1,1),
 (⟨#[117,110,108,105,110,107]⟩,0,1,0,0),
 (⟨#[109,107,100,105,114]⟩,1,1,0,0),
 (⟨#[114,109,100,105,114]⟩,0,1,0,0),
 (⟨#[114,101,110,97,109,101]⟩,0,2,0,0),
 (⟨#[99,104,109,111,100]⟩,1,1,0,0),
 (⟨#[99,104,111,119,110]⟩,2,1,0,0),
 (⟨#[99,104,100,105,114]⟩,0,1,0,0),
 (⟨#[109,111,117,110,116]⟩,1,1,0,0),
 (⟨#[117,109,111,117,110,116]⟩,1,0,0,0),
 (⟨#[99,111,110,110,101,99,116]⟩,1,0,1,1),
 (⟨#[107,105,108,108]⟩,2,0,0,0),
 (⟨#[116,114,117,110,99,97,116,101]⟩,1,1,0,0)]
def Dc(n:Int):AB×Int×Int×Int×Int:=if n<0∨22≤n then(⟨#[]⟩,0,0,0,0)else(JG[n.toNat]?).getD (⟨#[]⟩,0,0,0,0)
def Jt(c:Cal):List Int:=[c.a0,c.a1,c.a2,c.a3]
def BZ(c:Cal):Int:=
 if(Dc c.num).1=⟨#[]⟩then 100 else if(((Jt c).drop (Dc c.num).2.1.toNat).any fun x=>decide (x≠0))=true then 101
 else if(c.paths.length:Int)≠(Dc c.num).2.2.1∨(c.args.length:Int)<(Dc c.num).2.2.2.1∨(Dc c.num).2.2.2.2<(c.args.length:Int)then 101
 else if(c.paths.any fun p=>decide (128<p.size))=true then 102 else if(c.args.any fun p=>decide (64<p.size))=true then 102 else 0
def EN(n:Nod)(euid egid:Int):Int:=
 if euid=n.uid then FY .i64 (Lw .i64 n.mode 6) 7 else if egid=n.gid then FY .i64 (Lw .i64 n.mode 3) 7 else FY .i64 n.mode 7
def EC(n:Nod)(euid egid want:Int):Bool:=
 if want<0∨7<want then false
 else if euid=0 then decide (FY .i64 want 1=0)||decide (n.kind=2)||decide (FY .i64 n.mode 73≠0)
 else decide (FY .i64 (EN n euid egid) want=want)
def Br(a f:Int):Bool:=decide (FY .i64 a f≠0)
def CJ(c:Cal):List Int:=
 if c.num=1 then[1]else if c.num=6 then[(if Br c.a0 1=true then 4 else 0)+(if Br c.a0 22=true then 2 else 0)]
 else if c.num=8 then[8,2]else if c.num=13 then[2,2]else if c.num=14∨c.num=15∨c.num=17 then[8]else if c.num=16 then[4]else[2]
def CK(c:Cal):Bool:=
 if c.num=6 then decide (FY .i64 c.a0 32=0)else decide (c.num=1∨c.num=14∨c.num=15∨c.num=16∨c.num=17∨c.num=21)
def LQ(n:Int):Bool:=decide (0≤n)&&decide (n≤511)
def Ju(c:Cal):AB:=c.args.headD ⟨#[]⟩
def Cy(p:Prc)(c:Cal):Int:=
 if c.num=6 then(if c.a0<0∨63<c.a0∨FY .i64 c.a0 3=0∨LQ c.a1=false then 22 else if 8≤(p.opens.length:Int)then 24 else 0)
 else if c.num=9 then(if Ju c=⟨#[]⟩then 2 else if(Ju c).data.toList.any (fun b=>decide (b=0))=true then 22 else 0)
 else if c.num=11∨c.num=14 then(if LQ c.a0=false then 22 else 0)
 else if c.num=15 then(if c.a0<0∨4294967295<c.a0∨c.a1<0∨4294967295<c.a1 then 22 else 0)
 else if c.num=17 then(if p.euid≠0 then 1 else 0)
 else if c.num=21 then(if c.a0<0 then 22 else 0)else 0
def LR(s:Spc)(given:AB)(perm:Int)(f:Fnd):Itm:=
 ⟨given,f.path,f.dir,f.name,f.file,1,(AU s.files f.file).kind,(AU s.files f.file).mode,(AU s.files f.file).uid,(AU s.files f.file).gid,perm⟩
def EO(given:AB)(perm:Int):Itm:=⟨given,⟨#[]⟩,(0,0),⟨#[]⟩,(0,0),1,0,0,0,0,perm⟩
def E4(s:Spc)(cwd:A6)(fl:Bool)(x:List Itm×List Fnd×Int)(g:AB×Int):List Itm×List Fnd×Int:=
 if x.2.2=0 then
  (if(BY s cwd g.1 fl).2=0 then(x.1++[LR s g.1 g.2 (BY s cwd g.1 fl).1],x.2.1++[(BY s cwd g.1 fl).1],0)else(x.1++[EO g.1 g.2],x.2.1++[(BY s cwd g.1 fl).1],(BY s cwd g.1 fl).2))
 else(x.1++[EO g.1 g.2],x.2.1++[Cm],x.2.2)
def Gj(s:Spc)(cwd:A6)(fl:Bool)(l:List (AB×Int))(e:Int):List Itm×List Fnd×Int:=l.foldl (E4 s cwd fl) ([],[],e)
def Ar(w:Wrk)(i:Nat):Fnd:=(w.found[i]?).getD Cm
def DJ(w:Wrk)(a:A6)(want:Int):Bool:=EC (AU w.s.spc.files a) w.p.euid w.p.egid want
def Gk(w:Wrk)(i:Nat):Bool:=Al w.s.spc.files (Ar w i).file
def Gl(w:Wrk)(a:A6):Bool:=(Bv w.s.spc a).isSome||w.s.tab.ps.any fun p=>decide (p.cwd=a)
def Bu(w:Wrk)(R:Df):Wrk×Int:=if R.2.2=0 then({w with s:=⟨⟨R.1,w.s.spc.mounts⟩,w.s.tab⟩,r:={w.r with changes:=R.2.1}},0)else(w,R.2.2)
def Dd(w:Wrk)(R:Tab×Int):Wrk×Int:=if R.2=0 then({w with s:=⟨w.s.spc,R.1⟩},0)else(w,R.2)
def Ss(n:Nod)(a:A6)(x:Itm):Itm:={x with role:=2,file:=a,kind:=n.kind,mode:=n.mode,uid:=n.uid,gid:=n.gid}
def GF(w:Wrk)(i:Nat)(a:A6):Wrk:={w with r:={w.r with items:=w.r.items.modify i (Ss (AU w.s.spc.files a) a)}}
def YP:DP:=((0,0),⟨#[]⟩,(0,0),(0,0))
def Su(l:List DP):A6:=(l.headD YP).2.2.2
def LS(w:Wrk)(n:Nod):Nod:={n with uid:=w.p.euid,gid:=w.p.egid}
def Du(w:Wrk)(i:Nat)(n:Nod):Df:=DU w.s.spc.files (Ar w i).dir (Ar w i).name (LS w n)
def CW(w:Wrk)(i:Nat)(n:Nod):Wrk×Int:=
 if(Du w i n).2.2=0 then(GF (Bu w (Du w i n)).1 i (Su (Du w i n).2.1),0)else(w,(Du w i n).2.2)
def Es(w:Wrk)(i:Nat)(role:Int):Wrk:={w with r:={w.r with items:=w.r.items.modify i fun x=>{x with role:=role}}}
def Sv(w:Wrk)(n:Int):Wrk:={w with r:={w.r with exit:=n}}
def Et(mode:Int):Nod:=⟨0,1,mode,0,0,0,⟨#[]⟩,[]⟩
def Gm(w:Wrk)(a:A6):Wrk×Int:=Dd (Sv w (EM w.s.tab w.p.pid a w.c.a0).2.1) ((EM w.s.tab w.p.pid a w.c.a0).1,(EM w.s.tab w.p.pid a w.c.a0).2.2)
def Gn(a:Int):Int:=(if Br a 1=true then 4 else 0)+(if Br a 18=true then 2 else 0)
def C4(w:Wrk):Wrk×Int:=
 if(Ar w 0).ex=true then
  (if Br w.c.a0 4=true∧Br w.c.a0 8=true then(w,17)
  else if(AU w.s.spc.files (Ar w 0).file).kind=3 then(w,40)
  else if(AU w.s.spc.files (Ar w 0).file).kind=2∧Br w.c.a0 22=true then(w,21)
  else if DJ w (Ar w 0).file (Gn w.c.a0)=false then(w,13)
  else Gm w (Ar w 0).file)
 else
  (if Br w.c.a0 4=false then(w,2)else if(Ar w 0).slash=true then(w,21)else if DJ w (Ar w 0).dir 2=false then(w,13)
  else if(CW w 0 (Et w.c.a1)).2≠0 then CW w 0 (Et w.c.a1)
  else Gm (CW w 0 (Et w.c.a1)).1 (Su (CW w 0 (Et w.c.a1)).1.r.changes))
def YQ(w:Wrk):Wrk×Int:=
 if(Ar w 0).ex=false then(w,2)else if Gk w 0=true then(w,1)else if(Ar w 1).ex=true then(w,17)else if(Ar w 1).slash=true then(w,2)
 else if(Ar w 0).file.1≠(Ar w 1).dir.1 then(w,18)else if DJ w (Ar w 1).dir 2=false then(w,13)
 else if(DS w.s.spc.files (Ar w 1).dir (Ar w 1).name (Ar w 0).file).2.2≠0 then(w,(DS w.s.spc.files (Ar w 1).dir (Ar w 1).name (Ar w 0).file).2.2)
 else(GF (Bu w (DS w.s.spc.files (Ar w 1).dir (Ar w 1).name (Ar w 0).file)).1 1 (Ar w 0).file,0)
def Sw(w:Wrk)(R:Df):Wrk×Int:=if R.2.2≠0 then(w,R.2.2)else(Es (Bu w R).1 0 3,0)
def YR(w:Wrk):Wrk×Int:=
 if(Ar w 0).ex=false then(w,2)
 else if w.c.num=10 then
  (if(Ar w 0).name=⟨#[]⟩∨Gk w 0=true then(w,21)else if DJ w (Ar w 0).dir 2=false then(w,13)
  else Sw w (EV w.s.spc.files (Ar w 0).dir (Ar w 0).name))
 else
  (if(Ar w 0).name=⟨#[]⟩then(w,16)else if Gk w 0=false then(w,20)
  else if Gl w (AK w.s.spc.files (Ar w 0).dir (Ar w 0).name).1=true then(w,16)else if DJ w (Ar w 0).dir 2=false then(w,13)
  else Sw w (X5 w.s.spc.files (Ar w 0).dir (Ar w 0).name))
def GG(w:Wrk)(R:Df)(x:A6):Wrk×Int:=
 if R.2.2≠0 then(w,R.2.2)else if 0<(R.2.1.length:Int)then(GF (Es (Bu w R).1 0 3) 1 x,0)else((Bu w R).1,0)
def Dv(w:Wrk):Wrk×Int:=
 if(Ar w 0).ex=false then(w,2)else if(Ar w 0).name=⟨#[]⟩∨(Ar w 1).name=⟨#[]⟩then(w,16)
 else if(Ar w 1).slash=true∧Gk w 0=false then(w,20)else if(Ar w 0).dir.1≠(Ar w 1).dir.1 then(w,18)
 else if DJ w (Ar w 0).dir 2=false∨DJ w (Ar w 1).dir 2=false then(w,13)
 else if(AK w.s.spc.files (Ar w 1).dir (Ar w 1).name).2=0∧(AK w.s.spc.files (Ar w 1).dir (Ar w 1).name).1≠(AK w.s.spc.files (Ar w 0).dir (Ar w 0).name).1∧Al w.s.spc.files (AK w.s.spc.files (Ar w 1).dir (Ar w 1).name).1=true∧Gl w (AK w.s.spc.files (Ar w 1).dir (Ar w 1).name).1=true then(w,16)
 else GG w (EL w.s.spc.files (Ar w 0).dir (Ar w 0).name (Ar w 1).dir (Ar w 1).name) (AK w.s.spc.files (Ar w 0).dir (Ar w 0).name).1
def Sx(w:Wrk)(R:AR×Int):Wrk×Int:=Bu w (R.1,[],R.2)
def YS(w:Wrk):Wrk×Int:=
 if(Ar w 0).ex=false then(w,2)
 else if w.c.num=14 then
  (if w.p.euid≠0∧w.p.euid≠(AU w.s.spc.files (Ar w 0).file).uid then(w,1)
  else Sx w (Rx w.s.spc.files (Ar w 0).file w.c.a0 (AU w.s.spc.files (Ar w 0).file).uid (AU w.s.spc.files (Ar w 0).file).gid))
 else if w.p.euid≠0 then(w,1)else Sx w (Rx w.s.spc.files (Ar w 0).file (AU w.s.spc.files (Ar w 0).file).mode w.c.a0 w.c.a1)
def YT(w:Wrk)(R:Spc×Int):Wrk×Int:=if R.2=0 then({w with s:=⟨R.1,w.s.tab⟩},0)else(w,R.2)
def YU(w:Wrk):Wrk×Int:=
 if(Ar w 0).ex=false then(w,2)
 else if w.c.num=1 then(if Gk w 0=true∨DJ w (Ar w 0).file 1=false then(w,13)else Dd w (YN w.s.tab w.p.pid (Ar w 0).path (Ar w 0).name))
 else if w.c.num=16 then(if Gk w 0=false then(w,20)else if DJ w (Ar w 0).file 1=false then(w,13)else Dd w (YM w.s.tab w.p.pid (Ar w 0).file))
 else if w.c.num=17 then(if Gk w 0=false then(w,20)else YT w (XS w.s.spc w.c.a0 (Ar w 0).file))
 else if Gk w 0=true then(w,21)else if DJ w (Ar w 0).file 2=false then(w,13)else(w,0)
def YV(t:AB):Nod:=⟨0,3,511,0,0,0,t,[]⟩
def YW(mode:Int):Nod:=⟨0,2,mode,0,0,0,⟨#[]⟩,[]⟩
def YX(w:Wrk):Wrk×Int:=
 if(Ar w 0).ex=true then(w,17)else if(Ar w 0).slash=true∧w.c.num=9 then(w,2)else if DJ w (Ar w 0).dir 2=false then(w,13)
 else if w.c.num=9 then CW w 0 (YV (Ju w.c))else CW w 0 (YW w.c.a0)
def YY(t:Tab)(dev:Int):Bool:=t.ps.any fun p=>decide (p.cwd.1=dev)||p.opens.any fun d=>decide (d.file.1=dev)
def YZ(w:Wrk)(R:Spc×Int):Wrk×Int:=if R.2=0 then({w with s:=⟨R.1,w.s.tab⟩,r:={w.r with gone:=w.c.a0}},0)else(w,R.2)
def Ya(w:Wrk):Wrk×Int:=
 if w.p.euid≠0 then(w,1)else if w.c.a0=0∨Bz w.s.spc w.c.a0=false then(w,22)else if YY w.s.tab w.c.a0=true then(w,16)
 else YZ w (XT w.s.spc w.c.a0)
def Yb(w:Wrk)(n:Int):Wrk:={w with r:={w.r with exit:=n,child:=n}}
def Yc(w:Wrk):Wrk×Int:=
 if w.c.num=0 then Dd (Yb w (PA w.s.tab w.p.pid).2.1) ((PA w.s.tab w.p.pid).1,(PA w.s.tab w.p.pid).2.2)
 else if w.c.num=2 then Dd w (Sr w.s.tab w.p.pid)
 else if w.c.num=3 then Dd w (YH w.s.tab w.p.pid w.c.a0)
 else if w.c.num=4 then Dd w (YJ w.s.tab w.p.pid w.c.a0)
 else if w.c.num=5 then Dd w (YK w.s.tab w.p.pid w.c.a0)
 else if w.c.num=7 then Dd w (YL w.s.tab w.p.pid w.c.a0)
 else if w.c.num=18 then Ya w
 else if w.c.num=19 then(if w.c.a0<0∨65535<w.c.a0∨Ju w.c=⟨#[]⟩then(w,22)else if w.c.a0=0 then(w,111)else(w,0))
 else if w.c.a1<0∨64<w.c.a1 then(w,22)else Dd w (YO w.s.tab w.p.pid w.c.a0 (decide (w.c.a1≠0)))
def D4(w:Wrk):Wrk×Int:=
 if w.c.num=6 then C4 w else if w.c.num=8 then YQ w else if w.c.num=10∨w.c.num=12 then YR w else if w.c.num=13 then Dv w
 else if w.c.num=14∨w.c.num=15 then YS w else if w.c.num=1∨w.c.num=16∨w.c.num=17∨w.c.num=21 then YU w
 else if w.c.num=9∨w.c.num=11 then YX w else Yc w
def FT(s:Syst)(p:Prc)(c:Cal):List Itm×List Fnd×Int:=Gj s.spc p.cwd (CK c) (c.paths.zip (CJ c)) (Cy p c)
def Ec(s:Syst)(pid:Int)(c:Cal):Wrk:=⟨s,At s.tab pid,c,(FT s (At s.tab pid) c).2.1,{FD with items:=(FT s (At s.tab pid) c).1}⟩
def FE(n:Int):Syst×Int:=if(E8 n).2≠0 then(⟨⟨[],[]⟩,D3⟩,(E8 n).2)else(⟨⟨(E8 n).1,[]⟩,P9 (0,1)⟩,0)
def Hg(d:Dsc):List AV:=[.v (.int .i64 d.fd), .v (.int .i64 d.file.1), .v (.int .i64 d.file.2), .v (.int .i64 d.flags)]
def BW(p:Prc):List AV:=[.v (.int .i64 p.pid), .v (.int .i64 p.ppid), .v (.int .i64 p.uid), .v (.int .i64 p.euid), .v (.int .i64 p.gid), .v (.int .i64 p.egid), .v (.int .i64 p.auid), .v (.int .i64 p.ses), .v (.int .i64 p.cwd.1), .v (.int .i64 p.cwd.2), .v (.string p.comm), .v (.string p.exe), .sl 4 (p.opens.map Hg) none, .v (.bool p.audited)]
def C0(t:Tab):List AV:=[.v (.int .i64 t.next), .v (.int .i64 t.nextS), .sl 14 (t.ps.map BW) none]
def CB(s:Syst):List AV:=[.sl 2 (s.spc.files.map Bp) none, .sl 3 (s.spc.mounts.map Cu) none, .v (.int .i64 s.tab.next), .v (.int .i64 s.tab.nextS), .sl 14 (s.tab.ps.map BW) none]
def Eu(s:AB):List AV:=[.v (.string s)]
def E5(c:Cal):List AV:=[.v (.int .i64 c.num), .v (.int .i64 c.a0), .v (.int .i64 c.a1), .v (.int .i64 c.a2), .v (.int .i64 c.a3), .sl 1 (c.paths.map Eu) none, .sl 1 (c.args.map Eu) none]
def Bm(y:Itm):List AV:=[.v (.string y.given), .v (.string y.path), .v (.int .i64 y.dir.1), .v (.int .i64 y.dir.2), .v (.string y.name), .v (.int .i64 y.file.1), .v (.int .i64 y.file.2), .v (.int .i64 y.role), .v (.int .i64 y.kind), .v (.int .i64 y.mode), .v (.int .i64 y.uid), .v (.int .i64 y.gid), .v (.int .i64 y.perm)]
def Ed(r:Res):List AV:=[.v (.int .i64 r.exit), .v (.int .i64 r.child), .v (.int .i64 r.gone), .sl 13 (r.items.map Bm) none, .sl 7 (r.changes.map C2) none]
def Ch(w:Wrk)(fnd its:AV):List AV:=
 [.sl 2 (w.s.spc.files.map Bp) none, .sl 3 (w.s.spc.mounts.map Cu) none, .v (.int .i64 w.s.tab.next), .v (.int .i64 w.s.tab.nextS), .sl 14 (w.s.tab.ps.map BW) none,
 .v (.int .i64 w.p.pid), .v (.int .i64 w.p.ppid), .v (.int .i64 w.p.uid), .v (.int .i64 w.p.euid), .v (.int .i64 w.p.gid), .v (.int .i64 w.p.egid), .v (.int .i64 w.p.auid), .v (.int .i64 w.p.ses), .v (.int .i64 w.p.cwd.1), .v (.int .i64 w.p.cwd.2), .v (.string w.p.comm), .v (.string w.p.exe), .sl 4 (w.p.opens.map Hg) none, .v (.bool w.p.audited),
 .v (.int .i64 w.c.num), .v (.int .i64 w.c.a0), .v (.int .i64 w.c.a1), .v (.int .i64 w.c.a2), .v (.int .i64 w.c.a3), .sl 1 (w.c.paths.map Eu) none, .sl 1 (w.c.args.map Eu) none,fnd,
 .v (.int .i64 w.r.exit), .v (.int .i64 w.r.child), .v (.int .i64 w.r.gone),its, .sl 7 (w.r.changes.map C2) none]
structure TabB(t:Tab):Prop where
 few:t.ps.length≤16
 opens:∀p∈t.ps,p.opens.length≤8
 next:t.next≤1073741824
 nextS:t.nextS≤1073741824
structure RowF(sz:Nat){α:Type}(F:α→List AV):Prop where
 len:∀x,(F x).length=sz
 flat:∀x,∀y∈F x,(∃v,y= .v v)∨∃s r,y= .sl s r none
 pos:0<sz
def LB(sz:Nat){α:Type}(F:α→List AV)(l:List α)(cap:Nat):List AV:=C3 sz cap (l.map F)
section
variable {α:Type}{sz:Nat}{F:α→List AV}(hF:RowF sz F)
include hF
theorem JH(l:List α):∀r∈l.map F,r.length=sz:=by
 intro r hr;obtain⟨x,_,rfl⟩:=List.mem_map.1 hr;exact hF.len x
theorem PC{l:List α}{cap:Nat}(h:l.length≤cap):(LB sz F l cap).length=cap * sz:=O4 (JH hF l) (by simpa using h)
theorem Yd{g:AV→AV}(hv:∀x,g (.v x)= .v x)(hs:∀sz rows,g (.sl sz rows none)= .sl sz rows none)(x:α):(F x).map g=F x:=by
 conv=>rhs;rw[←List.map_id (F x)]
 apply List.map_congr_left;intro y hy;rcases hF.flat x y hy with⟨v,rfl⟩|⟨s,r,rfl⟩
 ·exact hv v
 exact hs s r
theorem PD{g:AV→AV}(hany:g .any= .any)(hv:∀x,g (.v x)= .v x)(hs:∀sz rows,g (.sl sz rows none)= .sl sz rows none)(l:List α)(cap:Nat):(LB sz F l cap).map g=LB sz F l cap:=by
 unfold LB;rw[Kx g hany,List.map_map]
 congr 1
 apply List.map_congr_left;intro x _;exact Yd hF hv hs x
theorem FU(g:Nat→Option Nat)(l:List α)(cap:Nat):Cs g (LB sz F l cap)=LB sz F l cap:=by
 rw[Kv];exact PD hF rfl (fun _=>rfl) (fun _ _=>rfl) l cap
theorem GH(g:Nat→Option Nat)(l:List α)(cap:Nat):El g (LB sz F l cap)=LB sz F l cap:=by
 rw[ML];exact PD hF rfl (fun _=>rfl) (fun _ _=>rfl) l cap
theorem Ye(g:Nat→Option (List AV))(l:List α)(cap:Nat):FO g (LB sz F l cap)=LB sz F l cap:=by
 rw[Kw];exact PD hF rfl (fun _=>rfl) (fun _ _=>rfl) l cap
theorem Yf{n m:Nat}(x:α):Ac n m (F x)=true:=by
 refine OG.2 fun y hy=>?_;rcases hF.flat x y hy with⟨v,rfl⟩|⟨s,r,rfl⟩<;>rfl
theorem Bi{n m:Nat}{l:List α}{cap:Nat}:Ac n m (LB sz F l cap)=true:=by
 refine OH fun r hr=>?_;obtain⟨x,_,rfl⟩:=List.mem_map.1 hr;exact Yf hF x
theorem Yg{n:Nat}{bx:List (List AV)}{k j:Nat}{l:List α}{cap:Nat}(hn:n≤j)(hj:bx[j]?=some (LB sz F l cap)):D7 n bx (k+1) j=some (LB sz F l cap):=by
 have:Nat.blt j n=false:=by rw[←Bool.not_eq_true,Nat.blt_eq];omega
 simp only[D7,this,hj,Option.map_some,Ye hF]
theorem PF{n:Nat}{bx:List (List AV)}{k j:Nat}{l:List α}{cap cap0:Nat}(hn:Nat.ble n j=true)(hj:bx[j]?=some (LB sz F l cap))(hc:l.length≤cap):EH n (D7 n bx (k+1)) (.bs j 0 sz l.length cap0)= .sl sz (l.map F) none:=
 S8 (BK hn) (Yg hF (BK hn) hj) (JH hF l) (by simp) (by simpa using hc)
theorem Yh{l:List α}{cap i k:Nat}{x:α}{y:AV}(h:l[i]?=some x)(hx:(F x)[k]?=some y):(LB sz F l cap)[0+i * sz+k]?=some y:=Kz (JH hF l) (by rw[List.getElem?_map,h];rfl) hx
theorem Hh{l:List α}{cap i k:Nat}{x x':α}{cs:List AV}(h:l[i]?=some x)(hs:SetAt (F x) k cs (F x'))(hne:cs≠[]):SetAt (LB sz F l cap) (0+i * sz+k) cs (LB sz F (l.set i x') cap):=by
 have key:=OL (cap:=cap) (JH hF l) (by rw[List.getElem?_map,h];rfl) hs hne;rw[←List.map_set]at key;exact key
theorem Sy{l:List α}{cap i:Nat}{x x':α}(h:l[i]?=some x):SetAt (LB sz F l cap) (0+i * sz) (F x') (LB sz F (l.set i x') cap):=by
 have hne:F x'≠[]:=fun e=>by have h1:=hF.len x';have h2:=hF.pos;rw[e]at h1;simp at h1;omega
 have hs:SetAt (F x) 0 (F x') (F x'):=by
  have:=SetAt.whole (xs:=F x') (l:=F x) (b:=[]) (by rw[hF.len,hF.len])
  simpa using this
 have key:=Hh hF (cap:=cap) h hs hne
 simpa using key
theorem Sz(x:α)(cap:Nat):F x++List.replicate ((cap - 1) * sz) .any=LB sz F [x] cap:=by
 have _:=hF;unfold LB C3;simp
theorem T0(acc:List α)(x:α)(cap0 cap:Nat):((LB sz F acc cap0).drop 0).take (acc.length * sz)++F x++List.replicate ((cap - (acc.length+1)) * sz) .any=LB sz F (acc++[x]) cap:=by
 unfold LB;rw[Qu (JH hF acc) (by simp),List.map_append];rfl
theorem T1{acc:List α}{x:α}{cap:Nat}{row:List AV}(hs:SetAt (LB sz F acc cap) (0+acc.length * sz) (F x) row)(hc:acc.length+1≤cap):row=LB sz F (acc++[x]) cap:=by
 have key:=Qt (rows:=acc.map F) (sz:=sz) (cap:=cap) (r:=F x) (row':=row) (JH hF acc) (hF.len x) hF.pos (by simpa using hc) (by rw[List.length_map];exact hs);rw[key];unfold LB;rw[List.map_append];rfl
end
theorem Dw:RowF 14 BW:=⟨fun _=>rfl,fun x y h=>by simp[BW]at h;rcases h with h|h|h|h|h|h|h|h|h|h|h|h|h|h<;>first|exact .inl ⟨_,h⟩|exact .inr ⟨_,_,h⟩,by decide⟩
theorem B3:RowF 13 Bm:=⟨fun _=>rfl,fun x y h=>by simp[Bm]at h;rcases h with h|h|h|h|h|h|h|h|h|h|h|h|h<;>exact .inl ⟨_,h⟩,by decide⟩
theorem Cq{f:Nat→Option AV}{bx:List (List AV)}{tk:List (Nat×Nat×List (List AV))}{l:List (Nat×AV)}{N:Dim}(n m:Nat){bx':List (List AV)}{tk':List (Nat×Nat×List (List AV))}(hbp:Ai n m bx'=true)(hn:Nat.ble N.ni n=true:=by rfl)(hb:bx.take n=bx':=by rfl)(ht:tk.take m=tk':=by rfl)(hl:Sub n m f l:=by repeat (first|exact Sub.nil|refine Sub.cons _ _ _ rfl rfl ?_|refine Sub.any _ _ ?_|refine Sub.sl _ _ _ _ _ rfl ?_|refine Sub.slnil _ _ _ rfl ?_|(apply Sub.of;(focus exact rfl);(focus exact LeA.of_eq (vb (by simp[*])));(focus exact rfl)))):Weak N ⟨f,⟨bx,tk⟩⟩ ⟨look l,⟨bx',tk'⟩⟩:=B4 n m hn hb ht hbp hl
def DK(bx:List (List AV))(g:Nat→Option Nat):List Nat→List (List AV)→List (List AV)
 |[],bc=>bx++bc.map (Cs g)
 |i::is,[]=>DK bx g is []
 |i::is,r::bc=>DK (bx.set i (Cs g r)) g is bc
theorem T2{g:Nat→Option Nat}:∀(is:List Nat) (bx bc:List (List AV)),is.length≤bc.length→(DK bx g is bc).length=bx.length+(bc.length - is.length)
 |[],bx,bc,_=>by simp[DK]
 |i::is,bx,[],h=>by simp at h
 |i::is,bx,r::bc,h=>by
   unfold DK;rw[T2 is _ bc (by simpa using h)];simp
theorem Mo{g:Nat→Option Nat}:∀(is:List Nat) (bx bc:List (List AV)) (i:Nat),i∉is→i<bx.length→(DK bx g is bc)[i]?=bx[i]?
 |[],bx,bc,i,_,hi=>by unfold DK;rw[CO hi]
 |j::is,bx,[],i,h,hi=>by
   unfold DK;exact Mo is bx [] i (fun hm=>h (List.mem_cons_of_mem _ hm)) hi
 |j::is,bx,r::bc,i,h,hi=>by
   unfold DK;rw[Mo is _ bc i (fun hm=>h (List.mem_cons_of_mem _ hm)) (by simpa using hi),List.getElem?_set_ne (fun e=>h (by rw[e];exact List.mem_cons_self ..))]
theorem T3{g:Nat→Option Nat}:∀(is:List Nat) (bx bc:List (List AV)) (k i:Nat) (row:List AV),is.Nodup→i<bx.length→is[k]?=some i→bc[k]?=some row→(DK bx g is bc)[i]?=some (Cs g row)
 |[],_,_,_,_,_,_,_,h,_=>by simp at h
 |j::is,bx,[],k,i,row,_,_,_,h=>by simp at h
 |j::is,bx,r::bc,0,i,row,hn,hi,h1,h2=>by
   simp at h1 h2;subst h1 h2;unfold DK;rw[Mo is _ bc j (List.nodup_cons.1 hn).1 (by simpa using hi),List.getElem?_set_self hi]
 |j::is,bx,r::bc,k+1,i,row,hn,hi,h1,h2=>by
   unfold DK;exact T3 is _ bc k i row (List.nodup_cons.1 hn).2 (by simpa using hi) (by simpa using h1) (by simpa using h2)
theorem T4{g:Nat→Option Nat}:∀(is:List Nat) (bx bc:List (List AV)) (k:Nat) (row:List AV),bc[is.length+k]?=some row→(DK bx g is bc)[bx.length+k]?=some (Cs g row)
 |[],bx,bc,k,row,h=>by
   unfold DK;rw[DM (by omega),show bx.length+k - bx.length=k by omega,List.getElem?_map];simp at h;rw[h];rfl
 |j::is,bx,[],k,row,h=>by simp at h
 |j::is,bx,r::bc,k,row,h=>by
   unfold DK;have:=T4 (g:=g) is (bx.set j (Cs g r)) bc k row (by simpa[Nat.add_right_comm]using h)
   simpa using this
theorem PG{bx:List (List AV)}{is:List Nat}{bc:List (List AV)}(hn:is.Nodup)(hi:∀i∈is,i<bx.length)(hl:is.length≤bc.length):Back bx is bc (DK bx (De is bx.length) is bc):=by
 refine⟨T2 is bx bc hl,fun i row h1 h2=>?_,fun k i row h1 h2=>?_,fun k row h=>T4 is bx bc k row h⟩
 ·rw[Mo is bx bc i h1 (Ag.1 h2).1];exact h2
 exact T3 is bx bc k i row hn (hi i (Au h1)) h1 h2
def Di:List AV:=[.v (.int .i64 0), .v (.int .i64 0), .v (.slice none 0 0)]
def Ci(t:Tab)(x:AV):List AV:=[.v (.int .i64 t.next), .v (.int .i64 t.nextS),x]
def DL(f:Prc→Prc)(l:List Prc)(j:Nat):List Prc:=(l.take j).map f++l.drop j
def Ew(p x:Prc):Prc:=if x.pid=p.pid then p else x
theorem Hi(f:Prc→Prc)(l:List Prc)(j:Nat):(DL f l j).length=l.length:=by
 unfold DL;simp;omega
theorem PH{f:Prc→Prc}{l:List Prc}{j:Nat}{x:Prc}(h:l[j]?=some x):(DL f l j)[j]?=some x:=by
 have hl:=(Ag.1 h).1;unfold DL;rw[DM (by simp;omega)];simp only[List.length_map,List.length_take,List.getElem?_drop];rw[show j+(j - min j l.length)=j by omega];exact h
theorem T5{f:Prc→Prc}{l:List Prc}{j:Nat}{x:Prc}(h:l[j]?=some x):(DL f l j).set j (f x)=DL f l (j+1):=by
 obtain⟨hl,e⟩:=Ag.1 h;unfold DL;rw[List.take_add_one,h,List.drop_eq_getElem_cons hl,List.set_append_right _ _ (by simp;omega)];simp only[List.length_map,List.length_take,List.map_append,List.append_assoc];rw[show j - min j l.length=0 by omega];rfl
theorem Yi{f:Prc→Prc}{l:List Prc}{j:Nat}{x:Prc}(h:l[j]?=some x)(hf:f x=x):DL f l j=DL f l (j+1):=by
 rw[←T5 h,hf];have h2:=PH (f:=f) h;obtain⟨h3,h4⟩:=Ag.1 h2;rw[←h4,List.set_getElem_self]
theorem Yj(f:Prc→Prc)(l:List Prc):DL f l l.length=l.map f:=by
 unfold DL;simp
theorem T6{t:Tab}{pid:Int}{p:Prc}(h:Jr t pid=some p):p∈t.ps:=List.mem_of_find?_eq_some h
theorem Yk{t:Tab}(ht:TabB t)(pid:Int):(At t pid).opens.length≤8:=by
 unfold At
 cases h:Jr t pid with
 |none=>exact BC _
 |some p=>exact ht.opens p (T6 h)
theorem Yl{t:Tab}{pid:Int}(h:Dh t pid=true):0<t.ps.length:=by
 unfold Dh at h;obtain⟨p,hp⟩:=Option.isSome_iff_exists.1 h;exact List.length_pos_of_mem (T6 hp)
theorem Ym{bx:List (List AV)}{n:Nat}(hn:bx.length=n)(t:Tab)(cap:Nat):Back bx [] [C0 t,Ci t (.bs 3 0 14 t.ps.length cap),Ci t (.bs 3 0 14 t.ps.length cap),LB 14 BW t.ps cap] (bx++[C0 t,Ci t (.bs (n+3) 0 14 t.ps.length cap),Ci t (.bs (n+3) 0 14 t.ps.length cap),LB 14 BW t.ps cap]):=by
 subst hn;have:=PG (bx:=bx) (is:=[]) (bc:=[C0 t,Ci t (.bs 3 0 14 t.ps.length cap),Ci t (.bs 3 0 14 t.ps.length cap),LB 14 BW t.ps cap]) List.nodup_nil (by simp) (by simp);have e1:Cs (De [] bx.length) (C0 t)=C0 t:=rfl;have e2:Cs (De [] bx.length) (Ci t (.bs 3 0 14 t.ps.length cap))=Ci t (.bs (bx.length+3) 0 14 t.ps.length cap):=by simp[Cs,Ci,EG,De]
 simpa[DK,FU Dw,e1,e2]using this
section
theorem Mp(p:Prc)(hp:p.opens.length≤1000):AFn prog 92 [.agg (BW p)] (fun r=>r= .agg (BW p)):=by
 refine enter Tryz.func92 rfl rfl rfl rfl rfl 0 rfl ?_;refine w_ (b_ (h:=Ak (h:=e_ (w_ (f_ (h:=l_ (h:=?_)))))))
 first|refine A8 rfl (Ei rfl rfl rfl (by simp;omega) (by repeat constructor) ?_)|refine A8 rfl (Ej rfl rfl (by simp;omega) (by repeat constructor) ?_)
 refine f_ (h:=s_ (h:=e_ (w_ (l_ (h:=s_ (h:=e_ (A4 (?_))))))));refine AD ?_;rfl
theorem Yn(t:Tab)(ht:TabB t):AFn prog 93 [.agg (C0 t)] (fun r=>r= .agg (C0 t)):=by
 have hfew:=ht.few;refine enter Tryz.func93 rfl rfl rfl rfl rfl 0 rfl ?_;refine w_ (b_ (h:=Ak (h:=e_ (w_ (f_ (h:=l_ (h:=f_ (h:=l_ (h:=Aa (h:=Ak (h:=s_ (h:=e_ (q_ (w_ (a_ (h:=e_ (Ap (?_))))))))))))))))));refine Ng 2 2 128 14 rfl rfl (by repeat constructor) (by repeat constructor) (by repeat constructor) ?_;refine By (fun m s=>∃j:Nat,j≤t.ps.length∧m=t.ps.length - j∧s=⟨look [(1, .bp 0 0),(2, .bp 1 0),(3, .bp 2 0),(4, .v (.int .i64 (j:Int)))],⟨[C0 t,Di,Ci t (.sl 14 ((t.ps.take j).map BW) (some 0))],[(128,14,(t.ps.take j).map BW)]⟩⟩) (t.ps.length) ((wk 3 1)) (⟨0,BC _,rfl,rfl⟩) ?_;rintro m s ⟨j,hj,rfl,rfl⟩;refine q_ (w_ (m_ (h:=f_ (h:=l_ (h:=n_ (h:=BQ (h:=e_ (?_))))))));refine AA rfl (fun hb1=>?_) (fun hb1=>?_)
 ·have hc1:=bp hb1;obtain⟨hlt,p,hy,hrow,e⟩:=Cp BW hc1;have hop:p.opens.length≤1000:=by have:=ht.opens p (Au hy);omega
  refine AO (q_ (Ap (Bo ([(0,C0 t),(1,Di),(2,Ci t (.sl 14 ((t.ps.take j).map BW) (some 0)))]) 11 (h:=AJ 0 (h:=AF 1 (h:=AJ 2 (h:=AF 3 (h:=AQ 4 (h:=DD 5 (h:=AF 6 (h:=?_)))))))))));refine c_ 7 rfl (AN (Mp p hop) ?_);rintro r rfl;refine o_ (h:=Jc 8 (h:=?_))
  first|refine c_ 9 rfl (Ei rfl rfl rfl (by simp;omega) (by repeat constructor) ?_)|refine c_ 9 rfl (Ej rfl rfl (by simp;omega) (by repeat constructor) ?_)
  refine o_ (h:=AJ 10 (h:=?_));refine BA 11 rfl (B1 rfl rfl rfl rfl rfl rfl (by repeat constructor) (by repeat constructor) ?_);refine o_ (h:=z_ (h:=Ay (t_ (AX (m_ (h:=BB (h:=a_ (h:=AT (?_)))))))));refine AG ?_;refine⟨_,_,?_,⟨j+1,by omega,rfl,rfl⟩,(by rw[e];exact B4 3 1 rfl rfl rfl rfl ((by repeat (first|exact Sub.nil|refine B9 rfl rfl ?_|refine BD ?_|refine BE rfl ?_|refine BF rfl ?_))))⟩;omega
 have hc1:=bp hb1;have e:=D0 BW hj hc1;subst e;rw[List.take_length];refine Ba (Ao (Ao (Bb (t_ (w_ (l_ (h:=s_ (h:=e_ (A4 (?_))))))))));refine AD ?_;rfl
theorem Yo(t:Tab)(ht:TabB t)(h0:0<t.ps.length):ACall prog 93 [.agg (C0 t)] [] (fun r b tk=>tk=[]∧∃cap,t.ps.length≤cap∧r= .agg (Ci t (.bs 3 0 14 t.ps.length cap))∧b=[C0 t,Ci t (.bs 3 0 14 t.ps.length cap),Ci t (.bs 3 0 14 t.ps.length cap),LB 14 BW t.ps cap]):=by
 have hfew:=ht.few;refine enter Tryz.func93 rfl rfl rfl rfl rfl 4 rfl ?_;refine w_ (b_ (h:=Ak (h:=e_ (w_ (f_ (h:=l_ (h:=f_ (h:=l_ (h:=Aa (h:=Ak (h:=s_ (h:=e_ (q_ (w_ (a_ (h:=e_ (Ap (?_))))))))))))))))));refine By (fun m s=>∃(j:Nat) (acc:List Prc),j≤t.ps.length∧m=t.ps.length - j∧t.ps.take j=acc∧((acc=[]∧s=⟨look [(1, .bp 0 0),(2, .bp 1 0),(3, .bp 2 0),(4, .v (.int .i64 (j:Int)))],⟨[C0 t,Di,Ci t (.v (.slice none 0 0))],[]⟩⟩)∨(∃cap,acc.length≤cap∧s=⟨look [(1, .bp 0 0),(2, .bp 1 0),(3, .bp 2 0),(4, .v (.int .i64 (j:Int)))],⟨[C0 t,Di,Ci t (.bs 3 0 14 acc.length cap),LB 14 BW acc cap],[]⟩⟩))) (t.ps.length) ((wk 3 0)) (⟨0,[],BC _,rfl,rfl, .inl ⟨rfl,rfl⟩⟩) ?_;rintro m s ⟨j,acc,hj,rfl,hacc,⟨rfl,rfl⟩|⟨cap,hcp,rfl⟩⟩
 ·skip
  refine q_ (w_ (m_ (h:=f_ (h:=l_ (h:=n_ (h:=BQ (h:=e_ (?_))))))));refine AA rfl (fun hb1=>?_) (fun hb1=>?_)
  ·have hc1:=bp hb1;obtain⟨hlt,p,hy,hrow, -⟩:=Cp BW hc1;have hk:t.ps.take (j+1)=t.ps.take j++[p]:=by rw[List.take_add_one,hy];rfl
   have hop:p.opens.length≤1000:=by have:=ht.opens p (Au hy);omega
   refine AO (q_ (Ap (Bo ([(0,C0 t),(1,Di),(2,Ci t (.v (.slice none 0 0)))]) 11 (h:=AJ 0 (h:=AF 1 (h:=AJ 2 (h:=AF 3 (h:=AQ 4 (h:=DD 5 (h:=AF 6 (h:=?_)))))))))));refine c_ 7 rfl (AN (Mp p hop) ?_);rintro r rfl;refine o_ (h:=Jc 8 (h:=?_));refine c_ 9 rfl (M7 rfl rfl Ha (by omega) (by omega) ?_);rintro cap2 k bx2 hcp hs;rw[show CC (.agg (BW p))++List.replicate ((cap2 - 1) * 14) AV.any=LB 14 BW [p] cap2 from Sz Dw p cap2]at hs;obtain⟨rfl,rfl⟩:k=3∧bx2=[_,_,_,_]:=hs.eq;refine o_ (h:=?_);refine AJ 10 (h:=?_);refine BA 11 rfl (B1 rfl rfl rfl rfl rfl rfl (by repeat constructor) (by repeat constructor) ?_);refine o_ (h:=z_ (h:=Ay (t_ (AX (m_ (h:=BB (h:=a_ (h:=AT (?_)))))))));refine AG ?_;exact⟨t.ps.length - (j+1),_,by omega,⟨j+1,[p],by omega,rfl,(by rw[hk,hacc];rfl), .inr ⟨cap2,hcp,rfl⟩⟩,B4 4 0 rfl rfl rfl (by simp[Ai,Ac,Af,Bi Dw,C0,Ci,Di]) ((by repeat (first|exact Sub.nil|refine B9 rfl rfl ?_|refine BD ?_|refine BE rfl ?_|refine BF rfl ?_)))⟩
  have hc1:=bp hb1;exfalso;have e:=D0 BW hj hc1;rw[e,List.take_length]at hacc;rw[hacc]at h0;exact absurd h0 (by simp)
 skip
 refine q_ (w_ (m_ (h:=f_ (h:=l_ (h:=n_ (h:=BQ (h:=e_ (?_))))))));refine AA rfl (fun hb2=>?_) (fun hb2=>?_)
 ·have hc2:=bp hb2;obtain⟨hlt,p,hy,hrow, -⟩:=Cp BW hc2;have hk:t.ps.take (j+1)=t.ps.take j++[p]:=by rw[List.take_add_one,hy];rfl
  have hop:p.opens.length≤1000:=by have:=ht.opens p (Au hy);omega
  refine AO (q_ (Ap (Bo ([(0,C0 t),(1,Di),(2,Ci t (.bs 3 0 14 acc.length cap))]) 11 (h:=AJ 0 (h:=AF 1 (h:=AJ 2 (h:=AF 3 (h:=AQ 4 (h:=DD 5 (h:=AF 6 (h:=?_)))))))))));refine c_ 7 rfl (AN (Mp p hop) ?_);rintro r rfl;refine o_ (h:=Jc 8 (h:=?_));refine c_ 9 rfl (Ka rfl rfl rfl (by rw[PC Dw hcp];omega) Ha (by omega) (by have:=congrArg List.length hacc;simp at this;omega) ?_ ?_)
  ·rintro hg row2 bx2 hs hb;obtain rfl:=T1 Dw hs hg;obtain rfl:bx2=[_,_,_,_]:=hb.one.2;refine o_ (h:=?_);refine AJ 10 (h:=?_);refine BA 11 rfl (B1 rfl rfl rfl rfl rfl rfl (by repeat constructor) (by repeat constructor) ?_);refine o_ (h:=z_ (h:=Ay (t_ (AX (m_ (h:=BB (h:=a_ (h:=AT (?_)))))))));refine AG ?_
   first|exact⟨t.ps.length - (j+1),_,by omega,⟨j+1,acc++[p],by omega,rfl,(by rw[hk,hacc]), .inr ⟨cap,by simpa using hg,by rw[List.length_append];rfl⟩⟩,B4 4 0 rfl rfl rfl (by simp[Ai,Ac,Af,Bi Dw,C0,Ci,Di]) ((by repeat (first|exact Sub.nil|refine B9 rfl rfl ?_|refine BD ?_|refine BE rfl ?_|refine BF rfl ?_)))⟩|exact⟨t.ps.length - (j+1),_,by omega,⟨j+1,acc++[p],by omega,rfl,(by rw[hk,hacc]), .inr ⟨cap3,by simpa using hcp3,by rw[List.length_append];rfl⟩⟩,E7 [0,1,2,4] (fun i hi=>absurd hi (Nat.not_lt_zero i)) (by decide) (.cons _ _ _ _ _ rfl rfl (.cons _ _ _ _ _ rfl rfl (.cons _ _ _ _ _ rfl rfl (.cons _ _ _ _ _ rfl (GH Dw _ _ _) .nil)))) (by repeat (first|exact SubK.nil|refine SubK.cons _ _ _ _ rfl (AM _) ?_))⟩
  rintro hg cap3 k bx2 hcp3 hs;rw[show((LB 14 BW acc cap).drop 0).take (acc.length * 14)++CC (.agg (BW p))++List.replicate ((cap3 - (acc.length+1)) * 14) AV.any=LB 14 BW (acc++[p]) cap3 from T0 Dw acc p cap cap3]at hs;obtain⟨rfl,rfl⟩:k=4∧bx2=[_,_,_,_,_]:=hs.eq;refine o_ (h:=?_);refine AJ 10 (h:=?_);refine BA 11 rfl (B1 rfl rfl rfl rfl rfl rfl (by repeat constructor) (by repeat constructor) ?_);refine o_ (h:=z_ (h:=Ay (t_ (AX (m_ (h:=BB (h:=a_ (h:=AT (?_)))))))));refine AG ?_
  first|exact⟨t.ps.length - (j+1),_,by omega,⟨j+1,acc++[p],by omega,rfl,(by rw[hk,hacc]), .inr ⟨cap,by simpa using hg,by rw[List.length_append];rfl⟩⟩,B4 4 0 rfl rfl rfl (by simp[Ai,Ac,Af,Bi Dw,C0,Ci,Di]) ((by repeat (first|exact Sub.nil|refine B9 rfl rfl ?_|refine BD ?_|refine BE rfl ?_|refine BF rfl ?_)))⟩|exact⟨t.ps.length - (j+1),_,by omega,⟨j+1,acc++[p],by omega,rfl,(by rw[hk,hacc]), .inr ⟨cap3,by simpa using hcp3,by rw[List.length_append];rfl⟩⟩,E7 [0,1,2,4] (fun i hi=>absurd hi (Nat.not_lt_zero i)) (by decide) (.cons _ _ _ _ _ rfl rfl (.cons _ _ _ _ _ rfl rfl (.cons _ _ _ _ _ rfl rfl (.cons _ _ _ _ _ rfl (GH Dw _ _ _) .nil)))) (by repeat (first|exact SubK.nil|refine SubK.cons _ _ _ _ rfl (AM _) ?_))⟩
 have hc2:=bp hb2;have e:=D0 BW hj hc2;refine Ba (Ao (Ao (Bb (t_ (w_ (l_ (h:=s_ (h:=e_ (A4 (?_))))))))));rw[e,List.take_length]at hacc;subst hacc;refine BS (r:= .agg (Ci t (.bs 3 0 14 t.ps.length cap))) none (h4:=(by simp[Ai,Ac,Af,Bi Dw,C0,Ci])) (h5:=(AM _)) (h6:=⟨rfl,cap,hcp,rfl,rfl⟩)
theorem T7(t:Tab)(pid:Int)(ht:TabB t):AFn prog 59 [.agg (C0 t), .v (.int .i64 pid)] (fun r=>r= .tup [.agg (BW (At t pid)), .v (.bool (Dh t pid))]):=by
 have hfew:=ht.few;refine enter Tryz.func59 rfl rfl rfl rfl rfl 0 rfl ?_;refine w_ (b_ (h:=Ak (h:=a_ (h:=e_ (q_ (w_ (a_ (h:=e_ (Ap (?_))))))))));refine By (fun m s=>∃j:Nat,j≤t.ps.length∧m=t.ps.length - j∧(∀i y,i<j→t.ps[i]?=some y→decide (y.pid=pid)=false)∧s=⟨look [(1, .v (.int .i64 pid)),(2, .bp 0 0),(4, .bp 1 0),(6, .v (.int .i64 (j:Int)))],⟨[C0 t,[.v (.int .i64 0), .v (.int .i64 0), .v (.int .i64 0), .v (.int .i64 0), .v (.int .i64 0), .v (.int .i64 0), .v (.int .i64 0), .v (.int .i64 0), .v (.int .i64 0), .v (.int .i64 0), .v (.string ⟨#[]⟩), .v (.string ⟨#[]⟩), .v (.slice none 0 0), .v (.bool false)]],[]⟩⟩) (t.ps.length) ((wk 2 0)) (⟨0,BC _,rfl,fun i y hi=>by omega,rfl⟩) ?_;rintro m s ⟨j,hj,rfl,ha,rfl⟩;refine q_ (w_ (m_ (h:=f_ (h:=l_ (h:=n_ (h:=BQ (h:=e_ (?_))))))));refine AA rfl (fun hb1=>?_) (fun hb1=>?_)
 ·have hc1:=bp hb1;obtain⟨hlt,p,hy,hrow, -⟩:=Cp BW hc1;have hop:p.opens.length≤1000:=by have:=ht.opens p (Au hy);omega
  refine AO (q_ (Ap (w_ (f_ (h:=l_ (h:=m_ (h:=i_ (h:=f_ (h:=l_ (h:=m_ (h:=Ah (h:=e_ (?_)))))))))))));refine AA rfl (fun hb2=>?_) (fun hb2=>?_)
  ·have hc2:=bp hb2;have hg:Jr t pid=some p:=G0 hy (decide_eq_true hc2) ha;refine w_ (f_ (h:=l_ (h:=m_ (h:=i_ (h:=l_ (h:=?_))))));refine A8 rfl (AN (Mp p hop) ?_);rintro r rfl;refine s_ (h:=a_ (h:=e_ (A4 (Ab (A9 (A9 (Ab (A9 (?_)))))))));refine AD ?_;rw[At,Dh,hg];rfl
  have hc2:=bp hb2;refine BH (Ay (t_ (AX (m_ (h:=BB (h:=a_ (h:=AT (?_))))))));refine AG ?_;refine⟨_,_,?_,⟨j+1,by omega,rfl,Eb hy ha (decide_eq_false hc2),rfl⟩,(wk 2 0)⟩;omega
 have hc1:=bp hb1;have e:=D0 BW hj hc1;subst e;have hg:Jr t pid=none:=G4 ha;refine Ba (Ao (Ao (Bb (t_ (w_ (Aa (h:=s_ (h:=a_ (h:=e_ (A4 (?_)))))))))));refine BS (r:= .tup [.agg (BW (At t pid)), .v (.bool (Dh t pid))]) none (h5:=?_) (h6:=⟨rfl,rfl,rfl⟩);rw[At,Dh,hg];exact(by repeat (first|exact AM _|exact LeA.nil _|exact LeL.refl _|refine LeA.agg ?_|refine LeA.tup ?_|exact LeL.nil|refine LeL.cons ?_ ?_|exact LeA.any _))
theorem Yp(t:Tab)(p:Prc)(ht:TabB t)(h0:0<t.ps.length)(hp:p.opens.length≤1000):AFn prog 165 [.agg (C0 t), .agg (BW p)] (fun r=>r= .agg (C0 (Fl t p))):=by
 have hfew:=ht.few;refine enter Tryz.func165 rfl rfl rfl rfl rfl 0 rfl ?_;refine w_ (b_ (h:=b_ (h:=Ak (h:=e_ (?_)))));refine BR (fun s=>∃cap,t.ps.length≤cap∧s=⟨look [(3, .bp 1 0),(4, .bp 2 0),(5, .bp 3 0)],⟨[C0 t,BW p,Di,Ci t (.bs 4 0 14 (DL (Ew p) t.ps 0).length cap),LB 14 BW (DL (Ew p) t.ps 0) cap],[]⟩⟩) ?_ ?_
 ·skip
  refine AX (l_ (h:=?_));refine A8 rfl (DN [] rfl (.cons _ _ _ _ _ rfl (AM _) .nil) (by decide) .nil (Yo t ht h0) ?_);rintro r bc tc ⟨rfl,cap,hcap,rfl,rfl⟩;refine⟨rfl,_,(Ym (n:=3) rfl t cap:Back _ [] _ [_,_,_,_,_,_,_]),?_⟩;refine Ak (h:=s_ (h:=AT (?_)));refine AG ?_;exact⟨_,⟨cap,hcap,rfl⟩,E7 [0,1,2,7,6] (fun i hi=>absurd hi (Nat.not_lt_zero i)) (by decide) (.cons _ _ _ _ _ rfl rfl (.cons _ _ _ _ _ rfl rfl (.cons _ _ _ _ _ rfl rfl (.cons _ _ _ _ _ rfl (by rw[Hi];rfl) (.cons _ _ _ _ _ rfl (GH Dw _ _ _) .nil))))) (by repeat (first|exact SubK.nil|refine SubK.cons _ _ _ _ rfl (AM _) ?_))⟩
 rintro s ⟨cap,hcap,rfl⟩;refine BR (fun s=>s=⟨look [(4, .bp 2 0),(5, .bp 3 0)],⟨[C0 t,BW p,Di,C0 (Fl t p)],[]⟩⟩) ?_ ?_
 ·skip
  refine w_ (a_ (h:=e_ (Ap (?_))));refine By (fun m s=>∃j:Nat,j≤t.ps.length∧m=t.ps.length - j∧s=⟨look [(3, .bp 1 0),(4, .bp 2 0),(5, .bp 3 0),(6, .v (.int .i64 (j:Int)))],⟨[C0 t,BW p,Di,Ci t (.bs 4 0 14 (DL (Ew p) t.ps j).length cap),LB 14 BW (DL (Ew p) t.ps j) cap],[]⟩⟩) (t.ps.length) (BT 5 0 (by simp[Ai,Ac,Af,Bi Dw,C0,Ci,Di,BW])) (⟨0,BC _,rfl,rfl⟩) ?_;rintro m s ⟨j,hj,rfl,rfl⟩;refine q_ (w_ (m_ (h:=f_ (h:=l_ (h:=?_)))));refine A8 rfl (Nh rfl ?_);refine BQ (h:=e_ (?_));refine AA rfl (fun hb1=>?_) (fun hb1=>?_)
  ·have hc1:=bp hb1;have hlt:j<t.ps.length:=by rw[Hi]at hc1;omega
   obtain⟨x,hy⟩:∃x,t.ps[j]?=some x:=⟨_,BG hlt⟩;have hl1:j<(DL (Ew p) t.ps j).length:=by rw[Hi];exact hlt
   refine AO (q_ (Ap (q_ (Dp 9 (h:=AJ 0 (h:=AF 1 (h:=AQ 2 (h:=?_))))))));refine F3 (i:=3) rfl (D6 (m:=j) rfl rfl rfl hl1 ⟨rfl,rfl⟩) ?_;refine AJ 4 (h:=?_);refine F3 (i:=5) rfl (Bd rfl rfl (Yh Dw (PH hy) rfl) ⟨rfl,rfl⟩) ?_;refine AJ 6 (h:=AF 7 (h:=GU 8 (h:=z_ (h:=t_ (?_)))));refine AA rfl (fun hb2=>?_) (fun hb2=>?_)
   ·have hc2:=bp hb2;have hu:(DL (Ew p) t.ps j).set j p=DL (Ew p) t.ps (j+1):=by rw[←T5 hy,Ew,if_pos hc2]
    refine AX (f_ (h:=l_ (h:=m_ (h:=l_ (h:=?_)))));refine A8 rfl (D6 (m:=j) rfl rfl rfl hl1 ?_);refine KX (B1 rfl rfl rfl rfl rfl rfl (Sy Dw (x':=p) (PH hy)) (by repeat constructor) ?_);refine AT (Ay (t_ (AX (m_ (h:=BB (h:=a_ (h:=AT (?_))))))));refine AG ?_;exact⟨t.ps.length - (j+1),_,by omega,⟨j+1,by omega,rfl,rfl⟩,(by first|(rw[hu,show(DL (Ew p) t.ps j).length=(DL (Ew p) t.ps (j+1)).length by rw[Hi,Hi]];exact BT 5 0 (by simp[Ai,Ac,Af,Bi Dw,C0,Ci,Di,BW]))|(rw[hu];exact BT 5 0 (by simp[Ai,Ac,Af,Bi Dw,C0,Ci,Di,BW])))⟩
   have hc2:=bp hb2;have hu:DL (Ew p) t.ps j=DL (Ew p) t.ps (j+1):=Yi hy (if_neg hc2);refine BH (Ay (t_ (AX (m_ (h:=BB (h:=a_ (h:=AT (?_))))))));refine AG ?_;exact⟨t.ps.length - (j+1),_,by omega,⟨j+1,by omega,rfl,rfl⟩,(by first|(rw[hu,show(DL (Ew p) t.ps j).length=(DL (Ew p) t.ps (j+1)).length by rw[Hi,Hi]];exact BT 5 0 (by simp[Ai,Ac,Af,Bi Dw,C0,Ci,Di,BW]))|(rw[hu];exact BT 5 0 (by simp[Ai,Ac,Af,Bi Dw,C0,Ci,Di,BW])))⟩
  have hc1:=bp hb1;obtain rfl:j=t.ps.length:=by rw[Hi]at hc1;omega
  rw[Yj];refine Ba (Ao (Ao (Bb (?_))));refine AG ?_;exact⟨_,rfl,Fx 4 1 rfl (congrArg (fun x=>[C0 t,BW p,Di,[.v (.int .i64 t.next), .v (.int .i64 t.nextS),x]]) (PF Dw rfl rfl (by rw[List.length_map];exact hcap))) (.cons _ _ _ _ rfl (AM _) (.cons _ _ _ _ rfl (AM _) .nil))⟩
 rintro s rfl;refine w_ (l_ (h:=s_ (h:=e_ (A4 (?_)))));refine AD ?_;rfl
end
end Go.Proofs.YtobclmbkdhbnpaaGreatDoor
