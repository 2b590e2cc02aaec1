/-
  Part 17 of the proof of FilterChangesP: what the statement's proof uses of the texts in wip/tpl.
-/
import Derived.Test.YtbgnigjfkbmceaaGreatDoorQa16
open Go.Proofs.Tryz (prog)
set_option maxRecDepth 10000
set_option maxHeartbeats 4000000
set_option linter.unusedVariables false
set_option linter.unusedSimpArgs false
namespace Go.Proofs.YtbgnigjfkbmceaaGreatDoor
open Go.RowKit
theorem Uq{s:Spc}{a b:AB}(h:Aq s.files b=false):decide (a∈BM s (BU s.files) b)=false:=by
 have e:BM s (BU s.files) b=[]:=by
  cases BU s.files with
  |zero=>rfl
  |succ k=>unfold BM;rw[h];rfl
 rw[e];rfl
section
variable {ev:Operand→Option AV}{h:AH}{R:AV→AH→Prop}{d:Option Tmp}{ty:TypeId}{pos:String}{af:Array Edge}{gd:Option (Nat×Bool)}
theorem fB{x ix:Operand}{a b:AB}(j:Nat)(hx:ev x=some (.agg [.v (.int .i64 a.1), .v (.int .i64 a.2), .v (.int .i64 b.1), .v (.int .i64 b.2)]))(hi:ev ix=some (.v (.int .i64 (j:Int))))(hj:j<2)(hR:R (.agg (AF (if j=0 then a else b))) h):AStep prog ⟨d, .index 176 x ix,ty,pos,af,gd⟩ ev h R:=by
 refine Cg (fun _ G w ec _ he=>?_) hR;have h1:=he x (by simp[Op.operands]) _ hx;have h2:=he ix (by simp[Op.operands]) _ hi;simp only[rep]at h1 h2;obtain⟨ys,h3,h4⟩:=h1;simp only[AW,rep]at h4;obtain⟨v1,q1,rfl,rfl,v2,q2,rfl,rfl,v3,q3,rfl,rfl,v4,q4,rfl,rfl,rfl⟩:=h4;have u1:=Tryz.underlying176;have u2:=Tryz.isAgg26;have u3:=Tryz.sizeOf26
 match j,hj with
 |0,_=>
   refine⟨.agg #[.int .i64 a.1, .int .i64 a.2],?_,by simp[rep,AW,AF]⟩;simp[execOp,h2,h3,Instr.index,asIntOf,part]
 |1,_=>
   refine⟨.agg #[.int .i64 b.1, .int .i64 b.2],?_,by simp[rep,AW,AF]⟩;simp[execOp,h2,h3,Instr.index,asIntOf,part]
end
theorem Er{s:Spc}{w:Wch}{d f:AB}{n:AJ}(hk:w.kind=1):D9 s w d n f=((!decide (w.file=(0,0))&&decide (w.file=f))||(!decide (n=⟨#[]⟩)&&decide (d=w.dir)&&decide (n=w.name))):=by
 unfold D9;rw[if_pos hk];have e1:decide (w.file≠(0,0))= !decide (w.file=(0,0)):=by simp
 have e2:decide (n≠⟨#[]⟩)= !decide (n=⟨#[]⟩):=by simp
 have e3:decide (f=w.file)=decide (w.file=f):=decide_eq_decide.2 ⟨Eq.symm,Eq.symm⟩;rw[e1,e2,e3]
section
theorem fC(s:Spc)(w:Wch)(y:Itm)(hs:SpcB s):AFn prog 73 [.agg (Ag s), .agg (Bo w), .agg (LW y)] (fun r=>r= .v (.bool (D9 s w y.dir y.name y.file))):=by
 refine enter Tryz.func73 rfl rfl rfl rfl rfl 0 rfl ?_;refine w_ (b_ (h:=b_ (h:=b_ (h:=a_ (h:=e_ (q_ (w_ (f_ (h:=l_ (h:=e_ (Af (w_ (AN (h:=a_ (h:=e_ (?_))))))))))))))));refine A9 rfl (fun hb1=>?_) (fun hb1=>?_)
 ·have hc1:=bp hb1;refine q_ (?_);refine CH (fun S=>S=⟨look [(3, .bp 0 0),(4, .bp 1 0),(5, .bp 2 0),(23, .v (.bool (!decide (w.file=(0,0))&&decide (w.file=y.file))))],⟨[Ag s,Bo w,LW y],[]⟩⟩) ?_ ?_
  ·skip
   refine AT (f_ (h:=l_ (h:=Ab (h:=?_))));refine A6 rfl (Ed rfl rfl (by repeat constructor) (by repeat constructor) (fun W=>cM w.file (0,0) W) (by kernel_rfl) ?_);refine m_ (h:=?_);refine AU true rfl rfl (fun hb2=>?_) (fun hb2=>?_)
   ·have hc2:=bp hb2;refine f_ (h:=l_ (h:=f_ (h:=l_ (h:=?_))));refine Ax (Ed rfl rfl (by repeat constructor) (by repeat constructor) (fun W=>NZ w.file y.file W) (by kernel_rfl) ?_);refine AD (h:=AP (?_));refine AK ?_;exact⟨_,rfl,Cy 3 0 rfl⟩
   have hc2:=bp hb2;refine A3 (h:=A3 (h:=A3 (h:=A3 (h:=A3 (h:=AG (h:=AP (?_)))))));refine AK ?_;exact⟨_,rfl,Cy 3 0 rfl⟩
  rintro S rfl;refine A9 rfl (fun hb3=>?_) (fun hb3=>?_)
  ·have hc3:=bp hb3;refine w_ (a_ (h:=e_ (A4 (A7 (AR (A7 (?_)))))));refine A8 ?_
   first|(exfalso;first|contradiction|omega)|(exact vb (by first|(rw[Er hc1,hc3];simp[*];done)|(rw[Er hc1,hc3];rfl)|(have hj3:j=0∨j=1:=(by omega);rcases hj3 with rfl|rfl<;>simp_all [D9];done)|(simp[D9,hj1 (by omega),hj2 (by omega), *];done)|(simp[D9, *];done)))
  have hc3:=bp hb3;refine AA (w_ (f_ (h:=l_ (h:=Aj (h:=m_ (h:=?_))))));refine AU true rfl rfl (fun hb4=>?_) (fun hb4=>?_)
  ·have hc4:=bp hb4;refine f_ (h:=l_ (h:=f_ (h:=l_ (h:=?_))));refine Ax (Ed rfl rfl (by repeat constructor) (by repeat constructor) (fun W=>NZ y.dir w.dir W) (by kernel_rfl) ?_);refine AD (h:=m_ (h:=?_));refine AU true rfl rfl (fun hb5=>?_) (fun hb5=>?_)
   ·have hc5:=bp hb5;refine f_ (h:=l_ (h:=f_ (h:=l_ (h:=AN (h:=AD (h:=a_ (h:=e_ (A4 (AR (A7 (?_)))))))))));refine A8 ?_
    first|(exfalso;first|contradiction|omega)|(exact vb (by first|(rw[Er hc1,hc3];simp[*];done)|(rw[Er hc1,hc3];rfl)|(have hj3:j=0∨j=1:=(by omega);rcases hj3 with rfl|rfl<;>simp_all [D9];done)|(simp[D9,hj1 (by omega),hj2 (by omega), *];done)|(simp[D9, *];done)))
   have hc5:=bp hb5;refine A3 (h:=A3 (h:=A3 (h:=A3 (h:=A3 (h:=AG (h:=a_ (h:=e_ (A4 (AR (A7 (?_)))))))))));refine A8 ?_
   first|(exfalso;first|contradiction|omega)|(exact vb (by first|(rw[Er hc1,hc3];simp[*];done)|(rw[Er hc1,hc3];rfl)|(have hj3:j=0∨j=1:=(by omega);rcases hj3 with rfl|rfl<;>simp_all [D9];done)|(simp[D9,hj1 (by omega),hj2 (by omega), *];done)|(simp[D9, *];done)))
  have hc4:=bp hb4;refine A3 (h:=A3 (h:=A3 (h:=A3 (h:=A3 (h:=AG (h:=m_ (h:=A3 (h:=A3 (h:=A3 (h:=A3 (h:=A3 (h:=AG (h:=a_ (h:=e_ (A4 (AR (A7 (?_))))))))))))))))));refine A8 ?_
  first|(exfalso;first|contradiction|omega)|(exact vb (by first|(rw[Er hc1,hc3];simp[*];done)|(rw[Er hc1,hc3];rfl)|(have hj3:j=0∨j=1:=(by omega);rcases hj3 with rfl|rfl<;>simp_all [D9];done)|(simp[D9,hj1 (by omega),hj2 (by omega), *];done)|(simp[D9, *];done)))
 have hc1:=bp hb1;refine w_ (AN (h:=a_ (h:=e_ (?_))));refine A9 rfl (fun hb6=>?_) (fun hb6=>?_)
 ·have hc6:=bp hb6;refine w_ (f_ (h:=l_ (h:=f_ (h:=l_ (h:=Ab (h:=m_ (h:=e_ (Af (?_)))))))));refine BW (fun m S=>∃j:Nat,j≤2∧m=2 - j∧(0<j→Lb s w.file y.dir=false)∧(1<j→Lb s w.file y.file=false)∧S=⟨look [(3, .bp 0 0),(4, .bp 1 0),(5, .bp 2 0),(47, .agg [.v (.int .i64 y.dir.1), .v (.int .i64 y.dir.2), .v (.int .i64 y.file.1), .v (.int .i64 y.file.2)]),(48, .v (.int .i64 (j:Int)))],⟨[Ag s,Bo w,LW y],[]⟩⟩) (2) ((wk 3 0)) (⟨0,by omega,rfl,fun q=>by omega,fun q=>by omega,rfl⟩) ?_;rintro m S ⟨j,hj,rfl,hj1,hj2,rfl⟩;refine w_ (B1 (h:=e_ (q_ (?_))));refine A9 rfl (fun hb7=>?_) (fun hb7=>?_)
  ·have hc7:=bp hb7;refine AA (q_ (Af (?_)));refine CH (fun S=>∃z,z=(if j=0 then y.dir else y.file)∧S=⟨look [(3, .bp 0 0),(4, .bp 1 0),(5, .bp 2 0),(8, .bp 3 0),(47, .agg [.v (.int .i64 y.dir.1), .v (.int .i64 y.dir.2), .v (.int .i64 y.file.1), .v (.int .i64 y.file.2)]),(48, .v (.int .i64 (j:Int)))],⟨[Ag s,Bo w,LW y,AF z],[]⟩⟩) ?_ ?_
   ·skip
    refine AT (?_);refine A6 rfl (fB j rfl rfl (by omega) ?_);refine Aa (h:=s_ (h:=AP (?_)));refine AK ?_;exact⟨_,⟨_,rfl,rfl⟩,Ay 4 0 rfl rfl rfl rfl ((by repeat (first|exact Sub.nil|refine B0 rfl rfl ?_|refine B2 ?_|refine B3 rfl ?_|refine B4 rfl ?_)))⟩
   rintro S ⟨z,hz,rfl⟩;refine CH (fun S=>S=⟨look [(3, .bp 0 0),(4, .bp 1 0),(5, .bp 2 0),(47, .agg [.v (.int .i64 y.dir.1), .v (.int .i64 y.dir.2), .v (.int .i64 y.file.1), .v (.int .i64 y.file.2)]),(48, .v (.int .i64 (j:Int))),(60, .v (.bool (Lb s w.file z)))],⟨[Ag s,Bo w,LW y],[]⟩⟩) ?_ ?_
   ·skip
    refine AT (l_ (h:=l_ (h:=?_)));refine A6 rfl (AE (QE s z hs) ?_);rintro r rfl;refine m_ (h:=?_);refine AU true rfl rfl (fun hb8=>?_) (fun hb8=>?_)
    ·have hc8:=bp hb8;refine l_ (h:=f_ (h:=l_ (h:=l_ (h:=?_))));refine Ax (AE (Yv s hs w.file z) ?_);rintro r rfl;refine AD (h:=AP (?_));refine AK ?_;refine⟨_,rfl,Ay 3 0 rfl rfl rfl rfl (by repeat (first|exact Sub.nil|refine B0 rfl rfl ?_|(apply Sub.of;(focus exact rfl);(focus exact LeA.of_eq (vb (by first|rfl|exact(Uq ‹_›).symm)));(focus exact rfl))))⟩
    have hc8:=bp hb8;refine A3 (h:=A3 (h:=A3 (h:=A3 (h:=A3 (h:=AG (h:=AP (?_)))))));refine AK ?_;refine⟨_,rfl,Ay 3 0 rfl rfl rfl rfl (by repeat (first|exact Sub.nil|refine B0 rfl rfl ?_|(apply Sub.of;(focus exact rfl);(focus exact LeA.of_eq (vb (by first|rfl|exact(Uq ‹_›).symm)));(focus exact rfl))))⟩
   rintro S rfl;refine A9 rfl (fun hb9=>?_) (fun hb9=>?_)
   ·have hc9:=bp hb9;refine w_ (a_ (h:=e_ (A4 (AR (A7 (A7 (AR (AR (A7 (?_))))))))));refine A8 ?_
    first|(exfalso;first|contradiction|omega)|(exact vb (by first|(rw[Er hc1,hc3];simp[*];done)|(rw[Er hc1,hc3];rfl)|(have hj3:j=0∨j=1:=(by omega);rcases hj3 with rfl|rfl<;>simp_all [D9];done)|(simp[D9,hj1 (by omega),hj2 (by omega), *];done)|(simp[D9, *];done)))
   have hc9:=bp hb9;refine Av (Ai (t_ (AT (B5 (h:=m_ (h:=AP (?_)))))));refine AK ?_;have hj3:j=0∨j=1:=by omega
   refine⟨_,_,?_,⟨j+1,by omega,rfl,?_,?_,rfl⟩,Ay 3 0 rfl rfl rfl rfl ((by repeat (first|exact Sub.nil|refine B0 rfl rfl ?_|refine B2 ?_|refine B3 rfl ?_|refine B4 rfl ?_)))⟩
   ·omega
   ·intro _;rcases hj3 with rfl|rfl
    ·rw[if_pos rfl]at hz;rw[←hz];assumption
    exact hj1 (by omega)
   intro q;rcases hj3 with rfl|rfl
   ·omega
   rw[if_neg (by omega)]at hz;rw[←hz];assumption
  have hc7:=bp hb7;refine BH (Ah (Ah (BJ (Ai (t_ (w_ (a_ (h:=e_ (A4 (?_))))))))));refine A8 ?_
  first|(exfalso;first|contradiction|omega)|(exact vb (by first|(rw[Er hc1,hc3];simp[*];done)|(rw[Er hc1,hc3];rfl)|(have hj3:j=0∨j=1:=(by omega);rcases hj3 with rfl|rfl<;>simp_all [D9];done)|(simp[D9,hj1 (by omega),hj2 (by omega), *];done)|(simp[D9, *];done)))
 have hc6:=bp hb6;refine Av (Ai (t_ (w_ (a_ (h:=e_ (A4 (?_)))))));refine A8 ?_
 first|(exfalso;first|contradiction|omega)|(exact vb (by first|(rw[Er hc1,hc3];simp[*];done)|(rw[Er hc1,hc3];rfl)|(have hj3:j=0∨j=1:=(by omega);rcases hj3 with rfl|rfl<;>simp_all [D9];done)|(simp[D9,hj1 (by omega),hj2 (by omega), *];done)|(simp[D9, *];done)))
end
def qF(s:Spc)(r:Rul)(w:Wch)(x:Itm):Bool:=decide (GR .i64 x.perm r.perm≠0)&&D9 s w x.dir x.name x.file
def Lj(s:Spc)(r:Rul)(w:Wch)(items:List Itm):Bool:=decide (r.watch≠0)&&items.any (qF s r w)
def FG(s:Spc)(p:Pol)(items:List Itm):List Bool:=List.zipWith (fun r w=>Lj s r w items) p.rules p.wats
theorem fD{s:Spc}{p:Pol}{items:List Itm}{j:Nat}{r:Rul}{w:Wch}(hr:p.rules[j]?=some r)(hw:p.wats[j]?=some w):(FG s p items)[j]?=some (Lj s r w items):=by
 simp[FG,List.getElem?_zipWith,hr,hw]
theorem fE{s:Spc}{p:Pol}{items:List Itm}(h:p.wats.length=p.rules.length):(FG s p items).length=p.rules.length:=by simp[FG,h]
theorem Ur{α:Type}(q:α→Bool):∀(l:List α) (i:Nat),decide (0≤Ck (fun _ x=>q x) l i)=l.any q
 |[],_=>rfl
 |x::xs,i=>by
   rw[Ck,List.any_cons];split
   ·rename_i h;rw[h];simp
   rename_i h;rw[Ur q xs (i+1)];simp[h]
def Nk(b:Bool):AV:= .v (.bool b)
def HB(L:List Bool)(j:Nat):List AV:=(L.take j++List.replicate (L.length - j) false).map Nk
theorem fF(L:List Bool){j:Nat}(h:j≤L.length):(HB L j).length=L.length:=by simp[HB];omega
theorem fG(L:List Bool):HB L 0=List.replicate L.length (.v (.bool false)):=by simp[HB,Nk]
theorem fH{L:List Bool}{j:Nat}{b:Bool}(h:L[j]?=some b):(HB L j).set j (.v (.bool b))=HB L (j+1):=by
 obtain⟨hj,e⟩:=Al.1 h;unfold HB;rw[show(AV.v (.bool b))=Nk b from rfl,←List.map_set,List.take_succ_eq_append_getElem hj,e,show L.length - j=(L.length - (j+1))+1 by omega,List.replicate_succ]
 congr 1
 rw[List.set_append_right _ _ (by simp;omega)];simp[show min j L.length=j by omega]
theorem Us{L:List Bool}{j:Nat}(h:L[j]?=some false):HB L j=HB L (j+1):=by
 obtain⟨hj,e⟩:=Al.1 h;unfold HB;rw[List.take_succ_eq_append_getElem hj,e,show L.length - j=(L.length - (j+1))+1 by omega,List.replicate_succ,List.append_assoc];rfl
theorem Ut{G:Gh}{w:World}{u:Value}:∀n:Nat,AW G w (List.replicate n (.v u)) (List.replicate n u)
 |0=>by simp[AW]
 |n+1=>by
   simp only[List.replicate_succ,AW,rep];exact⟨_,_,rfl,rfl,Ut n⟩
section
variable {P:Program}{ev:Operand→Option AV}{h:AH}{R:AV→AH→Prop}{d:Option Tmp}{ty:TypeId}{pos:String}{af:Array Edge}{gd:Option (Nat×Bool)}
theorem fJ{T:TypeId}{x y:Operand}{E bytes m k:Nat}{i j:Int}{u:Value}{bx':List (List AV)}[hE:Elm P T E 1 bytes][hzr:Zer P E [.v u]](hx:ev x=some (.v (.int .i64 i)))(hy:ev y=some (.v (.int .i64 j)))(hi:i=(m:Int))(hj:j=(m:Int))(hm0:0<m)(hm:m≤1000000)
    (hset:SnocAt h.bx (List.replicate m (.v u)) k bx') (hR:R (.bs k 0 1 m m) ⟨bx',h.tk⟩):AStep P ⟨d, .makeSlice T x y,ty,pos,af,gd⟩ ev h R:=by
 intro E' G w ec hr he;have k1:=he x (by simp[Op.operands]) _ hx;have k2:=he y (by simp[Op.operands]) _ hy;simp only[rep]at k1 k2;subst hi hj;obtain⟨hu,inf,z,hinf,hz,hzs,hs,hby,hp⟩:=Dz hE.eq;have hw:IntKind.i64.wrap (m:Int)=m:=IntWalk.i64_in _ (by omega)
 have hbig:¬(inf.bytes:Int) * (m:Int)>2 ^ 48:=by
  have h1:inf.bytes * m≤100000 * 1000000:=Nat.mul_le_mul (by rw[hby];exact hE.few) (by omega);have h2:((inf.bytes * m:Nat):Int)≤100000000000:=by omega
  rw[Int.natCast_mul]at h2;omega
 have hneg:¬((m:Int)<0):=by omega
 obtain⟨zs,z1,z2,z3⟩:=hzr.eq;obtain⟨inf',z',k3,k4,k5⟩:=Lw z1;rw[hinf]at k3;injection k3 with k3;subst k3;rw[hz]at k4;injection k4 with k4;subst k4
 obtain⟨v,rfl⟩:∃v,zs=[v]:=by
  match zs,z2 with
  |[v],_=>exact⟨v,rfl⟩
 obtain rfl:v=u:=by simpa using z2
 have hone:v.oneCell'=true:=by simpa using z3
 have hcells:((Array.range (m * 1)).map fun x=>z.cells[x % z.cells.size]!)=(List.replicate m v).toArray:=by
  rw[k5];apply Array.ext
  ·simp
  intro i h1 h2;simp[Nat.mod_one]
 have hrun:(Instr.makeSlice T (.int .i64 m) (.int .i64 m)).run P w= .ok (.slice (some ⟨w.heap.size,0,none⟩) m m) (w.alloc (.cells (List.replicate m v).toArray E)):=by
  rw[←hcells];have h0:¬m=0:=by omega
  have hnb:(inf.bytes:Int) * (m:Int)≤2 ^ 48:=by omega
  simp[Instr.makeSlice,run_underlying hu,asInt,asIntOf,typeInfo,hinf,hw,hneg,sizeOf,hs,h0,newRow,zeroValue,hz];omega
 obtain⟨G',s1,s2,s3⟩:=JU (T:=E) hr (Ut (u:=v) m) (fun q hq=>by rw[List.eq_of_mem_replicate hq];exact hone) hset;simp only[rep]at s3;obtain⟨b',s4,s5⟩:=s3;simp only[execOp,k1,k2,Sem.run_bind,hrun,Result.andThen_ok,Sem.run_pure];refine⟨_,_,G',hR,s1,s2,?_⟩;simp only[rep];injection s5 with s5;injection s5 with s5;injection s5 with s5;exact⟨b',s4,by rw[s5],Aw _,by unfold maxLen;omega⟩
end
section
theorem fK(s:Spc)(r:Rul)(w:Wch)(x:Itm)(hs:SpcB s):AFn prog 72 [.agg (Dd x), .fp (AO r), .fp (Ag s), .fp (Bo w)] (fun y=>y= .v (.bool (qF s r w x))):=by
 refine enter Tryz.func72 rfl rfl rfl rfl rfl 0 rfl ?_;refine w_ (b_ (h:=a_ (h:=e_ (w_ (f_ (h:=l_ (h:=f_ (h:=l_ (h:=Mg (h:=Aj (h:=m_ (h:=?_))))))))))));refine AU true rfl rfl (fun hb1=>?_) (fun hb1=>?_)
 ·have hc1:=bp hb1;refine l_ (h:=l_ (h:=l_ (h:=?_)));refine Ax (AE (fC s w x hs) ?_);rintro r rfl;refine AD (h:=a_ (h:=e_ (A4 (?_))));refine A8 ?_
  first|(exfalso;first|contradiction|omega)|(exact vb (by simp_all [qF]))
 have hc1:=bp hb1;refine A3 (h:=A3 (h:=A3 (h:=A3 (h:=AG (h:=a_ (h:=e_ (A4 (?_))))))));refine A8 ?_
 first|(exfalso;first|contradiction|omega)|(exact vb (by simp_all [qF]))
theorem fL(l:List Itm)(hl:l.length≤1000)(q:Itm→Bool)(f:FuncId)(caps:List AV)[Fun prog f](hcl:Ff caps=true)(hbl:B9 0 0 (.fn f caps)=true)
    (hp:∀x,AFn prog f ([.agg (Dd x)]++caps) (fun y=>y= .v (.bool (q x)))):AFn prog 118 [.sl 13 (l.map Dd) none, .fn f caps] (fun r=>r= .v (.int .i64 (Ck (fun _ x=>q x) l 0))):=by
 refine enter Tryz.func118 rfl rfl rfl rfl rfl 0 rfl ?_;refine w_ (a_ (h:=e_ (q_ (w_ (m_ (h:=n_ (h:=m_ (h:=e_ (Af (?_))))))))));refine BW (fun m t=>∃j:Nat,j≤l.length∧m=l.length - j∧Ck (fun _ x=>q x) (l.drop j) j=Ck (fun _ x=>q x) l 0∧t=⟨look [(0, .sl 13 (l.map Dd) none),(1, .fn f caps),(7, .v (.int .i64 ((l.map Dd).length:Int))),(8, .v (.int .i64 (j:Int)))],⟨[],[]⟩⟩) (l.length) (Ay 0 0 rfl rfl rfl rfl (by repeat (first|exact Sub.nil|refine B0 rfl rfl ?_|refine Sub.cons _ _ _ rfl hbl ?_|refine B2 ?_|refine B3 rfl ?_|refine B4 rfl ?_))) (⟨0,by omega,rfl,rfl,rfl⟩) ?_;rintro m t ⟨j,hj,rfl,ha,rfl⟩;refine w_ (B1 (h:=e_ (q_ (?_))));refine A9 rfl (fun hb1=>?_) (fun hb1=>?_)
 ·have hc1:=bp hb1;obtain⟨hlt,x,hy,hrow, -⟩:=Br Dd hc1;refine AA (q_ (Af (w_ (m_ (h:=a_ (h:=e_ (w_ (m_ (h:=m_ (h:=m_ (h:=i_ (h:=l_ (h:=?_)))))))))))));refine A6 rfl (OB (cy:=[]) rfl (by repeat (first|exact Args.nil|refine Args.cons _ _ _ _ _ rfl (G0 rfl) ?_|refine Args.cons _ _ _ _ _ rfl (Gx _) ?_|refine Args.cons _ _ _ _ _ rfl (GQ _) ?_|refine Args.cons _ _ _ _ _ rfl (H0 rfl (by repeat (first|exact AZ _|exact LeA.nil _|exact LeL.refl _|refine LeA.agg ?_|refine LeA.tup ?_|exact LeL.nil|refine LeL.cons ?_ ?_|exact LeA.any _))) ?_)) hcl rfl (hp x) ?_);rintro y rfl;refine e_ (?_);refine A9 rfl (fun hb2=>?_) (fun hb2=>?_)
  ·have hc2:=bp hb2;refine w_ (m_ (h:=a_ (h:=e_ (A4 (AR (A7 (A7 (AR (A7 (?_))))))))));refine A8 ?_
   first|(exfalso;first|contradiction|omega)|(exact vi (by rw[←ha,Jg hy,if_pos hc2]))
  have hc2:=bp hb2;refine Av (Ai (t_ (AT (B5 (h:=m_ (h:=AP (?_)))))));refine AK ?_;refine⟨_,_,?_,⟨j+1,by omega,rfl,(by rw[←ha,Jg hy];simp[*]),rfl⟩,Ay 0 0 rfl rfl rfl rfl (by repeat (first|exact Sub.nil|refine B0 rfl rfl ?_|refine Sub.cons _ _ _ rfl hbl ?_|refine B2 ?_|refine B3 rfl ?_|refine B4 rfl ?_))⟩;omega
 have hc1:=bp hb1;have e3:=C5 Dd hj hc1;subst e3;refine BH (Ah (Ah (BJ (t_ (w_ (a_ (h:=e_ (A4 (?_)))))))));refine A8 ?_
 first|(exfalso;first|contradiction|omega)|(exact vi (by rw[←ha,Of]))
theorem fM(l:List Itm)(hl:l.length≤1000)(q:Itm→Bool)(f:FuncId)(caps:List AV)[Fun prog f](hcl:Ff caps=true)(hbl:B9 0 0 (.fn f caps)=true)
    (hp:∀x,AFn prog f ([.agg (Dd x)]++caps) (fun y=>y= .v (.bool (q x)))):AFn prog 71 [.sl 13 (l.map Dd) none, .fn f caps] (fun r=>r= .v (.bool (l.any q))):=by
 refine enter Tryz.func71 rfl rfl rfl rfl rfl 0 rfl ?_;refine w_ (a_ (h:=e_ (w_ (m_ (h:=m_ (h:=?_))))));refine A6 rfl (Qs rfl (by repeat (first|exact Args.nil|refine Args.cons _ _ _ _ _ rfl (G0 (by first|rfl|exact hcl)) ?_)) (fL l hl q f caps hcl hbl hp) ?_);rintro y rfl;refine D4 (h:=a_ (h:=e_ (A4 (?_))));refine A8 ?_;exact vb (Ur q l 0)
end
theorem Uu:RowF 1 Ei:=⟨fun _=>rfl,fun b y hy=> .inl ⟨.bool b,by simpa[Ei]using hy⟩,by decide⟩
theorem Uv:∀L:List Bool,(L.map Ei).flatten=L.map Nk
 |[]=>rfl
 |x::xs=>by simp only[List.map_cons,List.flatten_cons,Uv xs];rfl
theorem Uw{L:List Bool}{j:Nat}(h:j≤L.length):HB L j=LB 1 Ei (L.take j++List.replicate (L.length - j) false) L.length:=by
 unfold LB CD HB;rw[Uv];simp;omega
theorem fN(L:List Bool):HB L L.length=LB 1 Ei L L.length:=by
 rw[Uw (Aw _)];simp
theorem Ll{L:List Bool}{j n m:Nat}(h:j≤L.length):BA n m (HB L j)=true:=by rw[Uw h];exact Q2 Uu
theorem fO{L:List Bool}{j:Nat}{b:Bool}(h:L[j]?=some b):SetAt (HB L j) (0+j * 1) (CW (.v (.bool b))) (HB L (j+1)):=by
 have hj:j<L.length:=(Al.1 h).1;rw[←fH h,show 0+j * 1=j by omega];exact SetAt.put1 (by rw[fF L (by omega)];exact hj)
section
theorem fP(s:Spc)(p:Pol)(items:List Itm)(h0:p.rules=[]):AFn prog 32 [.agg (BV p), .agg (Ag s), .sl 13 (items.map Dd) none] (fun r=>r= .sl 1 ((FG s p items).map Ei) none):=by
 rw[show FG s p items=[] by simp[FG,h0],show BV p=[.sl 8 [] none, .sl 6 (p.wats.map Bo) none] by simp[BV,h0]];refine enter Tryz.func32 rfl rfl rfl rfl rfl 0 rfl ?_;refine w_ (b_ (h:=b_ (h:=a_ (h:=e_ (w_ (f_ (h:=l_ (h:=n_ (h:=?_)))))))));refine A6 rfl (ML rfl rfl (by decide) (by repeat constructor) ?_);refine a_ (h:=e_ (q_ (w_ (f_ (h:=l_ (h:=n_ (h:=m_ (h:=e_ (Af (?_))))))))));refine BW (fun n S=>n=0∧S=⟨look [(7, .sl 1 [] (some 0)),(17, .v (.int .i64 0)),(18, .v (.int .i64 0))],⟨[[.sl 8 [] none, .sl 6 (p.wats.map Bo) none],Ag s],[(4,1,[])]⟩⟩) (0) ((wk 2 1)) (⟨rfl,rfl⟩) ?_;rintro n S ⟨rfl,rfl⟩;refine w_ (B1 (h:=e_ (q_ (?_))));refine A9 rfl (fun hb1=>?_) (fun hb1=>?_)
 ·have hc1:=bp hb1;simp at hc1
 have hc1:=bp hb1;refine BH (Ah (Ah (BJ (t_ (w_ (m_ (h:=a_ (h:=e_ (A4 (?_))))))))));refine A8 ?_;rfl
theorem fQ(s:Spc)(p:Pol)(items:List Itm)(hs:SpcB s)(h0:0<p.rules.length)(h1:p.rules.length≤1000)(h2:p.wats.length=p.rules.length)(hit:items.length≤1000)(L:List Bool)(hL:FG s p items=L):AFn prog 32 [.agg (BV p), .agg (Ag s), .sl 13 (items.map Dd) none] (fun r=>r= .sl 1 (L.map Ei) none):=by
 have hlen:L.length=p.rules.length:=by rw[←hL];exact fE h2
 refine enter Tryz.func32 rfl rfl rfl rfl rfl 0 rfl ?_;refine w_ (b_ (h:=b_ (h:=a_ (h:=e_ (w_ (f_ (h:=l_ (h:=n_ (h:=?_)))))))));refine A6 rfl (fJ (m:=L.length) rfl rfl (by simp[hlen]) (by simp[hlen]) (by omega) (by omega) (by repeat constructor) ?_);refine a_ (h:=e_ (q_ (w_ (f_ (h:=l_ (h:=n_ (h:=m_ (h:=e_ (Af (?_))))))))));refine BW (fun n S=>∃j:Nat,j≤p.rules.length∧n=p.rules.length - j∧S=⟨look [(2, .sl 13 (items.map Dd) none),(3, .bp 0 0),(4, .bp 1 0),(7, .bs 2 0 1 L.length L.length),(16, .sl 8 (p.rules.map AO) none),(17, .v (.int .i64 ((p.rules.map AO).length:Int))),(18, .v (.int .i64 (j:Int)))],⟨[BV p,Ag s,HB L j],[]⟩⟩) (p.rules.length) (by rw[←fG];exact C3 3 0 (by simp[BF,Ll,BV,Ag,BA,B9])) (⟨0,BO _,rfl,rfl⟩) ?_;rintro n S ⟨j,hj,rfl,rfl⟩;refine w_ (B1 (h:=e_ (q_ (?_))));refine A9 rfl (fun hb1=>?_) (fun hb1=>?_)
 ·have hc1:=bp hb1;obtain⟨hlt,r,hy,hrow, -⟩:=Br AO hc1;obtain⟨w,hyw⟩:∃w,p.wats[j]?=some w:=⟨_,BQ (by omega)⟩;have hLj:=fD (s:=s) (items:=items) hy hyw;rw[hL]at hLj;refine AA (q_ (Af (w_ (m_ (h:=i_ (h:=l_ (h:=Aa (h:=a_ (h:=s_ (h:=e_ (q_ (w_ (f_ (h:=l_ (h:=AN (h:=e_ (?_)))))))))))))))));refine A9 rfl (fun hb2=>?_) (fun hb2=>?_)
  ·have hc2:=bp hb2;have hb0:L[j]?=some false:=by rw[hLj];simp_all [Lj]
   refine BH (Ah (BJ (t_ (AT (B5 (h:=m_ (h:=AP (?_))))))));refine AK ?_;refine⟨_,_,?_,⟨j+1,by omega,rfl,rfl⟩,?_⟩
   ·omega
   first|(rw[←Us hb0];exact C3 3 0 (by simp[BF,Ll (L:=L) (j:=j) (by omega),BV,Ag,BA,B9]))|exact C3 3 0 (by simp[BF,Ll (L:=L) (j:=j+1) (by omega),BV,Ag,BA,B9])
  have hc2:=bp hb2;have hb2:L[j]?=some (items.any (qF s r w)):=by rw[hLj];simp_all [Lj]
  refine AA (w_ (l_ (h:=m_ (h:=?_))));refine A6 rfl (AE (Ng p j w (by omega) hyw) ?_);rintro r rfl;refine Aa (h:=s_ (h:=e_ (AT (m_ (h:=m_ (h:=m_ (h:=OS (h:=?_))))))));refine A6 rfl (OH rfl (by repeat (first|exact ArgsL.nil|refine ArgsL.cons _ _ _ _ _ rfl rfl ?_)) (fM items hit (qF s r w) 72 [.fp (AO r), .fp (Ag s), .fp (Bo w)] rfl rfl fun x=>fK s r w x hs) ?_);rintro x rfl;refine⟨rfl,?_⟩;refine A6 rfl (DP (m:=j) rfl rfl rfl (by omega) ?_);refine MK (Ba (row':=HB L (j+1)) rfl rfl rfl rfl rfl rfl (fO hb2) (by repeat constructor) ?_);refine AP (Ai (t_ (AT (B5 (h:=m_ (h:=AP (?_)))))));refine AK ?_;refine⟨_,_,?_,⟨j+1,by omega,rfl,rfl⟩,?_⟩
  ·omega
  first|(rw[←Us hb0];exact C3 3 0 (by simp[BF,Ll (L:=L) (j:=j) (by omega),BV,Ag,BA,B9]))|exact C3 3 0 (by simp[BF,Ll (L:=L) (j:=j+1) (by omega),BV,Ag,BA,B9])
 have hc1:=bp hb1;have e:=C5 AO hj hc1;subst e;refine BH (Ah (Ah (BJ (t_ (?_)))));refine CH (fun S=>S=⟨look [(6, .sl 1 (L.map Ei) none)],⟨[BV p,Ag s],[]⟩⟩) ?_ ?_
 ·skip
  refine AT (m_ (h:=a_ (h:=AP (?_))));refine AK ?_;rw[←hlen,fN];exact⟨_,rfl,F0 2 1 rfl rfl (.cons _ _ _ _ rfl (LeA.of_eq (Zb Uu rfl rfl (Aw _))) .nil)⟩
 rintro S rfl;refine A4 (?_);refine A8 ?_;rfl
end
def QM(c:Ctx):Ctx:={c with phase:=2}
def Nl(s:Spc)(p:Pol)(c:Ctx):Int:=Ck (Hd 3 (FG s p c.items) (QM c)) p.rules 0
def Hp(s:Spc)(p:Pol)(c:Ctx):Vdt:=if c.audited=false then Li else if 0≤Nj p c then Gj p.rules (Nj p c)else Gj p.rules (Nl s p c)
section
theorem fR(s:Spc)(p:Pol)(items:List Itm)(hs:SpcB s)(h1:p.rules.length≤1000)(h2:p.wats.length=p.rules.length)(hit:items.length≤1000):AFn prog 32 [.agg (BV p), .agg (Ag s), .sl 13 (items.map Dd) none] (fun r=>r= .sl 1 ((FG s p items).map Ei) none):=by
 rcases Nat.eq_zero_or_pos p.rules.length with h0|h0
 ·exact fP s p items (Cp h0)
 exact fQ s p items hs h0 h1 h2 hit _ rfl
variable (s:Spc)(p:Pol)(c:Ctx)(k:Cxs)(hs:SpcB s)(h1:p.rules.length≤1000)(h2:p.wats.length=p.rules.length)(ht:∀r∈p.rules,r.tests.length≤1000)(hit:c.items.length≤1000)
include hs h1 h2 ht hit
theorem fS:AFn prog 24 [.agg (BV p), .agg (Ag s), .agg (De c k)] (fun r=>r= .agg (KH (Gj p.rules (Nl s p c)))):=by
 refine enter Tryz.func24 rfl rfl rfl rfl rfl 0 rfl ?_;refine w_ (b_ (h:=b_ (h:=b_ (h:=Aa (h:=e_ (w_ (f_ (h:=s_ (h:=e_ (q_ (CB ([(0,BV p),(1,Ag s),(2,De (QM c) k)]) 12 (h:=AY 0 (h:=Az 1 (h:=AY 2 (h:=AY 3 (h:=AY 4 (h:=Az 5 (h:=AY 6 (h:=AY 8 (h:=?_))))))))))))))))))));refine c_ 7 rfl (AE (fR s p c.items hs h1 h2 hit) ?_);rintro r rfl;refine o_ (h:=?_);refine c_ 9 rfl (AE (Rt p.rules 3 (FG s p c.items) (QM c) k h1 hit ht) ?_);rintro r rfl;refine o_ (h:=?_);refine c_ 10 rfl (AE (QL p (Nl s p c) (Uo _ _) h1) ?_);rintro r rfl;refine o_ (h:=?_);refine Bi 11 rfl (Ba rfl rfl rfl rfl rfl rfl (by repeat constructor) (by repeat constructor) ?_);refine o_ (h:=z_ (h:=t_ (A4 (?_))));refine A8 ?_;rfl
theorem Ux:AFn prog 26 [.agg (BV p), .agg (Ag s), .agg (De c k)] (fun r=>r= .agg (KH (Hp s p c))):=by
 refine enter Tryz.func26 rfl rfl rfl rfl rfl 0 rfl ?_;refine w_ (b_ (h:=b_ (h:=b_ (h:=Aa (h:=e_ (q_ (w_ (f_ (h:=f_ (h:=l_ (h:=B7 (h:=e_ (?_)))))))))))));refine A9 rfl (fun hb1=>?_) (fun hb1=>?_)
 ·have hc1:=bp hb1;have k1:c.audited=false:=by simpa using hc1
  refine w_ (l_ (h:=?_));refine A6 rfl (AE (QL p (-1) (.inl (by decide)) h1) ?_);rintro r rfl;refine s_ (h:=e_ (A4 (A7 (?_))));refine A8 ?_;rw[Hp,if_pos k1,←Ul (l:=p.rules) (i:= -1) (by decide)];rfl
 have hc1:=bp hb1;have k1:¬c.audited=false:=by simpa using hc1
 refine AA (q_ (w_ (l_ (h:=l_ (h:=?_)))));refine A6 rfl (AE (fA p c k h1 ht) ?_);rintro r rfl;refine m_ (h:=x_ (h:=x_ (h:=Aa (h:=s_ (h:=a_ (h:=e_ (w_ (m_ (h:=e_ (?_))))))))));refine A9 rfl (fun hb2=>?_) (fun hb2=>?_)
 ·have hc2:=bp hb2;refine w_ (l_ (h:=s_ (h:=e_ (A4 (A7 (?_))))));refine A8 ?_;rw[Hp,if_neg k1,if_pos (by simpa using hc2)];rfl
 have hc2:=bp hb2;refine AA (w_ (l_ (h:=l_ (h:=l_ (h:=?_)))));refine A6 rfl (AE (fS s p c k hs h1 h2 ht hit) ?_);rintro r rfl;refine s_ (h:=e_ (A4 (?_)));refine A8 ?_;rw[Hp,if_neg k1,if_neg (by simpa using hc2)];rfl
variable (hv:SpcV s)
include hv
end
def Nm:Rul:=⟨2,2,1,[⟨3,1,0,⟨#[]⟩,0⟩],0,⟨#[]⟩,0,⟨#[]⟩⟩
def Nn:Rul:=⟨3,1,1,[],0,⟨#[]⟩,0,⟨#[107]⟩⟩
def FH:List Rul:=[Nm,Nn]
def FJ:Pol:=⟨FH,[DU,DU]⟩
def Gk(u:Int):Ctx:={dQ u with audited:=true}
theorem Uy:∀r∈FH,CN r:=by
 intro r hr;simp[FH]at hr;rcases hr with rfl|rfl<;>exact⟨by decide,by decide,by decide,by decide⟩
theorem fT(s:Spc):GL s FH=(FJ,0):=by
 have hp:∀r∈FH,CF s r=(DU,0):=by
  intro r hr;simp[FH]at hr;rcases hr with rfl|rfl<;>exact if_pos rfl
 rw[UW (by decide) fun r hr=>by rw[hp r hr]]
 have:E6 s FH=[DU,DU]:=by
  simp[E6,FH,hp Nm (by simp[FH]),hp Nn (by simp[FH])]
 rw[this];rfl
theorem fU(s:Spc):Hp s FJ (Gk 0)=⟨false,0,⟨#[]⟩⟩:=by
 rw[Hp,if_neg (by decide),if_pos (by decide)];decide
theorem fV(s:Spc):Hp s FJ (Gk 5)=⟨true,1,⟨#[107]⟩⟩:=by
 rw[Hp,if_neg (by decide),if_neg (by decide),Nl];rw[show FG s FJ (Gk 5).items=[false,false] by simp[FG,FJ,FH,Nm,Nn,Lj]];decide
theorem fW:(Fr 1).2=0:=by decide+kernel
section
theorem fX:AFn prog 34 [] (fun x=>x= .v (.bool true)):=by
 have hnew:AFn prog 60 [.v (.int .i64 1)] (fun r=>r= .tup [.agg (Tk (Fr 1).1), .v (.int .i64 0)]):=(cG 1).mono fun r hr=>by rw[hr,NY,fW]
 have hv:=UX.1.v;have hm:=UX.1.m;obtain⟨S0,hS0⟩:∃S,S=(Fr 1).1:=⟨_,rfl⟩;rw[←hS0]at hnew hv hm;clear hS0;have hmm:S0.spc.mounts.length≤1000:=by omega
 have ht:∀r∈FJ.rules,r.tests.length≤1000:=fun r hr=>(Uy r hr).2.2.2;have hload:AFn prog 41 [.sl 8 (FH.map AO) none, .agg (Ag S0.spc)] (fun r=>r= .tup [.agg (BV FJ), .v (.int .i64 0)]):=(dY S0.spc FH hv hmm (by decide) Uy).mono fun r hr=>by rw[hr,fT];rfl
 have hd0:AFn prog 26 [.agg (BV FJ), .agg (Ag S0.spc), .agg (De (Gk 0) KF)] (fun r=>r= .agg [.v (.bool false), .v (.int .i64 0), .v (.string ⟨#[]⟩)]):=(Ux S0.spc FJ (Gk 0) KF (hv.b hmm) (by decide) rfl ht (by decide)).mono fun r hr=>by rw[hr,fU];rfl
 have hd5:AFn prog 26 [.agg (BV FJ), .agg (Ag S0.spc), .agg (De (Gk 5) KF)] (fun r=>r= .agg [.v (.bool true), .v (.int .i64 1), .v (.string ⟨#[107]⟩)]):=(Ux S0.spc FJ (Gk 5) KF (hv.b hmm) (by decide) rfl ht (by decide)).mono fun r hr=>by rw[hr,fV];rfl
 refine enter Tryz.func34 rfl rfl rfl rfl rfl 0 rfl ?_;refine w_ (a_ (h:=e_ (w_ (?_))));refine A6 rfl (AE (hnew) ?_);rintro r rfl;refine m_ (h:=x_ (h:=x_ (h:=Aa (h:=s_ (h:=a_ (h:=e_ (w_ (Ab (h:=Bc (h:=?_))))))))));refine A6 rfl (H7 (y:= .agg (AO Nm)) (E8 ⟨rfl,rfl⟩) ?_);refine A6 rfl (H7 (y:= .agg (AO Nn)) (E8 ⟨rfl,rfl⟩) ?_);refine Bc (h:=a_ (h:=e_ (w_ (m_ (h:=f_ (h:=l_ (h:=?_)))))));refine A6 rfl (AE (hload) ?_);rintro r rfl;refine m_ (h:=x_ (h:=x_ (h:=Aa (h:=s_ (h:=a_ (h:=e_ (w_ (l_ (h:=f_ (h:=l_ (h:=Ab (h:=?_))))))))))));refine A6 rfl (H7 (y:= .agg (De (Gk 0) KF)) (E8 ⟨rfl,rfl⟩) ?_);refine A6 rfl (AE (hd0) ?_);rintro r rfl;refine Aa (h:=s_ (h:=e_ (w_ (l_ (h:=f_ (h:=l_ (h:=Ab (h:=?_))))))));refine A6 rfl (H7 (y:= .agg (De (Gk 5) KF)) (E8 ⟨rfl,rfl⟩) ?_);refine A6 rfl (AE (hd5) ?_);rintro r rfl;refine Aa (h:=s_ (h:=e_ (w_ (m_ (h:=AN (h:=m_ (h:=?_)))))));refine AU true rfl rfl (fun hb1=>?_) (fun hb1=>?_)
 ·have hc1:=bp hb1;refine f_ (h:=l_ (h:=B7 (h:=AD (h:=m_ (h:=?_)))));refine AU true rfl rfl (fun hb2=>?_) (fun hb2=>?_)
  ·have hc2:=bp hb2;refine f_ (h:=l_ (h:=AN (h:=AD (h:=m_ (h:=?_)))));refine AU true rfl rfl (fun hb3=>?_) (fun hb3=>?_)
   ·have hc3:=bp hb3;refine f_ (h:=l_ (h:=AD (h:=m_ (h:=?_))));refine AU true rfl rfl (fun hb4=>?_) (fun hb4=>?_)
    ·have hc4:=bp hb4;refine f_ (h:=l_ (h:=AN (h:=AD (h:=m_ (h:=?_)))));refine AU true rfl rfl (fun hb5=>?_) (fun hb5=>?_)
     ·have hc5:=bp hb5;refine f_ (h:=l_ (h:=AN (h:=AD (h:=a_ (h:=e_ (A4 (?_)))))));refine A8 ?_
      first|rfl|(exfalso;first|contradiction|omega)|exact vb (by simp)
     have hc5:=bp hb5;refine A3 (h:=A3 (h:=A3 (h:=AG (h:=a_ (h:=e_ (A4 (?_)))))));refine A8 ?_
     first|rfl|(exfalso;first|contradiction|omega)|exact vb (by simp)
    have hc4:=bp hb4;refine A3 (h:=A3 (h:=A3 (h:=AG (h:=m_ (h:=A3 (h:=A3 (h:=A3 (h:=AG (h:=a_ (h:=e_ (A4 (?_))))))))))));refine A8 ?_
    first|rfl|(exfalso;first|contradiction|omega)|exact vb (by simp)
   have hc3:=bp hb3;refine A3 (h:=A3 (h:=AG (h:=m_ (h:=A3 (h:=A3 (h:=A3 (h:=AG (h:=m_ (h:=A3 (h:=A3 (h:=A3 (h:=AG (h:=a_ (h:=e_ (A4 (?_))))))))))))))));refine A8 ?_
   first|rfl|(exfalso;first|contradiction|omega)|exact vb (by simp)
  have hc2:=bp hb2;refine A3 (h:=A3 (h:=A3 (h:=AG (h:=m_ (h:=A3 (h:=A3 (h:=AG (h:=m_ (h:=A3 (h:=A3 (h:=A3 (h:=AG (h:=m_ (h:=A3 (h:=A3 (h:=A3 (h:=AG (h:=a_ (h:=e_ (A4 (?_)))))))))))))))))))));refine A8 ?_
  first|rfl|(exfalso;first|contradiction|omega)|exact vb (by simp)
 have hc1:=bp hb1;refine A3 (h:=A3 (h:=A3 (h:=AG (h:=m_ (h:=A3 (h:=A3 (h:=A3 (h:=AG (h:=m_ (h:=A3 (h:=A3 (h:=AG (h:=m_ (h:=A3 (h:=A3 (h:=A3 (h:=AG (h:=m_ (h:=A3 (h:=A3 (h:=A3 (h:=AG (h:=a_ (h:=?_))))))))))))))))))))))));refine e_ (A4 (?_));refine A8 ?_
 first|rfl|(exfalso;first|contradiction|omega)|exact vb (by simp)
end
structure SmP(p:Pol):Prop where
 rl:p.rules.length≤1000
 wl:p.wats.length≤1000
 ts:∀r∈p.rules,r.tests.length≤1000
theorem SmP.nil:SmP DA:=⟨by decide,by decide,by simp[DA]⟩
theorem PolOk.sm{s:Spc}{p:Pol}{n:Nat}(h:PolOk s p n)(hn:n≤1000):SmP p:=⟨Nat.le_trans h.lst.len hn,by rw[h.len];exact Nat.le_trans h.lst.len hn,fun r hr=>(h.lst.ins r hr).2.2.2⟩
theorem fY{s:Spc}{p:Pol}{n:Nat}{r:Rul}{f:Bool}(h:PolOk s p n)(hn:n≤900)(hr:CN r):SmP (CQ s p r f).1:=by
 by_cases e:(CQ s p r f).2=0
 ·exact(h.add hr e).sm (by omega)
 have:(CQ s p r f).1=DA:=by
  unfold CQ at e ⊢;split
  ·rfl
  split
  ·rfl
  rename_i c1 c2;rw[if_neg c1,if_neg c2]at e;exact absurd rfl e
 rw[this];exact SmP.nil
theorem fZ{s:Spc}{p:Pol}{n:Nat}{r:Rul}(h:PolOk s p n)(hn:n≤900):SmP (Eb p r).1:=by
 unfold Eb;split
 ·exact SmP.nil
 have hl:=h.lst.len
 have hsub:∀x∈(D0 p.rules r).1,x∈p.rules:=by
  intro x hx;unfold D0 at hx;split at hx
  ·cases hx
  split at hx
  ·cases hx
  exact List.mem_of_mem_eraseIdx hx
 have hle:(D0 p.rules r).1.length≤p.rules.length:=by
  unfold D0;split
  ·exact BO _
  split
  ·exact BO _
  exact List.length_eraseIdx_le _ _
 refine⟨by show(D0 p.rules r).1.length≤1000;omega,?_,fun x hx=>(h.lst.ins x (hsub x hx)).2.2.2⟩;have:=List.length_eraseIdx_le p.wats (CL p.rules r).toNat;have hw:=h.len;show(p.wats.eraseIdx (CL p.rules r).toNat).length≤1000;omega
section
theorem g7(l:List Int):AFn prog 11 [.sl 1 (l.map FP) none] (fun r=>r= .v (.bool true)):=by
 refine enter Tryz.func11 rfl rfl rfl rfl rfl 0 rfl ?_;refine w_ (a_ (h:=e_ (w_ (m_ (h:=?_)))));refine A6 rfl (Va rfl (by repeat (first|exact Args.nil|refine Args.cons _ _ _ _ _ rfl (G0 rfl) ?_|refine Args.cons _ _ _ _ _ rfl (Gx _) ?_|refine Args.cons _ _ _ _ _ rfl (GQ _) ?_|refine Args.cons _ _ _ _ _ rfl (H0 rfl (by repeat (first|exact AZ _|exact LeA.nil _|exact LeL.refl _|refine LeA.agg ?_|refine LeA.tup ?_|exact LeL.nil|refine LeL.cons ?_ ?_|exact LeA.any _))) ?_)) rfl (YS l) (by repeat constructor) ?_)
 skip
 refine a_ (h:=e_ (w_ (m_ (h:=?_))));refine A6 rfl (Au 0 (hc:=Yt l _ (by omega)) (hR:=?_));rintro r a1 ha1 ⟨s,rfl,hv,hm⟩;refine⟨rfl,_,(by repeat constructor),?_⟩;have hmm:s.mounts.length≤1000:=by omega
 have hsb:=hv.b hmm;refine Aa (h:=s_ (h:=e_ (w_ (m_ (h:=l_ (h:=?_))))));refine A6 rfl (Au 0 (hc:=eZ l _ 6 s (by omega) (by omega) hv hmm) (hR:=?_));rintro r a2 ha2 ⟨p0,hp0,rfl⟩;refine⟨rfl,_,(by repeat constructor),?_⟩;refine Aa (h:=s_ (h:=e_ (q_ (w_ (a_ (h:=e_ (Af (?_))))))));refine BW (fun n S=>∃(j b:Nat) (p:Pol),j≤6∧n=6 - j∧b≤a2+j * 300∧PolOk s p (20+j)∧S=⟨look [(3, .bp 0 0),(4, .bp 1 0),(5, .bp 2 0),(6, .v (.int .i64 (j:Int)))],⟨[D1 l b,Ag s,BV p],[]⟩⟩) (6) ((wk 3 0)) (⟨0,a2,p0,by omega,rfl,by omega,hp0,rfl⟩) ?_;rintro n S ⟨j,b,p,hj,rfl,hb,hp,rfl⟩;refine q_ (w_ (m_ (h:=B1 (h:=e_ (?_)))));refine A9 rfl (fun hb1=>?_) (fun hb1=>?_)
 ·have hc1:=bp hb1;have hlm:((p.rules.map AO).length:Int)≤1000:=by have:=hp.lst.len;simp;omega
  refine AA (q_ (Af (w_ (m_ (h:=?_)))));refine A6 rfl (Au 0 (hc:=Uh l _ (by omega)) (hR:=?_));rintro r a3 ha3 ⟨x,hx,rfl⟩;refine⟨rfl,_,(by repeat constructor),?_⟩;refine m_ (h:=?_);refine A6 rfl (Au 0 (hc:=Gn l _ (2) (by omega) (by omega)) (hR:=?_));rintro r a4 ha4 ⟨k4,rfl,p4,q4,o4⟩;refine⟨rfl,_,(by repeat constructor),?_⟩;refine AN (h:=Aa (h:=s_ (h:=a_ (h:=e_ (?_)))));refine CH (fun S=>∃(x:Rul) (f:Bool) (b1:Nat),b1≤a2+j * 300+250∧CN x∧S=⟨look [(3, .bp 0 0),(4, .bp 1 0),(5, .bp 2 0),(6, .v (.int .i64 (j:Int))),(7, .bp 3 0),(8, .v (.bool f))],⟨[D1 l b1,Ag s,BV p,AO x],[]⟩⟩) ?_ ?_
  ·skip
   refine w_ (f_ (h:=l_ (h:=n_ (h:=Bf (h:=m_ (h:=?_))))));refine AU true rfl rfl (fun hb2=>?_) (fun hb2=>?_)
   ·have hc2:=bp hb2;refine m_ (h:=?_);refine Ax (Au 0 (hc:=Gn l _ (3) (by omega) (by omega)) (hR:=?_));rintro r a5 ha5 ⟨k5,rfl,p5,q5,o5⟩;refine⟨rfl,_,(by repeat constructor),?_⟩;refine AN (h:=AD (h:=e_ (?_)));refine A9 rfl (fun hb3=>?_) (fun hb3=>?_)
    ·have hc3:=bp hb3;refine CB ([(1,Ag s),(2,BV p)]) 10 (h:=Az 0 (h:=AY 1 (h:=Ap 2 (h:=Az 3 (h:=AY 4 (h:=H4 5 (h:=?_)))))));refine c_ 6 rfl (Au 0 (hc:=Gn l _ ((p.rules.map AO).length:Int) (by omega) (by omega)) (hR:=?_));rintro r a6 ha6 ⟨k6,rfl,p6,q6,o6⟩;refine⟨rfl,_,(by repeat constructor),?_⟩;obtain⟨q,rfl⟩:=Int.eq_ofNat_of_zero_le p6
     have hql:q<p.rules.length:=by
      simp at hc2;simp at q6;omega
     obtain⟨y,hy⟩:∃y,p.rules[q]?=some y:=⟨_,BQ hql⟩;have hrow:(p.rules.map AO)[q]?=some (AO y):=by rw[List.getElem?_map,hy];rfl
     refine o_ (h:=Dj 7 (h:=AY 8 (h:=?_)));refine Bi 9 rfl (Ba rfl rfl rfl rfl rfl rfl (by repeat constructor) (by repeat constructor) ?_);refine o_ (h:=z_ (h:=?_));refine AK ?_
     first|exact⟨_,⟨y,_,_,(by omega),hp.lst.ins y (Ar hy),rfl⟩,Ay 4 0 rfl rfl rfl rfl ((by repeat (first|exact Sub.nil|refine B0 rfl rfl ?_|refine B2 ?_|refine B3 rfl ?_|refine B4 rfl ?_)))⟩|exact⟨_,⟨x,_,_,(by omega),hx,rfl⟩,Ay 4 0 rfl rfl rfl rfl ((by repeat (first|exact Sub.nil|refine B0 rfl rfl ?_|refine B2 ?_|refine B3 rfl ?_|refine B4 rfl ?_)))⟩
    have hc3:=bp hb3;refine Av (?_);refine AK ?_
    first|exact⟨_,⟨y,_,_,(by omega),hp.lst.ins y (Ar hy),rfl⟩,Ay 4 0 rfl rfl rfl rfl ((by repeat (first|exact Sub.nil|refine B0 rfl rfl ?_|refine B2 ?_|refine B3 rfl ?_|refine B4 rfl ?_)))⟩|exact⟨_,⟨x,_,_,(by omega),hx,rfl⟩,Ay 4 0 rfl rfl rfl rfl ((by repeat (first|exact Sub.nil|refine B0 rfl rfl ?_|refine B2 ?_|refine B3 rfl ?_|refine B4 rfl ?_)))⟩
   have hc2:=bp hb2;refine A3 (h:=A3 (h:=A3 (h:=AG (h:=e_ (Bh (h:=Av (?_)))))));refine AK ?_
   first|exact⟨_,⟨y,_,_,(by omega),hp.lst.ins y (Ar hy),rfl⟩,Ay 4 0 rfl rfl rfl rfl ((by repeat (first|exact Sub.nil|refine B0 rfl rfl ?_|refine B2 ?_|refine B3 rfl ?_|refine B4 rfl ?_)))⟩|exact⟨_,⟨x,_,_,(by omega),hx,rfl⟩,Ay 4 0 rfl rfl rfl rfl ((by repeat (first|exact Sub.nil|refine B0 rfl rfl ?_|refine B2 ?_|refine B3 rfl ?_|refine B4 rfl ?_)))⟩
  rintro S ⟨x,f,b1,hb1,hx,rfl⟩;have hpl:=hp.lst.len;have sx:=fY (f:=f) hp (by omega) hx;have sy:=fZ (r:=x) hp (by omega);have hadd1:AFn prog 55 [.agg (BV p), .agg (Ag s), .agg (AO x), .v (.bool f)] (fun r=>r= .tup [.agg (BV (CQ s p x f).1), .v (.int .i64 (CQ s p x f).2)]):=eN s p x hv hmm (by omega) hp.len hp.lst.ins hx f;have hadd2:AFn prog 57 [.agg (BV p), .agg (Ag s), .agg (AO x), .v (.bool f)] (fun r=>r= .tup [.agg (BV (CQ s p x f).1), .v (.int .i64 (CQ s p x f).2)]):=Lg s p x hv hmm (by omega) hp.len hp.lst.ins hx f;have hrem1:AFn prog 58 [.agg (BV p), .agg (AO x)] (fun r=>r= .tup [.agg (BV (Eb p x).1), .v (.int .i64 (Eb p x).2)]):=eU p x (by omega) hp.len hp.lst.ins _ rfl;have hrem2:AFn prog 59 [.agg (BV p), .agg (AO x)] (fun r=>r= .tup [.agg (BV (Eb p x).1), .v (.int .i64 (Eb p x).2)]):=eV p x (by omega) hp.len hp.lst.ins _ rfl;have hpa:=fun e=>hp.add (f:=f) hx e;generalize CQ s p x f=X at hadd1 hadd2 sx hpa;generalize Eb p x=Y at hrem1 hrem2 sy;refine w_ (l_ (h:=l_ (h:=l_ (h:=m_ (h:=?_)))));refine A6 rfl (AE (hadd1) ?_);rintro r rfl;refine m_ (h:=x_ (h:=x_ (h:=Aa (h:=s_ (h:=a_ (h:=e_ (w_ (l_ (h:=l_ (h:=l_ (h:=m_ (h:=?_))))))))))));refine A6 rfl (AE (hadd2) ?_);rintro r rfl;refine m_ (h:=x_ (h:=x_ (h:=Aa (h:=s_ (h:=a_ (h:=e_ (w_ (l_ (h:=l_ (h:=?_))))))))));refine A6 rfl (AE (hrem1) ?_);rintro r rfl;refine m_ (h:=x_ (h:=x_ (h:=Aa (h:=s_ (h:=a_ (h:=e_ (w_ (l_ (h:=l_ (h:=?_))))))))));refine A6 rfl (AE (hrem2) ?_);rintro r rfl;refine m_ (h:=x_ (h:=x_ (h:=Aa (h:=s_ (h:=a_ (h:=e_ (q_ (w_ (m_ (h:=m_ (h:=Aj (h:=m_ (h:=?_)))))))))))));refine AU false rfl rfl (fun hb4=>?_) (fun hb4=>?_)
  ·have hc4:=bp hb4;simp at hc4
  have hc4:=bp hb4;refine m_ (h:=m_ (h:=Aj (h:=AG (h:=m_ (h:=?_)))));refine AU false rfl rfl (fun hb5=>?_) (fun hb5=>?_)
  ·have hc5:=bp hb5;simp at hc5
  have hc5:=bp hb5;refine l_ (h:=l_ (h:=?_));refine Ax (AE (Uc X.1 sx.rl sx.wl sx.ts) ?_);rintro r rfl;refine B7 (h:=AG (h:=m_ (h:=?_)));refine AU false rfl rfl (fun hb6=>?_) (fun hb6=>?_)
  ·have hc6:=bp hb6;simp at hc6
  have hc6:=bp hb6;refine l_ (h:=l_ (h:=?_));refine Ax (AE (Uc Y.1 sy.rl sy.wl sy.ts) ?_);rintro r rfl;refine B7 (h:=AG (h:=e_ (?_)));refine A9 rfl (fun hb7=>?_) (fun hb7=>?_)
  ·have hc7:=bp hb7;simp at hc7
  have hc7:=bp hb7;refine AA (w_ (m_ (h:=AN (h:=e_ (?_)))));refine A9 rfl (fun hb8=>?_) (fun hb8=>?_)
  ·have hc8:=bp hb8;have hp2:=hpa (by simpa using hc8);refine AT (l_ (h:=s_ (h:=AP (Ai (t_ (AT (m_ (h:=B5 (h:=a_ (h:=AP (?_)))))))))));refine AK ?_;refine⟨_,_,?_,⟨j+1,_,_,by omega,rfl,?_,hp2,rfl⟩,Ay 3 0 rfl rfl rfl rfl ((by repeat (first|exact Sub.nil|refine B0 rfl rfl ?_|refine B2 ?_|refine B3 rfl ?_|refine B4 rfl ?_)))⟩<;>omega
  have hc8:=bp hb8;have hp2:=hp.mono (Nat.le_succ _);refine Av (Ai (t_ (AT (m_ (h:=B5 (h:=a_ (h:=AP (?_))))))));refine AK ?_;refine⟨_,_,?_,⟨j+1,_,_,by omega,rfl,?_,hp2,rfl⟩,Ay 3 0 rfl rfl rfl rfl ((by repeat (first|exact Sub.nil|refine B0 rfl rfl ?_|refine B2 ?_|refine B3 rfl ?_|refine B4 rfl ?_)))⟩<;>omega
 have hc1:=bp hb1;refine BH (Ah (Ah (BJ (t_ (w_ (l_ (h:=l_ (h:=?_))))))));refine A6 rfl (AE (eH s p hsb (by have:=hp.lst.len;omega) hp.lst.ins) ?_);rintro r rfl;rw[hp.sound hv];refine m_ (h:=?_);refine AU true rfl rfl (fun hb9=>?_) (fun hb9=>?_)
 ·have hc9:=bp hb9;refine Ax (AE (fX) ?_);rintro r rfl;refine AD (h:=a_ (h:=e_ (A4 (?_))));refine A8 ?_
  first|rfl|(exfalso;first|contradiction|omega|(simp_all;done))
 have hc9:=bp hb9;refine A3 (h:=AG (h:=a_ (h:=e_ (A4 (?_)))));refine A8 ?_
 first|rfl|(exfalso;first|contradiction|omega|(simp_all;done))
end
theorem FilterChanges_walk{H:Type}{enc:TypeId×Value→H}{sp:Nat→Bool}{held:Bool}{base:Nat}(a:Option Addr)(n c:Nat)(w:World){d:DataW H}{p:List MemPlace}(h:DataW.Trod enc prog w base sp held 22 (.slice a n c) d p):
    Calls prog 11 #[.slice a n c] w fun e w'=>e= .returned (.bool true)∧Below w.heap.size w w':=Z4 g7 a n c w h
end Go.Proofs.YtbgnigjfkbmceaaGreatDoor
