/-
  Part 16 of the proof of FilterDecidesP: what the statement's proof uses of the texts in wip/tpl.
-/
import Derived.Test.YtbgnigjfkbmceaaGreatDoorQh15
open Go.Proofs.Tryz (prog)
set_option maxRecDepth 10000
set_option maxHeartbeats 4000000
set_option linter.unusedVariables false
set_option linter.unusedSimpArgs false
namespace Go.Proofs.YtbgnigjfkbmceaaGreatDoor
open Go.RowKit
def qF(s:Spc)(r:Rul)(w:Wch)(x:Itm):Bool:=decide (GZ .i64 x.perm r.perm≠0)&&CK s w x.dir x.name x.file
def N1(s:Spc)(r:Rul)(w:Wch)(items:List Itm):Bool:=decide (r.watch≠0)&&items.any (qF s r w)
def J8(s:Spc)(p:Pol)(items:List Itm):List Bool:=List.zipWith (fun r w=>N1 s r w items) p.rules p.wats
theorem Za{s:Spc}{p:Pol}{items:List Itm}{j:Nat}{r:Rul}{w:Wch}(hr:p.rules[j]?=some r)(hw:p.wats[j]?=some w):(J8 s p items)[j]?=some (N1 s r w items):=by
 simp[J8,List.getElem?_zipWith,hr,hw]
theorem Ug{s:Spc}{p:Pol}{items:List Itm}(h:p.wats.length=p.rules.length):(J8 s p items).length=p.rules.length:=by simp[J8,h]
theorem Zb{α:Type}(q:α→Bool):∀(l:List α) (i:Nat),decide (0≤DV (fun _ x=>q x) l i)=l.any q
 |[],_=>rfl
 |x::xs,i=>by
   rw[DV,List.any_cons];split
   ·rename_i h;rw[h];simp
   rename_i h;rw[Zb q xs (i+1)];simp[h]
def Rw(b:Bool):AV:= .v (.bool b)
def HB(L:List Bool)(j:Nat):List AV:=(L.take j++List.replicate (L.length - j) false).map Rw
theorem oY(L:List Bool){j:Nat}(h:j≤L.length):(HB L j).length=L.length:=by simp[HB];omega
theorem oZ(L:List Bool):HB L 0=List.replicate L.length (.v (.bool false)):=by simp[HB,Rw]
theorem pA{L:List Bool}{j:Nat}{b:Bool}(h:L[j]?=some b):(HB L j).set j (.v (.bool b))=HB L (j+1):=by
 obtain⟨hj,e⟩:=Af.1 h;unfold HB;rw[show(AV.v (.bool b))=Rw b from rfl,←List.map_set,List.take_succ_eq_append_getElem hj,e,show L.length - j=(L.length - (j+1))+1 by omega,List.replicate_succ]
 congr 1
 rw[List.set_append_right _ _ (by simp;omega)];simp[show min j L.length=j by omega]
theorem Zc{L:List Bool}{j:Nat}(h:L[j]?=some false):HB L j=HB L (j+1):=by
 obtain⟨hj,e⟩:=Af.1 h;unfold HB;rw[List.take_succ_eq_append_getElem hj,e,show L.length - j=(L.length - (j+1))+1 by omega,List.replicate_succ,List.append_assoc];rfl
theorem Zd{G:Gh}{w:World}{u:Value}:∀n:Nat,AN G w (List.replicate n (.v u)) (List.replicate n u)
 |0=>by simp[AN]
 |n+1=>by
   simp only[List.replicate_succ,AN,rep];exact⟨_,_,rfl,rfl,Zd n⟩
section
variable {P:Program}{ev:Operand→Option AV}{h:AH}{R:AV→AH→Prop}{d:Option Tmp}{ty:TypeId}{pos:String}{af:Array Edge}{gd:Option (Nat×Bool)}
theorem pB{T:TypeId}{x y:Operand}{E bytes m k:Nat}{i j:Int}{u:Value}{bx':List (List AV)}[hE:Elm P T E 1 bytes][hzr:Zer P E [.v u]](hx:ev x=some (.v (.int .i64 i)))(hy:ev y=some (.v (.int .i64 j)))(hi:i=(m:Int))(hj:j=(m:Int))(hm0:0<m)(hm:m≤1000000)
    (hset:SnocAt h.bx (List.replicate m (.v u)) k bx') (hR:R (.bs k 0 1 m m) ⟨bx',h.tk⟩):AStep P ⟨d, .makeSlice T x y,ty,pos,af,gd⟩ ev h R:=by
 intro E' G w ec hr he;have k1:=he x (by simp[Op.operands]) _ hx;have k2:=he y (by simp[Op.operands]) _ hy;simp only[rep]at k1 k2;subst hi hj;obtain⟨hu,inf,z,hinf,hz,hzs,hs,hby,hp⟩:=Gz hE.eq;have hw:IntKind.i64.wrap (m:Int)=m:=IntWalk.i64_in _ (by omega)
 have hbig:¬(inf.bytes:Int) * (m:Int)>2 ^ 48:=by
  have h1:inf.bytes * m≤100000 * 1000000:=Nat.mul_le_mul (by rw[hby];exact hE.few) (by omega);have h2:((inf.bytes * m:Nat):Int)≤100000000000:=by omega
  rw[Int.natCast_mul]at h2;omega
 have hneg:¬((m:Int)<0):=by omega
 obtain⟨zs,z1,z2,z3⟩:=hzr.eq;obtain⟨inf',z',k3,k4,k5⟩:=QE z1;rw[hinf]at k3;injection k3 with k3;subst k3;rw[hz]at k4;injection k4 with k4;subst k4
 obtain⟨v,rfl⟩:∃v,zs=[v]:=by
  match zs,z2 with
  |[v],_=>exact⟨v,rfl⟩
 obtain rfl:v=u:=by simpa using z2
 have hone:v.oneCell'=true:=by simpa using z3
 have hcells:((Array.range (m * 1)).map fun x=>z.cells[x % z.cells.size]!)=(List.replicate m v).toArray:=by
  rw[k5];apply Array.ext
  ·simp
  intro i h1 h2;simp[Nat.mod_one]
 have hrun:(Instr.makeSlice T (.int .i64 m) (.int .i64 m)).run P w= .ok (.slice (some ⟨w.heap.size,0,none⟩) m m) (w.alloc (.cells (List.replicate m v).toArray E)):=by
  rw[←hcells];have h0:¬m=0:=by omega
  have hnb:(inf.bytes:Int) * (m:Int)≤2 ^ 48:=by omega
  simp[Instr.makeSlice,run_underlying hu,asInt,asIntOf,typeInfo,hinf,hw,hneg,sizeOf,hs,h0,newRow,zeroValue,hz];omega
 obtain⟨G',s1,s2,s3⟩:=Nv (T:=E) hr (Zd (u:=v) m) (fun q hq=>by rw[List.eq_of_mem_replicate hq];exact hone) hset;simp only[rep]at s3;obtain⟨b',s4,s5⟩:=s3;simp only[execOp,k1,k2,Sem.run_bind,hrun,Result.andThen_ok,Sem.run_pure];refine⟨_,_,G',hR,s1,s2,?_⟩;simp only[rep];injection s5 with s5;injection s5 with s5;injection s5 with s5;exact⟨b',s4,by rw[s5],B7 _,by unfold maxLen;omega⟩
end
section
theorem pC(s:Spc)(r:Rul)(w:Wch)(x:Itm)(hs:SpcB s):AFn prog 72 [.agg (Dl x), .fp (Ab r), .fp (AW s), .fp (EC w)] (fun y=>y= .v (.bool (qF s r w x))):=by
 refine enter Tryz.func72 rfl rfl rfl rfl rfl 0 rfl ?_;refine EG (h:=BO (h:=Ay (h:=AO (h:=ES (h:=FD (h:=?_))))));refine AJ true rfl rfl (fun hb1 hc1=>?_) (fun hb1 hc1=>?_)
 ·refine H7 (h:=l_ (h:=?_));refine As (A8 (oW s w x hs) ?_);rintro r rfl;refine Gf (h:=?_);refine A6 ?_
  first|(exfalso;first|contradiction|omega)|(exact vb (by simp_all [qF]))
 refine BB (h:=Bh (h:=Az (h:=?_)));refine A6 ?_
 first|(exfalso;first|contradiction|omega)|(exact vb (by simp_all [qF]))
theorem pD(l:List Itm)(hl:l.length≤1000)(q:Itm→Bool)(f:FuncId)(caps:List AV)[Fun prog f](hcl:Kx caps=true)(hbl:AQ 0 0 (.fn f caps)=true)
    (hp:∀x,AFn prog f ([.agg (Dl x)]++caps) (fun y=>y= .v (.bool (q x)))):AFn prog 118 [.sl 13 (l.map Dl) none, .fn f caps] (fun r=>r= .v (.int .i64 (DV (fun _ x=>q x) l 0))):=by
 refine enter Tryz.func118 rfl rfl rfl rfl rfl 0 rfl ?_;refine w_ (Bo (h:=JP (h:=e_ (BF (?_)))));refine BM (fun m t=>∃j:Nat,j≤l.length∧m=l.length - j∧DV (fun _ x=>q x) (l.drop j) j=DV (fun _ x=>q x) l 0∧t=⟨look [(0, .sl 13 (l.map Dl) none),(1, .fn f caps),(7, .v (.int .i64 ((l.map Dl).length:Int))),(8, .v (.int .i64 (j:Int)))],⟨[],[]⟩⟩) (l.length) (Ah 0 0 rfl rfl rfl rfl (by repeat (first|exact Sub.nil|refine Ai rfl rfl ?_|refine Sub.cons _ _ _ rfl hbl ?_|refine Ap ?_|refine Aq rfl ?_|refine Ar rfl ?_))) (⟨0,by omega,rfl,rfl,rfl⟩) ?_;rintro m t ⟨j,hj,rfl,ha,rfl⟩;refine w_ (Cv (h:=q_ (?_)));refine A4 rfl (fun hb1 hc1=>?_) (fun hb1 hc1=>?_)
 ·obtain⟨hlt,x,hy,hrow, -⟩:=Br Dl hc1;refine By (h:=Aa (h:=Bt (h:=m_ (h:=GG (h:=l_ (h:=?_))))));refine A3 rfl (ST (cy:=[]) rfl (by repeat (first|exact Args.nil|refine Args.cons _ _ _ _ _ rfl (LP rfl) ?_|refine Args.cons _ _ _ _ _ rfl (MZ _) ?_|refine Args.cons _ _ _ _ _ rfl (Lq _) ?_|refine Args.cons _ _ _ _ _ rfl (Md rfl (by repeat (first|exact A7 _|exact LeA.nil _|exact LeL.refl _|refine LeA.agg ?_|refine LeA.tup ?_|exact LeL.nil|refine LeL.cons ?_ ?_|exact LeA.any _))) ?_)) hcl rfl (hp x) ?_);rintro y rfl;refine e_ (?_);refine A4 rfl (fun hb2 hc2=>?_) (fun hb2 hc2=>?_)
  ·refine Aa (h:=Ax (h:=Dk (h:=?_)));refine A6 ?_
   first|(exfalso;first|contradiction|omega)|(exact vi (by rw[←ha,Mk hy,if_pos hc2]))
  refine BG (BA (t_ (Aw (JQ (h:=?_)))));refine⟨_,_,?_,⟨j+1,by omega,rfl,(by rw[←ha,Mk hy];simp[*]),rfl⟩,Ah 0 0 rfl rfl rfl rfl (by repeat (first|exact Sub.nil|refine Ai rfl rfl ?_|refine Sub.cons _ _ _ rfl hbl ?_|refine Ap ?_|refine Aq rfl ?_|refine Ar rfl ?_))⟩;omega
 have e3:=C6 Dl hj hc1;subst e3;refine Fk (h:=?_);refine A6 ?_
 first|(exfalso;first|contradiction|omega)|(exact vi (by rw[←ha,R6]))
theorem pE(l:List Itm)(hl:l.length≤1000)(q:Itm→Bool)(f:FuncId)(caps:List AV)[Fun prog f](hcl:Kx caps=true)(hbl:AQ 0 0 (.fn f caps)=true)
    (hp:∀x,AFn prog f ([.agg (Dl x)]++caps) (fun y=>y= .v (.bool (q x)))):AFn prog 71 [.sl 13 (l.map Dl) none, .fn f caps] (fun r=>r= .v (.bool (l.any q))):=by
 refine enter Tryz.func71 rfl rfl rfl rfl rfl 0 rfl ?_;refine EL (h:=m_ (h:=?_));refine A3 rfl (VM rfl (by repeat (first|exact Args.nil|refine Args.cons _ _ _ _ _ rfl (LP (by first|rfl|exact hcl)) ?_)) (pD l hl q f caps hcl hbl hp) ?_);rintro y rfl;refine DR (h:=Az (h:=?_));refine A6 ?_;exact vb (Zb q l 0)
end
theorem Ze:RowF 1 Dn:=⟨fun _=>rfl,fun b y hy=> .inl ⟨.bool b,by simpa[Dn]using hy⟩,by decide⟩
theorem Zf:∀L:List Bool,(L.map Dn).flatten=L.map Rw
 |[]=>rfl
 |x::xs=>by simp only[List.map_cons,List.flatten_cons,Zf xs];rfl
theorem Zg{L:List Bool}{j:Nat}(h:j≤L.length):HB L j=LB 1 Dn (L.take j++List.replicate (L.length - j) false) L.length:=by
 unfold LB Cc HB;rw[Zf];simp;omega
theorem pF(L:List Bool):HB L L.length=LB 1 Dn L L.length:=by
 rw[Zg (B7 _)];simp
theorem Pr{L:List Bool}{j n m:Nat}(h:j≤L.length):AT n m (HB L j)=true:=by rw[Zg h];exact Bq Ze
theorem pG{L:List Bool}{j:Nat}{b:Bool}(h:L[j]?=some b):SetAt (HB L j) (0+j * 1) (CX (.v (.bool b))) (HB L (j+1)):=by
 have hj:j<L.length:=(Af.1 h).1;rw[←pA h,show 0+j * 1=j by omega];exact SetAt.put1 (by rw[oY L (by omega)];exact hj)
section
theorem pH(s:Spc)(p:Pol)(items:List Itm)(h0:p.rules=[]):AFn prog 32 [.agg (Bn p), .agg (AW s), .sl 13 (items.map Dl) none] (fun r=>r= .sl 1 ((J8 s p items).map Dn) none):=by
 rw[show J8 s p items=[] by simp[J8,h0],show Bn p=[.sl 8 [] none, .sl 6 (p.wats.map EC) none] by simp[Bn,h0]];refine enter Tryz.func32 rfl rfl rfl rfl rfl 0 rfl ?_;refine FC (h:=Ay (h:=n_ (h:=?_)));refine A3 rfl (SV rfl rfl (by decide) (by repeat constructor) ?_);refine Fy (h:=JP (h:=e_ (BF (?_))));refine BM (fun n S=>n=0∧S=⟨look [(7, .sl 1 [] (some 0)),(17, .v (.int .i64 0)),(18, .v (.int .i64 0))],⟨[[.sl 8 [] none, .sl 6 (p.wats.map EC) none],AW s],[(4,1,[])]⟩⟩) (0) ((wk 2 1)) (⟨rfl,rfl⟩) ?_;rintro n S ⟨rfl,rfl⟩;refine w_ (Cv (h:=q_ (?_)));refine A4 rfl (fun hb1 hc1=>?_) (fun hb1 hc1=>?_)
 ·simp at hc1
 refine CP (h:=Dv (h:=?_));refine A6 ?_;rfl
theorem pJ(s:Spc)(p:Pol)(items:List Itm)(hs:SpcB s)(h0:0<p.rules.length)(h1:p.rules.length≤1000)(h2:p.wats.length=p.rules.length)(hit:items.length≤1000)(L:List Bool)(hL:J8 s p items=L):AFn prog 32 [.agg (Bn p), .agg (AW s), .sl 13 (items.map Dl) none] (fun r=>r= .sl 1 (L.map Dn) none):=by
 have hlen:L.length=p.rules.length:=by rw[←hL];exact Ug h2
 refine enter Tryz.func32 rfl rfl rfl rfl rfl 0 rfl ?_;refine FC (h:=Ay (h:=n_ (h:=?_)));refine A3 rfl (pB (m:=L.length) rfl rfl (by simp[hlen]) (by simp[hlen]) (by omega) (by omega) (by repeat constructor) ?_);refine Fy (h:=JP (h:=e_ (BF (?_))));refine BM (fun n S=>∃j:Nat,j≤p.rules.length∧n=p.rules.length - j∧S=⟨look [(2, .sl 13 (items.map Dl) none),(3, .bp 0 0),(4, .bp 1 0),(7, .bs 2 0 1 L.length L.length),(16, .sl 8 (p.rules.map Ab) none),(17, .v (.int .i64 ((p.rules.map Ab).length:Int))),(18, .v (.int .i64 (j:Int)))],⟨[Bn p,AW s,HB L j],[]⟩⟩) (p.rules.length) (by rw[←oZ];exact Be 3 0 (by simp[AY,Pr,Bn,AW,AT,AQ])) (⟨0,BE _,rfl,rfl⟩) ?_;rintro n S ⟨j,hj,rfl,rfl⟩;refine w_ (Cv (h:=q_ (?_)));refine A4 rfl (fun hb1 hc1=>?_) (fun hb1 hc1=>?_)
 ·obtain⟨hlt,r,hy,hrow, -⟩:=Br Ab hc1;obtain⟨w,hyw⟩:∃w,p.wats[j]?=some w:=⟨_,B6 (by omega)⟩;have hLj:=Za (s:=s) (items:=items) hy hyw;rw[hL]at hLj;refine By (h:=Aa (h:=i_ (h:=l_ (h:=CU (h:=a_ (h:=Ei (h:=Fh (h:=Bd (h:=?_)))))))));refine A4 rfl (fun hb2 hc2=>?_) (fun hb2 hc2=>?_)
  ·have hb0:L[j]?=some false:=by rw[hLj];simp_all [N1]
   refine So (h:=LJ (t_ (Aw (JQ (h:=?_)))));refine⟨_,_,?_,⟨j+1,by omega,rfl,rfl⟩,?_⟩
   ·omega
   first|(rw[←Zc hb0];exact Be 3 0 (by simp[AY,Pr (L:=L) (j:=j) (by omega),Bn,AW,AT,AQ]))|exact Be 3 0 (by simp[AY,Pr (L:=L) (j:=j+1) (by omega),Bn,AW,AT,AQ])
  have hb2:L[j]?=some (items.any (qF s r w)):=by rw[hLj];simp_all [N1]
  refine AG (L0 (h:=?_));refine A3 rfl (A8 (nY p j w (by omega) hyw) ?_);rintro r rfl;refine Dw (h:=EK (h:=m_ (h:=Sj (h:=?_))));refine A3 rfl (Sa rfl (by repeat (first|exact ArgsL.nil|refine ArgsL.cons _ _ _ _ _ rfl rfl ?_)) (pE items hit (qF s r w) 72 [.fp (Ab r), .fp (AW s), .fp (EC w)] rfl rfl fun x=>pC s r w x hs) ?_);rintro x rfl;refine⟨rfl,?_⟩;refine A3 rfl (E1 (m:=j) rfl rfl rfl (by omega) ?_);refine Mc (Ep (row':=HB L (j+1)) rfl rfl rfl rfl rfl rfl (pG hb2) (by repeat constructor) ?_);refine Bw (BA (t_ (Aw (JQ (h:=?_)))));refine⟨_,_,?_,⟨j+1,by omega,rfl,rfl⟩,?_⟩
  ·omega
  first|(rw[←Zc hb0];exact Be 3 0 (by simp[AY,Pr (L:=L) (j:=j) (by omega),Bn,AW,AT,AQ]))|exact Be 3 0 (by simp[AY,Pr (L:=L) (j:=j+1) (by omega),Bn,AW,AT,AQ])
 have e:=C6 Ab hj hc1;subst e;refine CP (h:=?_);refine BC (fun S=>S=⟨look [(6, .sl 1 (L.map Dn) none)],⟨[Bn p,AW s],[]⟩⟩) ?_ ?_
 ·skip
  refine C2 (h:=Cw (h:=?_));rw[←hlen,pF];exact⟨_,rfl,Hg 2 1 rfl rfl (.cons _ _ _ _ rfl (LeA.of_eq (OX Ze rfl rfl (B7 _))) .nil)⟩
 rintro S rfl;refine B3 (?_);refine A6 ?_;rfl
theorem Zh(s:Spc)(p:Pol)(items:List Itm)(hv:SpcV s)(hs:SpcB s)(h1:p.rules.length≤1000)(h2:p.wats.length=p.rules.length)(hit:items.length≤1000)(L:List Bool)(hL:J8 s p items=L):AFn prog 33 [.agg (Bn p), .agg (AW s), .sl 13 (items.map Dl) none] (fun r=>r= .sl 1 (L.map Dn) none):=by
 have hlen:L.length=p.rules.length:=by rw[←hL];exact Ug h2
 refine enter Tryz.func33 rfl rfl rfl rfl rfl 0 rfl ?_;refine FC (h:=D7 (h:=DT (h:=?_)));refine N6 7 4 1 rfl (by repeat constructor) ?_;refine BM (fun n S=>∃j:Nat,j≤p.rules.length∧n=p.rules.length - j∧S=⟨look [(2, .sl 13 (items.map Dl) none),(3, .bp 0 0),(4, .bp 1 0),(7, .sl 1 ((L.take j).map Dn) (some 0)),(8, .v (.int .i64 (j:Int)))],⟨[Bn p,AW s],[(4,1,(L.take j).map Dn)]⟩⟩) (p.rules.length) ((wk 2 1)) (⟨0,BE _,rfl,rfl⟩) ?_;rintro n S ⟨j,hj,rfl,rfl⟩;refine Fz (h:=?_);refine A4 rfl (fun hb1 hc1=>?_) (fun hb1 hc1=>?_)
 ·obtain⟨hlt,r,hy,hrow, -⟩:=Br Ab hc1;obtain⟨w,hyw⟩:∃w,p.wats[j]?=some w:=⟨_,B6 (by omega)⟩;have hroww:(p.wats.map EC)[j]?=some (EC w):=by rw[List.getElem?_map,hyw];rfl
  have hLj:=Za (s:=s) (items:=items) hy hyw;rw[hL]at hLj;refine By (h:=D7 (h:=DT (h:=?_)));refine BM (fun n S=>∃k:Nat,k≤items.length∧n=items.length - k∧(r.watch=0→k=0)∧S=⟨look [(2, .sl 13 (items.map Dl) none),(3, .bp 0 0),(4, .bp 1 0),(7, .sl 1 ((L.take j).map Dn) (some 0)),(8, .v (.int .i64 (j:Int))),(9, .v (.bool ((items.take k).any (qF s r w)))),(10, .v (.int .i64 (k:Int)))],⟨[Bn p,AW s],[(4,1,(L.take j).map Dn)]⟩⟩) (items.length) ((wk 2 1)) (⟨0,BE _,rfl,fun _=>rfl,rfl⟩) ?_;rintro n S ⟨k,hk,rfl,hk0,rfl⟩;refine q_ (?_);refine BC (fun S=>S=⟨look [(2, .sl 13 (items.map Dl) none),(3, .bp 0 0),(4, .bp 1 0),(7, .sl 1 ((L.take j).map Dn) (some 0)),(8, .v (.int .i64 (j:Int))),(9, .v (.bool ((items.take k).any (qF s r w)))),(10, .v (.int .i64 (k:Int))),(30, .v (.bool (decide ((k:Int)<(items.length:Int))&& !decide (r.watch=0))))],⟨[Bn p,AW s],[(4,1,(L.take j).map Dn)]⟩⟩) ?_ ?_
  ·skip
   refine EK (h:=n_ (h:=DK (h:=?_)));refine AJ true rfl rfl (fun hb2 hc2=>?_) (fun hb2 hc2=>?_)
   ·refine AO (h:=GG (h:=Ce (h:=FE (h:=?_))));exact⟨_,rfl,Ah 2 1 rfl rfl rfl rfl (by repeat (first|exact Sub.nil|refine Ai rfl rfl ?_|refine Ap ?_|refine Aq rfl ?_|refine Ar rfl ?_|(apply Sub.of;(focus exact rfl);(focus exact LeA.of_eq (vb (by first|(simp_all;done)|(simp_all;omega))));(focus exact rfl))))⟩
   refine BB (h:=Cu (h:=GH (h:=?_)));exact⟨_,rfl,Ah 2 1 rfl rfl rfl rfl (by repeat (first|exact Sub.nil|refine Ai rfl rfl ?_|refine Ap ?_|refine Aq rfl ?_|refine Ar rfl ?_|(apply Sub.of;(focus exact rfl);(focus exact LeA.of_eq (vb (by first|(simp_all;done)|(simp_all;omega))));(focus exact rfl))))⟩
  rintro S rfl;refine A4 rfl (fun hb3 hc3=>?_) (fun hb3 hc3=>?_)
  ·have hk2:k<items.length∧¬r.watch=0:=by simpa using hc3
   obtain⟨x,hx⟩:∃x,items[k]?=some x:=⟨_,B6 hk2.1⟩;have hrowx:(items.map Dl)[k]?=some (Dl x):=by rw[List.getElem?_map,hx];rfl
   refine AG (q_ (BF (Ct 30 (h:=AE 0 (h:=AE 1 (h:=?_))))));refine GD (j:=1) rfl (fun hb4=>?_) (fun hb4=>?_)
   ·have hc4:=bp hb4;refine Aj 2 (h:=Aj 3 (h:=Aj 4 (h:=Aj 5 (h:=Aj 6 (h:=Aj 7 (h:=Aj 8 (h:=Aj 9 (h:=Aj 10 (h:=Aj 11 (h:=Aj 12 (h:=Aj 13 (h:=Aj 14 (h:=Aj 15 (h:=Aj 16 (h:=Aj 17 (h:=Aj 18 (h:=Aj 19 (h:=Aj 20 (h:=Aj 21 (h:=Aj 22 (h:=Aj 23 (h:=Aj 24 (h:=Aj 25 (h:=?_))))))))))))))))))))))));refine Aj 26 (h:=Aj 27 (h:=Hk 28 (h:=B9 29 (h:=z_ (h:=BA (t_ (Aw (m_ (h:=Ec (h:=a_ (h:=Bw (AR (?_)))))))))))));refine⟨_,_,?_,⟨k+1,by omega,rfl,fun c=>absurd c hk2.2,rfl⟩,?_⟩
    ·omega
    rw[UZ hx];exact Ah 2 1 rfl rfl rfl rfl (by repeat (first|exact Sub.nil|refine Ai rfl rfl ?_|refine Ap ?_|refine Aq rfl ?_|refine Ar rfl ?_|(apply Sub.of;(focus exact rfl);(focus exact LeA.of_eq (vb (by simp_all [qF])));(focus exact rfl))))
   have hc4:=bp hb4;refine AE 2 (h:=AE 3 (h:=CL 4 (h:=AA 5 (h:=A9 6 (h:=AA 7 (h:=A9 8 (h:=AE 9 (h:=CL 10 (h:=AA 11 (h:=A9 12 (h:=cJ 13 (h:=Lv 14 (h:=AE 15 (h:=?_))))))))))))));refine GD (j:=15) rfl (fun hb5=>?_) (fun hb5=>?_)
   ·have hc5:=bp hb5;refine A9 16 (h:=AA 17 (h:=A9 18 (h:=AE 19 (h:=CL 20 (h:=A9 21 (h:=AE 22 (h:=AE 23 (h:=CL 24 (h:=A9 25 (h:=?_))))))))));refine c_ 26 rfl (A8 (oX s w x hs fun _=>hv) ?_);rintro r rfl;refine o_ (h:=Hk 27 (h:=FB 28 (h:=B9 29 (h:=z_ (h:=BA (t_ (Aw (m_ (h:=Ec (h:=a_ (h:=Bw (AR (?_)))))))))))));refine⟨_,_,?_,⟨k+1,by omega,rfl,fun c=>absurd c hk2.2,rfl⟩,?_⟩
    ·omega
    rw[UZ hx];exact Ah 2 1 rfl rfl rfl rfl (by repeat (first|exact Sub.nil|refine Ai rfl rfl ?_|refine Ap ?_|refine Aq rfl ?_|refine Ar rfl ?_|(apply Sub.of;(focus exact rfl);(focus exact LeA.of_eq (vb (by simp_all [qF])));(focus exact rfl))))
   have hc5:=bp hb5;refine Aj 16 (h:=Aj 17 (h:=Aj 18 (h:=Aj 19 (h:=Aj 20 (h:=Aj 21 (h:=Aj 22 (h:=Aj 23 (h:=Aj 24 (h:=Aj 25 (h:=Aj 26 (h:=FB 27 (h:=FB 28 (h:=B9 29 (h:=z_ (h:=BA (t_ (Aw (m_ (h:=Ec (h:=a_ (h:=Bw (AR (?_)))))))))))))))))))))));refine⟨_,_,?_,⟨k+1,by omega,rfl,fun c=>absurd c hk2.2,rfl⟩,?_⟩
   ·omega
   rw[UZ hx];exact Ah 2 1 rfl rfl rfl rfl (by repeat (first|exact Sub.nil|refine Ai rfl rfl ?_|refine Ap ?_|refine Aq rfl ?_|refine Ar rfl ?_|(apply Sub.of;(focus exact rfl);(focus exact LeA.of_eq (vb (by simp_all [qF])));(focus exact rfl))))
  have hex:(items.take k).any (qF s r w)=N1 s r w items:=by
   by_cases c:r.watch=0
   ·rw[hk0 c];simp[N1,c]
   have:items.length≤k:=by
    have h9:=hc3;simp[c]at h9;omega
   rw[List.take_of_length_le this];simp[N1,c]
  rw[hex];refine MR (Jz (Jz (LJ (t_ (Aw (m_ (h:=m_ (h:=BX (h:=Gb (h:=a_ (h:=Bw (BA (t_ (Aw (m_ (h:=Ec (h:=a_ (h:=Bw (AR (?_))))))))))))))))))));refine⟨_,_,?_,⟨j+1,by omega,rfl,rfl⟩,?_⟩
  ·omega
  rw[List.take_add_one,hLj,List.map_append];exact(wk 2 1)
 have e:=C6 Ab hj hc1;subst e;rw[←hlen,List.take_length];refine CP (h:=Dv (h:=?_));refine A6 ?_;rfl
end
def Ps(c:Ctx):Ctx:={c with phase:=2}
def Nm(s:Spc)(p:Pol)(c:Ctx):Int:=DV (FL 3 (J8 s p c.items) (Ps c)) p.rules 0
def KN(s:Spc)(p:Pol)(c:Ctx):Vdt:=if c.audited=false then Mz else if 0≤Nl p c then JW p.rules (Nl p c)else JW p.rules (Nm s p c)
section
theorem Zi(s:Spc)(p:Pol)(items:List Itm)(hs:SpcB s)(h1:p.rules.length≤1000)(h2:p.wats.length=p.rules.length)(hit:items.length≤1000):AFn prog 32 [.agg (Bn p), .agg (AW s), .sl 13 (items.map Dl) none] (fun r=>r= .sl 1 ((J8 s p items).map Dn) none):=by
 rcases Nat.eq_zero_or_pos p.rules.length with h0|h0
 ·exact pH s p items (Ff h0)
 exact pJ s p items hs h0 h1 h2 hit _ rfl
variable (s:Spc)(p:Pol)(c:Ctx)(k:Cxs)(hs:SpcB s)(h1:p.rules.length≤1000)(h2:p.wats.length=p.rules.length)(ht:∀r∈p.rules,r.tests.length≤1000)(hit:c.items.length≤1000)
include hs h1 h2 ht hit
theorem Zj:AFn prog 24 [.agg (Bn p), .agg (AW s), .agg (C7 c k)] (fun r=>r= .agg (Gw (JW p.rules (Nm s p c)))):=by
 refine enter Tryz.func24 rfl rfl rfl rfl rfl 0 rfl ?_;refine w_ (b_ (h:=b_ (h:=b_ (h:=CU (h:=e_ (w_ (f_ (h:=s_ (h:=e_ (q_ (BR ([(0,Bn p),(1,AW s),(2,C7 (Ps c) k)]) 12 (h:=A9 0 (h:=AA 1 (h:=A9 2 (h:=A9 3 (h:=A9 4 (h:=AA 5 (h:=A9 6 (h:=A9 8 (h:=?_))))))))))))))))))));refine c_ 7 rfl (A8 (Zi s p c.items hs h1 h2 hit) ?_);rintro r rfl;refine o_ (h:=?_);refine c_ 9 rfl (A8 (R9 p.rules 3 (J8 s p c.items) (Ps c) k h1 hit ht) ?_);rintro r rfl;refine o_ (h:=?_);refine c_ 10 rfl (A8 (Pq p (Nm s p c) (N0 _ _) h1) ?_);rintro r rfl;refine o_ (h:=?_);refine B8 11 (h:=z_ (h:=t_ (B3 (?_))));refine A6 ?_;rfl
theorem Uh:AFn prog 26 [.agg (Bn p), .agg (AW s), .agg (C7 c k)] (fun r=>r= .agg (Gw (KN s p c))):=by
 refine enter Tryz.func26 rfl rfl rfl rfl rfl 0 rfl ?_;refine JN (h:=CU (h:=e_ (q_ (FZ (h:=D2 (h:=?_))))));refine A4 rfl (fun hb1 hc1=>?_) (fun hb1 hc1=>?_)
 ·have k1:c.audited=false:=by simpa using hc1
  refine C4 (h:=?_);refine A3 rfl (A8 (Pq p (-1) (.inl (by decide)) h1) ?_);rintro r rfl;refine Ei (h:=B3 (BN (?_)));refine A6 ?_;rw[KN,if_pos k1,←Rv (l:=p.rules) (i:= -1) (by decide)];rfl
 have k1:¬c.audited=false:=by simpa using hc1
 refine Eh (h:=CA (h:=?_));refine A3 rfl (A8 (ZX p c k h1 ht) ?_);rintro r rfl;refine Ee (h:=Bt (h:=e_ (?_)));refine A4 rfl (fun hb2 hc2=>?_) (fun hb2 hc2=>?_)
 ·refine Di (h:=e_ (B3 (BN (?_))));refine A6 ?_;rw[KN,if_neg k1,if_pos (by simpa using hc2)];rfl
 refine AG (CA (h:=l_ (h:=?_)));refine A3 rfl (A8 (Zj s p c k hs h1 h2 ht hit) ?_);rintro r rfl;refine Ei (h:=B3 (?_));refine A6 ?_;rw[KN,if_neg k1,if_neg (by simpa using hc2)];rfl
variable (hv:SpcV s)
include hv
theorem Zk:AFn prog 25 [.agg (Bn p), .agg (AW s), .agg (C7 c k)] (fun r=>r= .agg (Gw (JW p.rules (Nm s p c)))):=by
 refine enter Tryz.func25 rfl rfl rfl rfl rfl 0 rfl ?_;refine w_ (b_ (h:=b_ (h:=b_ (h:=CU (h:=e_ (w_ (f_ (h:=s_ (h:=e_ (q_ (BR ([(0,Bn p),(1,AW s),(2,C7 (Ps c) k)]) 12 (h:=A9 0 (h:=AA 1 (h:=A9 2 (h:=A9 3 (h:=A9 4 (h:=AA 5 (h:=A9 6 (h:=A9 8 (h:=?_))))))))))))))))))));refine c_ 7 rfl (A8 (Zh s p c.items hv hs h1 h2 hit _ rfl) ?_);rintro r rfl;refine o_ (h:=?_);refine c_ 9 rfl (A8 (RA p.rules 3 (J8 s p c.items) (Ps c) k h1 hit ht) ?_);rintro r rfl;refine o_ (h:=?_);refine c_ 10 rfl (A8 (Uf p (Nm s p c) (N0 _ _) h1) ?_);rintro r rfl;refine o_ (h:=?_);refine B8 11 (h:=z_ (h:=t_ (B3 (?_))));refine A6 ?_;rfl
theorem pK:AFn prog 27 [.agg (Bn p), .agg (AW s), .agg (C7 c k)] (fun r=>r= .agg (Gw (KN s p c))):=by
 refine enter Tryz.func27 rfl rfl rfl rfl rfl 0 rfl ?_;refine JN (h:=CU (h:=e_ (q_ (FZ (h:=D2 (h:=?_))))));refine A4 rfl (fun hb1 hc1=>?_) (fun hb1 hc1=>?_)
 ·have k1:c.audited=false:=by simpa using hc1
  refine w_ (?_);refine A3 rfl (A8 (Ue) ?_);rintro r rfl;refine Ei (h:=B3 (BN (?_)));refine A6 ?_;rw[KN,if_pos k1];rfl
 have k1:¬c.audited=false:=by simpa using hc1
 refine Eh (h:=CA (h:=?_));refine A3 rfl (A8 (ZY p c k h1 ht) ?_);rintro r rfl;refine Ee (h:=Bt (h:=e_ (?_)));refine A4 rfl (fun hb2 hc2=>?_) (fun hb2 hc2=>?_)
 ·refine Di (h:=e_ (B3 (BN (?_))));refine A6 ?_;rw[KN,if_neg k1,if_pos (by simpa using hc2)];rfl
 refine AG (CA (h:=l_ (h:=?_)));refine A3 rfl (A8 (Zk s p c k hs h1 h2 ht hit hv) ?_);rintro r rfl;refine Ei (h:=B3 (?_));refine A6 ?_;rw[KN,if_neg k1,if_neg (by simpa using hc2)];rfl
end
def Rx:Rul:=⟨2,2,1,[⟨3,1,0,⟨#[]⟩,0⟩],0,⟨#[]⟩,0,⟨#[]⟩⟩
def Ry:Rul:=⟨3,1,1,[],0,⟨#[]⟩,0,⟨#[107]⟩⟩
def JX:List Rul:=[Rx,Ry]
def KO:Pol:=⟨JX,[GB,GB]⟩
def MJ(u:Int):Ctx:={nW u with audited:=true}
theorem Zl:∀r∈JX,FR r:=by
 intro r hr;simp[JX]at hr;rcases hr with rfl|rfl<;>exact⟨by decide,by decide,by decide,by decide⟩
theorem pL:∀r∈JX,r.watch=0:=by
 intro r hr;simp[JX]at hr;rcases hr with rfl|rfl<;>rfl
theorem pM(s:Spc):Ll s JX=(KO,0):=by
 have hp:∀r∈JX,DO s r=(GB,0):=by
  intro r hr;simp[JX]at hr;rcases hr with rfl|rfl<;>exact if_pos rfl
 rw[ZL (by decide) fun r hr=>by rw[hp r hr]]
 have:J7 s JX=[GB,GB]:=by
  simp[J7,JX,hp Rx (by simp[JX]),hp Ry (by simp[JX])]
 rw[this];rfl
theorem pN(s:Spc):KN s KO (MJ 0)=⟨false,0,⟨#[]⟩⟩:=by
 rw[KN,if_neg (by decide),if_pos (by decide)];decide
theorem pO(s:Spc):KN s KO (MJ 5)=⟨true,1,⟨#[107]⟩⟩:=by
 rw[KN,if_neg (by decide),if_neg (by decide),Nm];rw[show J8 s KO (MJ 5).items=[false,false] by simp[J8,KO,JX,Rx,Ry,N1]];decide
theorem pP:(KJ 1).2=0:=by decide+kernel
section
theorem pQ:AFn prog 34 [] (fun x=>x= .v (.bool true)):=by
 have hnew:AFn prog 60 [.v (.int .i64 1)] (fun r=>r= .tup [.agg (CW (KJ 1).1), .v (.int .i64 0)]):=(Ys 1).mono fun r hr=>by rw[hr,Rk,pP]
 have hv:=ZN.1.v;have hm:=ZN.1.m;obtain⟨S0,hS0⟩:∃S,S=(KJ 1).1:=⟨_,rfl⟩;rw[←hS0]at hnew hv hm;clear hS0;have hmm:S0.spc.mounts.length≤1000:=by omega
 have ht:∀r∈KO.rules,r.tests.length≤1000:=fun r hr=>(Zl r hr).2.2.2;have hload:AFn prog 41 [.sl 8 (JX.map Ab) none, .agg (AW S0.spc)] (fun r=>r= .tup [.agg (Bn KO), .v (.int .i64 0)]):=(oD S0.spc JX (by decide) Zl fun r h=>oC _ r (pL r h)).mono fun r hr=>by rw[hr,pM];rfl
 have hd0:AFn prog 26 [.agg (Bn KO), .agg (AW S0.spc), .agg (C7 (MJ 0) Od)] (fun r=>r= .agg [.v (.bool false), .v (.int .i64 0), .v (.string ⟨#[]⟩)]):=(Uh S0.spc KO (MJ 0) Od (hv.b hmm) (by decide) rfl ht (by decide)).mono fun r hr=>by rw[hr,pN];rfl
 have hd5:AFn prog 26 [.agg (Bn KO), .agg (AW S0.spc), .agg (C7 (MJ 5) Od)] (fun r=>r= .agg [.v (.bool true), .v (.int .i64 1), .v (.string ⟨#[107]⟩)]):=(Uh S0.spc KO (MJ 5) Od (hv.b hmm) (by decide) rfl ht (by decide)).mono fun r hr=>by rw[hr,pO];rfl
 refine enter Tryz.func34 rfl rfl rfl rfl rfl 0 rfl ?_;refine D7 (h:=w_ (?_));refine A3 rfl (A8 (hnew) ?_);rintro r rfl;refine Ee (h:=BO (h:=w_ (Bk (h:=BX (h:=?_)))));refine A3 rfl (H5 (y:= .agg (Ab Rx)) (Du ⟨rfl,rfl⟩) ?_);refine A3 rfl (H5 (y:= .agg (Ab Ry)) (Du ⟨rfl,rfl⟩) ?_);refine BX (h:=Bt (h:=AO (h:=?_)));refine A3 rfl (A8 (hload) ?_);rintro r rfl;refine Ee (h:=BO (h:=C4 (h:=AO (h:=Bk (h:=?_)))));refine A3 rfl (H5 (y:= .agg (C7 (MJ 0) Od)) (Du ⟨rfl,rfl⟩) ?_);refine A3 rfl (A8 (hd0) ?_);rintro r rfl;refine Dw (h:=C4 (h:=AO (h:=Bk (h:=?_))));refine A3 rfl (H5 (y:= .agg (C7 (MJ 5) Od)) (Du ⟨rfl,rfl⟩) ?_);refine A3 rfl (A8 (hd5) ?_);rintro r rfl;refine Dw (h:=Aa (h:=E4 (h:=?_)));refine AJ true rfl rfl (fun hb1 hc1=>?_) (fun hb1 hc1=>?_)
 ·refine AO (h:=Ck (h:=Bu (h:=?_)));refine AJ true rfl rfl (fun hb2 hc2=>?_) (fun hb2 hc2=>?_)
  ·refine CN (h:=Bu (h:=?_));refine AJ true rfl rfl (fun hb3 hc3=>?_) (fun hb3 hc3=>?_)
   ·refine AO (h:=Bu (h:=?_));refine AJ true rfl rfl (fun hb4 hc4=>?_) (fun hb4 hc4=>?_)
    ·refine CN (h:=Bu (h:=?_));refine AJ true rfl rfl (fun hb5 hc5=>?_) (fun hb5 hc5=>?_)
     ·refine CN (h:=Gf (h:=?_));refine A6 ?_
      first|rfl|(exfalso;first|contradiction|omega)|exact vb (by simp)
     refine Cu (h:=Az (h:=?_));refine A6 ?_
     first|rfl|(exfalso;first|contradiction|omega)|exact vb (by simp)
    refine Fv (h:=Cu (h:=Az (h:=?_)));refine A6 ?_
    first|rfl|(exfalso;first|contradiction|omega)|exact vb (by simp)
   refine BY (h:=Bc (h:=Fv (h:=Cu (h:=Az (h:=?_)))));refine A6 ?_
   first|rfl|(exfalso;first|contradiction|omega)|exact vb (by simp)
  refine Fv (h:=BY (h:=Bc (h:=Fv (h:=Cu (h:=Az (h:=?_))))));refine A6 ?_
  first|rfl|(exfalso;first|contradiction|omega)|exact vb (by simp)
 refine Fv (h:=Fv (h:=BY (h:=Bc (h:=Fv (h:=Cu (h:=a_ (h:=?_)))))));refine e_ (B3 (?_));refine A6 ?_
 first|rfl|(exfalso;first|contradiction|omega)|exact vb (by simp)
end
structure SmP(p:Pol):Prop where
 rl:p.rules.length≤1000
 wl:p.wats.length≤1000
 ts:∀r∈p.rules,r.tests.length≤1000
theorem PolOk.sm{s:Spc}{p:Pol}{n:Nat}(h:PolOk s p n)(hn:n≤1000):SmP p:=⟨Nat.le_trans h.lst.len hn,by rw[h.len];exact Nat.le_trans h.lst.len hn,fun r hr=>(h.lst.ins r hr).2.2.2⟩
def MK(l:List Rul)(i:Int):Int:=match l[i.toNat]? with|some r=>r.action|none=>0
def Lm(l:List Rul)(i:Int):Bool:=decide (i<0)|| !decide (MK l i=2)
def ML(l:List Rul)(b:Bool)(i:Int):Vdt:=if b=false then Mz else if i<0 then⟨true, -1,⟨#[]⟩⟩else JW l i
section
variable (p:Pol)(c:Ctx)(k:Cxs)(h1:p.rules.length≤1000)(ht:∀r∈p.rules,r.tests.length≤1000)(hit:c.items.length≤1000)
include h1 ht hit
theorem pR(i:Int)(hI:ZW p c=i):AFn prog 28 [.agg (Bn p), .agg (C7 c k)] (fun x=>x= .v (.bool (Lm p.rules i))):=by
 have hin:Nk p.rules i:=hI ▸ N0 _ _;have hf:AFn prog 16 [.sl 8 (p.rules.map Ab) none, .v (.int .i64 1), .sl 1 [] none, .agg (C7 c k)] (fun x=>x= .v (.int .i64 i)):=by rw[←hI];exact R9 p.rules 1 [] c k h1 hit ht
 refine enter Tryz.func28 rfl rfl rfl rfl rfl 0 rfl ?_;refine FC (h:=Ay (h:=l_ (h:=?_)));refine A3 rfl (A8 (hf) ?_);rintro r rfl;refine Bt (h:=DK (h:=?_));refine AJ false rfl rfl (fun hb1 hc1=>?_) (fun hb1 hc1=>?_)
 ·refine BB (h:=Fu (h:=Az (h:=?_)));refine A6 ?_
  first|(exfalso;first|contradiction|omega)|(exact vb (by first|(simp_all [Lm,MK];done)|(simp_all [Lm,MK];intro h;omega)))
 rcases hin with hneg|⟨q,r,rfl,hr⟩
 ·exact absurd hneg (by omega)
 have hrow:(p.rules.map Ab)[q]?=some (Ab r):=by rw[List.getElem?_map,hr];rfl
 have hlt:q<p.rules.length:=(Af.1 hr).1;refine AO (h:=GG (h:=Ce (h:=Bh (h:=Az (h:=?_)))));refine A6 ?_
 first|(exfalso;first|contradiction|omega)|(exact vb (by first|(simp_all [Lm,MK];done)|(simp_all [Lm,MK];intro h;omega)))
theorem pS(i:Int)(hI:ZW p c=i):AFn prog 29 [.agg (Bn p), .agg (C7 c k)] (fun x=>x= .v (.bool (Lm p.rules i))):=by
 have hin:Nk p.rules i:=hI ▸ N0 _ _;have hf:AFn prog 18 [.sl 8 (p.rules.map Ab) none, .v (.int .i64 1), .sl 1 [] none, .agg (C7 c k)] (fun x=>x= .v (.int .i64 i)):=by rw[←hI];exact RA p.rules 1 [] c k h1 hit ht
 refine enter Tryz.func29 rfl rfl rfl rfl rfl 0 rfl ?_;refine FC (h:=Ay (h:=l_ (h:=?_)));refine A3 rfl (A8 (hf) ?_);rintro r rfl;refine Bt (h:=DK (h:=?_));refine AJ false rfl rfl (fun hb1 hc1=>?_) (fun hb1 hc1=>?_)
 ·refine BB (h:=Fu (h:=Az (h:=?_)));refine A6 ?_
  first|(exfalso;first|contradiction|omega)|(exact vb (by first|(simp_all [Lm,MK];done)|(simp_all [Lm,MK];intro h;omega)))
 rcases hin with hneg|⟨q,r,rfl,hr⟩
 ·exact absurd hneg (by omega)
 have hrow:(p.rules.map Ab)[q]?=some (Ab r):=by rw[List.getElem?_map,hr];rfl
 have hlt:q<p.rules.length:=(Af.1 hr).1;refine AO (h:=GG (h:=Ce (h:=Bh (h:=Az (h:=?_)))));refine A6 ?_
 first|(exfalso;first|contradiction|omega)|(exact vb (by first|(simp_all [Lm,MK];done)|(simp_all [Lm,MK];intro h;omega)))
theorem pT(i:Int)(hI:Ud p c=i):AFn prog 30 [.agg (Bn p), .agg (C7 c k)] (fun x=>x= .agg (Gw (ML p.rules c.audited i))):=by
 have hin:Nk p.rules i:=hI ▸ N0 _ _;have hf:AFn prog 16 [.sl 8 (p.rules.map Ab) none, .v (.int .i64 4), .sl 1 [] none, .agg (C7 c k)] (fun x=>x= .v (.int .i64 i)):=by rw[←hI];exact R9 p.rules 4 [] c k h1 hit ht
 refine enter Tryz.func30 rfl rfl rfl rfl rfl 0 rfl ?_;refine FU (h:=e_ (q_ (FZ (h:=D2 (h:=?_)))));refine A4 rfl (fun hb1 hc1=>?_) (fun hb1 hc1=>?_)
 ·have k1:c.audited=false:=by simpa using hc1
  refine C4 (h:=?_);refine A3 rfl (A8 (Pq p (-1) (.inl (by decide)) h1) ?_);rintro r rfl;refine Ei (h:=B3 (BN (?_)));refine A6 ?_;rw[ML,if_pos k1,←Rv (l:=p.rules) (i:= -1) (by decide)];rfl
 have k1:¬c.audited=false:=by simpa using hc1
 refine FY (h:=l_ (h:=?_));refine A3 rfl (A8 (hf) ?_);rintro r rfl;refine Bo (h:=Cv (h:=?_));refine A4 rfl (fun hb2 hc2=>?_) (fun hb2 hc2=>?_)
 ·have k2:i<0:=hc2;refine JH (h:=e_ (B3 (BN (?_))));refine A6 ?_;rw[ML,if_neg k1,if_pos k2];rfl
 have k2:¬i<0:=hc2;refine AG (L0 (h:=?_));refine A3 rfl (A8 (Pq p i hin h1) ?_);rintro r rfl;refine Ei (h:=B3 (?_));refine A6 ?_;rw[ML,if_neg k1,if_neg k2];rfl
theorem pU(i:Int)(hI:Ud p c=i):AFn prog 31 [.agg (Bn p), .agg (C7 c k)] (fun x=>x= .agg (Gw (ML p.rules c.audited i))):=by
 have hin:Nk p.rules i:=hI ▸ N0 _ _;have hf:AFn prog 18 [.sl 8 (p.rules.map Ab) none, .v (.int .i64 4), .sl 1 [] none, .agg (C7 c k)] (fun x=>x= .v (.int .i64 i)):=by rw[←hI];exact RA p.rules 4 [] c k h1 hit ht
 refine enter Tryz.func31 rfl rfl rfl rfl rfl 0 rfl ?_;refine FU (h:=e_ (q_ (FZ (h:=D2 (h:=?_)))));refine A4 rfl (fun hb1 hc1=>?_) (fun hb1 hc1=>?_)
 ·have k1:c.audited=false:=by simpa using hc1
  refine w_ (?_);refine A3 rfl (A8 (Ue) ?_);rintro r rfl;refine Ei (h:=B3 (BN (?_)));refine A6 ?_;rw[ML,if_pos k1];rfl
 have k1:¬c.audited=false:=by simpa using hc1
 refine FY (h:=l_ (h:=?_));refine A3 rfl (A8 (hf) ?_);rintro r rfl;refine Bo (h:=Cv (h:=?_));refine A4 rfl (fun hb2 hc2=>?_) (fun hb2 hc2=>?_)
 ·have k2:i<0:=hc2;refine JH (h:=e_ (B3 (BN (?_))));refine A6 ?_;rw[ML,if_neg k1,if_pos k2];rfl
 have k2:¬i<0:=hc2;refine AG (L0 (h:=?_));refine A3 rfl (A8 (Uf p i hin h1) ?_);rintro r rfl;refine Ei (h:=B3 (?_));refine A6 ?_;rw[ML,if_neg k1,if_neg k2];rfl
end
theorem Zm(w:Wrk)(R:FH):(BZ w R).1.r.items=w.r.items:=by
 unfold BZ;split<;>rfl
section
theorem pV(w:Wrk)(cap:Nat)(f g:Fnd)(x1:Itm)(hv:SpcV w.s.spc)(hm:w.s.spc.mounts.length≤1000)(hf:w.found[0]?=some f)(hg:w.found[1]?=some g)(hx1:w.r.items[1]?=some x1)(hn2:g.name.size≤100000):ACall prog 146 [.bp 0 0] [WA w cap,IB w cap] (fun r b t=>t=[]∧r= .v (.int .i64 (G8 w).2)∧b=[WA (G8 w).1 cap,IB (G8 w).1 cap]):=by
 have hsb:=hv.b hm;have hrow0:(w.found.map Al)[0]?=some (Al f):=by rw[List.getElem?_map,hf];rfl
 have hrow1:(w.found.map Al)[1]?=some (Al g):=by rw[List.getElem?_map,hg];rfl
 have hfn:B0 w 0=f:=by unfold B0;rw[hf];rfl
 have hgn:B0 w 1=g:=by unfold B0;rw[hg];rfl
 obtain⟨R,hR⟩:∃R,R=Ex w.s.spc.files g.dir g.name f.file:=⟨_,rfl⟩;have hok:=Xi hv.files g.dir g.name f.file;rw[←hR]at hok;have hcall:AFn prog 172 [.agg (Au w.s.spc.files), .agg (AB g.dir), .v (.string g.name), .agg (AB f.file)] (fun r=>r=Ch R):=by rw[hR];exact gV _ _ _ _ hv.files hn2
 have hlk:G8 w=if f.ex=false then(w,2)else if Ac w.s.spc.files f.file=true then(w,1)else if g.ex=true then(w,17)else if g.slash=true then(w,2)else if f.file.1≠g.dir.1 then(w,18)else if CH w g.dir 2=false then(w,13)else if R.2.2≠0 then(w,R.2.2)else(Ko (BZ w R).1 1 f.file,0):=by
  unfold G8 Kn;rw[hfn,hgn,←hR]
 clear hR;refine enter Tryz.func146 rfl rfl rfl rfl rfl 2 rfl ?_;refine D7 (h:=?_);refine BC (fun S=>S=⟨look [(0, .bp 0 0),(3, .bp 2 0),(4, .bp 3 0)],⟨[WA w cap,IB w cap,Al f,Al g],[]⟩⟩) ?_ ?_
 ·skip
  refine BR ([(0,WA w cap)]) 16 (h:=AE 0 (h:=BL 1 (h:=AA 2 (h:=A9 3 (h:=?_)))));refine C5 4 rfl (fun _ hS=>DE (n:=0) rfl rfl rfl hrow0 ⟨rfl,rfl⟩) ?_;refine A9 5 (h:=AE 6 (h:=BL 7 (h:=AA 8 (h:=A9 9 (h:=?_)))));refine C5 10 rfl (fun _ hS=>DE (n:=1) rfl rfl rfl hrow1 ⟨rfl,rfl⟩) ?_;refine A9 11 (h:=?_);refine Ft 12 13 rfl rfl ?_ ?_
  ·refine Cb (by repeat constructor) ?_;refine o_ (h:=?_);refine c_ 13 rfl (Cb (by repeat constructor) ?_);refine o_ (h:=?_);refine B8 14 (h:=?_);refine B8 15 (h:=z_ (h:=?_));refine AR ?_;exact⟨_,rfl,Cr 4 0⟩
  refine Cb (by repeat constructor) ?_;refine o_ (h:=?_);refine c_ 12 rfl (Cb (by repeat constructor) ?_);refine o_ (h:=?_);refine B8 14 (h:=?_);refine B8 15 (h:=z_ (h:=?_));refine AR ?_
  first|exact⟨_,rfl,Cr 4 0⟩|exact⟨_,rfl,Ga [0,1,3,2] RQ (by decide) (.cons _ _ _ _ _ rfl rfl (.cons _ _ _ _ _ rfl (MD B5 _ _ _) (.cons _ _ _ _ _ rfl rfl (.cons _ _ _ _ _ rfl rfl .nil)))) (by repeat (first|exact SubK.nil|refine SubK.cons _ _ _ _ rfl (A7 _) ?_))⟩
 rintro S rfl;refine q_ (BF (Ay (h:=Ck (h:=BO (h:=?_)))));refine A4 rfl (fun hb1 hc1=>?_) (fun hb1 hc1=>?_)
 ·have k1:f.ex=false:=by simpa using hc1
  refine CB (h:=?_);refine BU (r:= .v (.int .i64 (G8 w).2)) none (h5:=(by rw[hlk,if_pos k1];exact A7 _)) (h6:=⟨rfl,rfl,?_⟩);rw[hlk,if_pos k1];rfl
 have k1:¬f.ex=false:=by simpa using hc1
 refine Aa (h:=?_);refine A3 rfl (Ds 1 rfl (.cons _ _ _ _ _ rfl (LeA.of_eq rfl) (.cons _ _ _ _ _ rfl (A7 _) .nil)) (Mx w .any 0 f hsb hf) ?_);rintro r rfl;refine⟨rfl,?_⟩;refine BO (h:=?_);refine A4 rfl (fun hb2 hc2=>?_) (fun hb2 hc2=>?_)
 ·have k2:Ac w.s.spc.files f.file=true:=hc2;refine CB (h:=?_);refine BU (r:= .v (.int .i64 (G8 w).2)) none (h5:=(by rw[hlk,if_neg k1,if_pos k2];exact A7 _)) (h6:=⟨rfl,rfl,?_⟩);rw[hlk,if_neg k1,if_pos k2];rfl
 have k2:¬Ac w.s.spc.files f.file=true:=by simpa using hc2
 refine Ay (h:=BO (h:=?_));refine A4 rfl (fun hb3 hc3=>?_) (fun hb3 hc3=>?_)
 ·have k3:g.ex=true:=hc3;refine CB (h:=?_);refine BU (r:= .v (.int .i64 (G8 w).2)) none (h5:=(by rw[hlk,if_neg k1,if_neg k2,if_pos k3];exact A7 _)) (h6:=⟨rfl,rfl,?_⟩);rw[hlk,if_neg k1,if_neg k2,if_pos k3];rfl
 have k3:¬g.ex=true:=by simpa using hc3
 refine Ay (h:=BO (h:=?_));refine A4 rfl (fun hb4 hc4=>?_) (fun hb4 hc4=>?_)
 ·have k4:g.slash=true:=hc4;refine CB (h:=?_);refine BU (r:= .v (.int .i64 (G8 w).2)) none (h5:=(by rw[hlk,if_neg k1,if_neg k2,if_neg k3,if_pos k4];exact A7 _)) (h6:=⟨rfl,rfl,?_⟩);rw[hlk,if_neg k1,if_neg k2,if_neg k3,if_pos k4];rfl
 have k4:¬g.slash=true:=by simpa using hc4
 refine FZ (h:=Hn (h:=Gd (h:=BO (h:=?_))));refine A4 rfl (fun hb5 hc5=>?_) (fun hb5 hc5=>?_)
 ·have k5:f.file.1≠g.dir.1:=by simpa using hc5
  refine CB (h:=?_);refine BU (r:= .v (.int .i64 (G8 w).2)) none (h5:=(by rw[hlk,if_neg k1,if_neg k2,if_neg k3,if_neg k4,if_pos k5];exact A7 _)) (h6:=⟨rfl,rfl,?_⟩);rw[hlk,if_neg k1,if_neg k2,if_neg k3,if_neg k4,if_pos k5];rfl
 have k5:¬f.file.1≠g.dir.1:=by simpa using hc5
 refine Aa (h:=AO (h:=?_));refine A3 rfl (Ds 1 rfl (.cons _ _ _ _ _ rfl (LeA.of_eq rfl) (.cons _ _ _ _ _ rfl (A7 _) (.cons _ _ _ _ _ rfl (A7 _) .nil))) (LG w .any g.dir 2 hsb) ?_);rintro r rfl;refine⟨rfl,?_⟩;refine Ck (h:=BO (h:=?_));refine A4 rfl (fun hb6 hc6=>?_) (fun hb6 hc6=>?_)
 ·have k6:CH w g.dir 2=false:=by simpa using hc6
  refine CB (h:=?_);refine BU (r:= .v (.int .i64 (G8 w).2)) none (h5:=(by rw[hlk,if_neg k1,if_neg k2,if_neg k3,if_neg k4,if_neg k5,if_pos k6];exact A7 _)) (h6:=⟨rfl,rfl,?_⟩);rw[hlk,if_neg k1,if_neg k2,if_neg k3,if_neg k4,if_neg k5,if_pos k6];rfl
 have k6:¬CH w g.dir 2=false:=by simpa using hc6
 refine BG (BA (t_ (?_)));refine BC (fun S=>S=⟨look [(0, .bp 0 0),(3, .bp 2 0),(5, .v (.int .i64 R.2.2))],⟨[WA (BZ w R).1 cap,IB (BZ w R).1 cap,Al f],[]⟩⟩) ?_ ?_
 ·skip
  refine BR ([(0,WA w cap),(1,IB w cap),(2,Al f),(3,Al g)]) 17 (h:=AE 0 (h:=AE 1 (h:=BL 2 (h:=AA 3 (h:=AA 4 (h:=AA 5 (h:=A9 6 (h:=AA 7 (h:=A9 8 (h:=AA 9 (h:=A9 10 (h:=AA 11 (h:=A9 12 (h:=?_))))))))))))));refine c_ 13 rfl (A8 (hcall) ?_);rintro r rfl;refine o_ (h:=BH 14 (h:=BH 15 (h:=BH 16 (h:=?_))));refine c_ 17 rfl (Bj [0,1] rfl (.cons _ _ _ _ _ rfl (A7 _) (.cons _ _ _ _ _ rfl (A7 _) (.cons _ _ _ _ _ rfl (A7 _) (.cons _ _ _ _ _ rfl (A7 _) .nil)))) (by decide) (.cons _ _ _ _ _ rfl rfl (.cons _ _ _ _ _ rfl (Dg B5 _ _ _) .nil)) (OZ w cap R.1 R.2.1 R.2.2) ?_);rintro r bc tc ⟨rfl,rfl,rfl⟩;refine⟨rfl,_,E8 rfl ((BZ w R).1) cap,?_⟩;refine o_ (h:=?_);refine c_ 18 rfl (J9 rfl ?_);refine HG (h:=?_);refine AR ?_;exact⟨_,rfl,Cr 3 0⟩
 rintro S rfl;refine Bf (h:=Bd (h:=?_));refine A4 rfl (fun hb7 hc7=>?_) (fun hb7 hc7=>?_)
 ·have h0:R.2.2=0:=hc7;have hfb:FlsB (BZ w R).1.s.spc.files:=by rw[MH h0];exact(hok h0).1.b
  have hxr:(BZ w R).1.r.items[1]?=some x1:=by rw[Zm];exact hx1
  refine C2 (h:=AO (h:=?_));refine A3 rfl (Bj [0,1] rfl (.cons _ _ _ _ _ rfl (A7 _) (.cons _ _ _ _ _ rfl (A7 _) (.cons _ _ _ _ _ rfl (A7 _) .nil))) (by decide) (.cons _ _ _ _ _ rfl rfl (.cons _ _ _ _ _ rfl (Dg B5 _ _ _) .nil)) (UU (BZ w R).1 cap 1 f.file x1 hfb hxr) ?_);rintro r bc tc ⟨rfl,rfl,rfl⟩;refine⟨rfl,_,E8 rfl (Ko (BZ w R).1 1 f.file) cap,?_⟩;refine e_ (Dv (h:=?_));refine BU (r:= .v (.int .i64 (G8 w).2)) none (h5:=(by rw[hlk,if_neg k1,if_neg k2,if_neg k3,if_neg k4,if_neg k5,if_neg k6,if_neg (by simp[h0])];exact LeA.of_eq (vi h0))) (h6:=⟨rfl,rfl,?_⟩);rw[hlk,if_neg k1,if_neg k2,if_neg k3,if_neg k4,if_neg k5,if_neg k6,if_neg (by simp[h0])];rfl
 have h0:¬R.2.2=0:=hc7;refine AG (Dv (h:=?_));refine BU (r:= .v (.int .i64 (G8 w).2)) none (h5:=(by rw[hlk,if_neg k1,if_neg k2,if_neg k3,if_neg k4,if_neg k5,if_neg k6,if_pos h0];exact A7 _)) (h6:=⟨rfl,rfl,?_⟩);rw[hlk,if_neg k1,if_neg k2,if_neg k3,if_neg k4,if_neg k5,if_neg k6,if_pos h0];rw[Rl h0];rfl
theorem Zn(w:Wrk)(cap:Nat)(f:Fnd)(x0:Itm)(hv:SpcV w.s.spc)(hm:w.s.spc.mounts.length≤1000)(hps:w.s.tab.ps.length≤1000)(hf:w.found[0]?=some f)(hx0:w.r.items[0]?=some x0)(hn:f.name.size≤100000):ACall prog 147 [.bp 0 0] [WA w cap,IB w cap] (fun r b t=>t=[]∧r= .v (.int .i64 (Ey w).2)∧b=[WA (Ey w).1 cap,IB (Ey w).1 cap]):=by
 have hsb:=hv.b hm;have hrow0:(w.found.map Al)[0]?=some (Al f):=by rw[List.getElem?_map,hf];rfl
 have hfn:B0 w 0=f:=by unfold B0;rw[hf];rfl
 have hil:0<w.r.items.length:=(Af.1 hx0).1;obtain⟨R1,hR1⟩:∃R,R=Hy w.s.spc.files f.dir f.name:=⟨_,rfl⟩;obtain⟨R2,hR2⟩:∃R,R=Gk w.s.spc.files f.dir f.name:=⟨_,rfl⟩;have hcall1:AFn prog 173 [.agg (Au w.s.spc.files), .agg (AB f.dir), .v (.string f.name)] (fun r=>r=Ch R1):=by rw[hR1];exact gX _ _ _ hv.files hn
 have hcall2:AFn prog 174 [.agg (Au w.s.spc.files), .agg (AB f.dir), .v (.string f.name)] (fun r=>r=Ch R2):=by rw[hR2];exact gY _ _ _ hv.files hn
 obtain⟨y,hyd⟩:∃y,y=(AM w.s.spc.files f.dir f.name).1:=⟨_,rfl⟩;have hl1:AFn prog 134 [.agg (Au w.s.spc.files), .agg (AB f.dir), .v (.string f.name)] (fun r=>r= .tup [.agg (AB y), .v (.int .i64 (AM w.s.spc.files f.dir f.name).2)]):=by rw[hyd];exact L4 _ _ _ hsb.files
 have hrm:Ey w=if f.ex=false then(w,2)else if w.c.num=10 then(if f.name=⟨#[]⟩∨Ac w.s.spc.files f.file=true then(w,21)else if CH w f.dir 2=false then(w,13)else KG w R1)else(if f.name=⟨#[]⟩then(w,16)else if Ac w.s.spc.files f.file=false then(w,20)else if Jq w y=true then(w,16)else if CH w f.dir 2=false then(w,13)else KG w R2):=by
  unfold Ey Kn;rw[hfn,←hR1,←hR2,←hyd]
 clear hR1 hR2 hyd;refine enter Tryz.func147 rfl rfl rfl rfl rfl 2 rfl ?_;refine EL (h:=k_ (h:=AO (h:=?_)));refine A3 rfl (DE (n:=0) rfl rfl rfl hrow0 ?_);refine Jb (h:=Fh (h:=D2 (h:=?_)));refine A4 rfl (fun hb1 hc1=>?_) (fun hb1 hc1=>?_)
 ·have k1:f.ex=false:=by simpa using hc1
  refine BK (h:=?_);refine BU (r:= .v (.int .i64 (Ey w).2)) none (h5:=(by rw[hrm,if_pos k1];exact A7 _)) (h6:=⟨rfl,rfl,?_⟩);rw[hrm,if_pos k1];rfl
 have k1:¬f.ex=false:=by simpa using hc1
 refine AG (D7 (h:=?_));refine BC (fun S=>∃R,Ey w=KG w R∧S=⟨look [(0, .bp 0 0),(4, .v (.int .i64 R.2.2))],⟨[WA (BZ w R).1 cap,IB (BZ w R).1 cap],[]⟩⟩) ?_ ?_
 ·skip
  refine Aa (h:=Dj (h:=Bd (h:=?_)));refine A4 rfl (fun hb2 hc2=>?_) (fun hb2 hc2=>?_)
  ·have k2:w.c.num=10:=hc2;refine q_ (?_);refine BC (fun S=>S=⟨look [(0, .bp 0 0),(3, .bp 2 0),(28, .v (.bool (decide (f.name=⟨#[]⟩)||Ac w.s.spc.files f.file)))],⟨[WA w cap,IB w cap,Al f],[]⟩⟩) ?_ ?_
   ·skip
    refine Aw (CN (h:=m_ (h:=?_)));refine AJ false rfl rfl (fun hb3 hc3=>?_) (fun hb3 hc3=>?_)
    ·refine BY (h:=FE (h:=?_));exact⟨_,rfl,CM 3 0 (by simp[AY,AT,AQ,Bq B5,BD,WA,IB,Cq,Al,AZ,AB,Ao,AW,Au])⟩
    refine m_ (h:=?_);refine As (Ds 1 rfl (.cons _ _ _ _ _ rfl (LeA.of_eq rfl) (.cons _ _ _ _ _ rfl (A7 _) .nil)) (Mx w .any 0 f hsb hf) ?_);rintro r rfl;refine⟨rfl,?_⟩;refine EJ (h:=?_);exact⟨_,rfl,CM 3 0 (by simp[AY,AT,AQ,Bq B5,BD,WA,IB,Cq,Al,AZ,AB,Ao,AW,Au])⟩
   rintro S rfl;refine A4 rfl (fun hb4 hc4=>?_) (fun hb4 hc4=>?_)
   ·have k3:f.name=⟨#[]⟩∨Ac w.s.spc.files f.file=true:=by simpa using hc4
    refine BK (h:=BN (?_));refine BU (r:= .v (.int .i64 (Ey w).2)) none (h5:=(by rw[hrm,if_neg k1,if_pos k2,if_pos k3];exact A7 _)) (h6:=⟨rfl,rfl,?_⟩);rw[hrm,if_neg k1,if_pos k2,if_pos k3];rfl
   have k3:¬(f.name=⟨#[]⟩∨Ac w.s.spc.files f.file=true):=by simpa using hc4
   refine AG (Mg (h:=?_));refine A3 rfl (Ds 1 rfl (.cons _ _ _ _ _ rfl (LeA.of_eq rfl) (.cons _ _ _ _ _ rfl (A7 _) (.cons _ _ _ _ _ rfl (A7 _) .nil))) (LG w .any f.dir 2 hsb) ?_);rintro r rfl;refine⟨rfl,?_⟩;refine D2 (h:=?_);refine A4 rfl (fun hb5 hc5=>?_) (fun hb5 hc5=>?_)
   ·have k4:CH w f.dir 2=false:=by simpa using hc5
    refine BK (h:=BN (?_));refine BU (r:= .v (.int .i64 (Ey w).2)) none (h5:=(by rw[hrm,if_neg k1,if_pos k2,if_neg k3,if_pos k4];exact A7 _)) (h6:=⟨rfl,rfl,?_⟩);rw[hrm,if_neg k1,if_pos k2,if_neg k3,if_pos k4];rfl
   have k4:¬CH w f.dir 2=false:=by simpa using hc5
   refine AG (BR ([(0,WA w cap),(1,IB w cap),(2,Al f)]) 15 (h:=AE 0 (h:=AE 1 (h:=BL 2 (h:=AA 3 (h:=AA 4 (h:=AA 5 (h:=A9 6 (h:=AA 7 (h:=A9 8 (h:=AA 9 (h:=A9 10 (h:=?_)))))))))))));refine c_ 11 rfl (A8 (hcall1) ?_);rintro r rfl;refine o_ (h:=BH 12 (h:=BH 13 (h:=BH 14 (h:=?_))));refine c_ 15 rfl (Bj [0,1] rfl (.cons _ _ _ _ _ rfl (A7 _) (.cons _ _ _ _ _ rfl (A7 _) (.cons _ _ _ _ _ rfl (A7 _) (.cons _ _ _ _ _ rfl (A7 _) .nil)))) (by decide) (.cons _ _ _ _ _ rfl rfl (.cons _ _ _ _ _ rfl (Dg B5 _ _ _) .nil)) (OZ w cap R1.1 R1.2.1 R1.2.2) ?_);rintro r bc tc ⟨rfl,rfl,rfl⟩;refine⟨rfl,_,E8 rfl ((BZ w R1).1) cap,?_⟩;refine o_ (h:=?_);refine c_ 16 rfl (J9 rfl ?_);refine HG (h:=?_);refine AR ?_;exact⟨_,⟨R1,(by rw[hrm,if_neg k1,if_pos k2,if_neg k3,if_neg k4]),rfl⟩,Cr 2 0⟩
  have k2:¬w.c.num=10:=hc2;refine Fh (h:=Bd (h:=?_));refine A4 rfl (fun hb6 hc6=>?_) (fun hb6 hc6=>?_)
  ·have k3:f.name=⟨#[]⟩:=hc6;refine BK (h:=BN (?_));refine BU (r:= .v (.int .i64 (Ey w).2)) none (h5:=(by rw[hrm,if_neg k1,if_neg k2,if_pos k3];exact A7 _)) (h6:=⟨rfl,rfl,?_⟩);rw[hrm,if_neg k1,if_neg k2,if_pos k3];rfl
  have k3:¬f.name=⟨#[]⟩:=hc6;refine EX (h:=?_);refine A3 rfl (Ds 1 rfl (.cons _ _ _ _ _ rfl (LeA.of_eq rfl) (.cons _ _ _ _ _ rfl (A7 _) .nil)) (Mx w .any 0 f hsb hf) ?_);rintro r rfl;refine⟨rfl,?_⟩;refine D2 (h:=?_);refine A4 rfl (fun hb7 hc7=>?_) (fun hb7 hc7=>?_)
  ·have k4:Ac w.s.spc.files f.file=false:=by simpa using hc7
   refine BK (h:=BN (?_));refine BU (r:= .v (.int .i64 (Ey w).2)) none (h5:=(by rw[hrm,if_neg k1,if_neg k2,if_neg k3,if_pos k4];exact A7 _)) (h6:=⟨rfl,rfl,?_⟩);rw[hrm,if_neg k1,if_neg k2,if_neg k3,if_pos k4];rfl
  have k4:¬Ac w.s.spc.files f.file=false:=by simpa using hc7
  refine AG (?_);refine BC (fun S=>S=⟨look [(0, .bp 0 0),(3, .bp 2 0),(5, .bp 3 0)],⟨[WA w cap,IB w cap,Al f,AB y],[]⟩⟩) ?_ ?_
  ·skip
   refine BR ([(0,WA w cap),(1,IB w cap),(2,Al f)]) 17 (h:=AE 0 (h:=BL 1 (h:=AA 2 (h:=AA 3 (h:=AA 4 (h:=A9 5 (h:=AA 6 (h:=A9 7 (h:=AA 8 (h:=A9 9 (h:=?_)))))))))));refine Ft 10 14 rfl rfl ?_ ?_
   ·refine A8 (hl1) ?_;rintro r rfl;refine o_ (h:=?_);refine AE 11 (h:=BH 12 (h:=BH 13 (h:=?_)));refine c_ 14 rfl (Cb (by repeat constructor) ?_);refine o_ (h:=?_);refine B8 15 (h:=B9 16 (h:=z_ (h:=?_)));refine AR ?_;exact⟨_,rfl,Cr 4 0⟩
   refine Cb (by repeat constructor) ?_;refine o_ (h:=?_);refine c_ 10 rfl (A8 (hl1) ?_);rintro r rfl;refine o_ (h:=AE 11 (h:=BH 12 (h:=BH 13 (h:=?_))));refine B8 15 (h:=B9 16 (h:=z_ (h:=?_)));refine AR ?_;exact⟨_,rfl,Cr 4 0⟩
  rintro S rfl;refine Bf (h:=l_ (h:=?_));refine A3 rfl (Ds 1 rfl (.cons _ _ _ _ _ rfl (LeA.of_eq rfl) (.cons _ _ _ _ _ rfl (A7 _) .nil)) (Yt w .any y hsb hps) ?_);rintro r rfl;refine⟨rfl,?_⟩;refine e_ (?_);refine A4 rfl (fun hb8 hc8=>?_) (fun hb8 hc8=>?_)
  ·have k5:Jq w y=true:=hc8;refine BK (h:=BN (?_));refine BU (r:= .v (.int .i64 (Ey w).2)) none (h5:=(by rw[hrm,if_neg k1,if_neg k2,if_neg k3,if_neg k4,if_pos k5];exact A7 _)) (h6:=⟨rfl,rfl,?_⟩);rw[hrm,if_neg k1,if_neg k2,if_neg k3,if_neg k4,if_pos k5];rfl
  have k5:¬Jq w y=true:=by simpa using hc8
  refine AG (Mg (h:=?_));refine A3 rfl (Ds 1 rfl (.cons _ _ _ _ _ rfl (LeA.of_eq rfl) (.cons _ _ _ _ _ rfl (A7 _) (.cons _ _ _ _ _ rfl (A7 _) .nil))) (LG w .any f.dir 2 hsb) ?_);rintro r rfl;refine⟨rfl,?_⟩;refine D2 (h:=?_);refine A4 rfl (fun hb9 hc9=>?_) (fun hb9 hc9=>?_)
  ·have k6:CH w f.dir 2=false:=by simpa using hc9
   refine BK (h:=BN (?_));refine BU (r:= .v (.int .i64 (Ey w).2)) none (h5:=(by rw[hrm,if_neg k1,if_neg k2,if_neg k3,if_neg k4,if_neg k5,if_pos k6];exact A7 _)) (h6:=⟨rfl,rfl,?_⟩);rw[hrm,if_neg k1,if_neg k2,if_neg k3,if_neg k4,if_neg k5,if_pos k6];rfl
  have k6:¬CH w f.dir 2=false:=by simpa using hc9
  refine AG (BR ([(0,WA w cap),(1,IB w cap),(2,Al f)]) 15 (h:=AE 0 (h:=AE 1 (h:=BL 2 (h:=AA 3 (h:=AA 4 (h:=AA 5 (h:=A9 6 (h:=AA 7 (h:=A9 8 (h:=AA 9 (h:=A9 10 (h:=?_)))))))))))));refine c_ 11 rfl (A8 (hcall2) ?_);rintro r rfl;refine o_ (h:=BH 12 (h:=BH 13 (h:=BH 14 (h:=?_))));refine c_ 15 rfl (Bj [0,1] rfl (.cons _ _ _ _ _ rfl (A7 _) (.cons _ _ _ _ _ rfl (A7 _) (.cons _ _ _ _ _ rfl (A7 _) (.cons _ _ _ _ _ rfl (A7 _) .nil)))) (by decide) (.cons _ _ _ _ _ rfl rfl (.cons _ _ _ _ _ rfl (Dg B5 _ _ _) .nil)) (OZ w cap R2.1 R2.2.1 R2.2.2) ?_);rintro r bc tc ⟨rfl,rfl,rfl⟩;refine⟨rfl,_,E8 rfl ((BZ w R2).1) cap,?_⟩;refine o_ (h:=?_);refine c_ 16 rfl (J9 rfl ?_);refine HG (h:=?_);refine AR ?_
  first|exact⟨_,⟨R1,(by rw[hrm,if_neg k1,if_pos k2,if_neg k3,if_neg k4]),rfl⟩,Cr 2 0⟩|exact⟨_,⟨R2,(by rw[hrm,if_neg k1,if_neg k2,if_neg k3,if_neg k4,if_neg k5,if_neg k6]),rfl⟩,Cr 2 0⟩
 rintro S ⟨R,hrm2,rfl⟩;have hit:(BZ w R).1.r.items=w.r.items:=Zm w R;have hxa:(BZ w R).1.r.items[0]?=some x0:=by rw[hit];exact hx0
 have hil1:0<(BZ w R).1.r.items.length:=by rw[hit];exact hil
 refine Bf (h:=Bd (h:=?_));refine A4 rfl (fun hb10 hc10=>?_) (fun hb10 hc10=>?_)
 ·have h0:R.2.2=0:=hc10;refine C2 (h:=Dj (h:=?_));refine A3 rfl (E1 (m:=0) rfl rfl rfl hil1 ?_);refine f_ (h:=?_);refine Mc (Ep rfl rfl rfl rfl rfl rfl (ME B5 (x':={x0 with role:=3}) hxa (by repeat constructor) (List.cons_ne_nil _ _)) (by repeat constructor) ?_);refine e_ (Dv (h:=?_));refine BU (r:= .v (.int .i64 (Ey w).2)) none (h5:=(by rw[hrm2,KG,if_neg (by simp[h0])];exact LeA.of_eq (vi h0))) (h6:=⟨rfl,rfl,?_⟩);rw[hrm2,KG,if_neg (by simp[h0])];rw[Z1,Z2 hxa];rfl
 have h0:¬R.2.2=0:=hc10;refine AG (Dv (h:=?_));refine BU (r:= .v (.int .i64 (Ey w).2)) none (h5:=(by rw[hrm2,KG,if_pos h0];exact A7 _)) (h6:=⟨rfl,rfl,?_⟩);rw[hrm2,KG,if_pos h0];rw[Rl h0];rfl
theorem Zo(w:Wrk)(cap:Nat)(f:Fnd)(hv:SpcV w.s.spc)(hm:w.s.spc.mounts.length≤1000)(hf:w.found[0]?=some f):ACall prog 149 [.bp 0 0] [WA w cap,IB w cap] (fun r b t=>t=[]∧r= .v (.int .i64 (GX w).2)∧b=[WA (GX w).1 cap,IB (GX w).1 cap]):=by
 have hsb:=hv.b hm;have hrow0:(w.found.map Al)[0]?=some (Al f):=by rw[List.getElem?_map,hf];rfl
 have hfn:B0 w 0=f:=by unfold B0;rw[hf];rfl
 obtain⟨n,hnd⟩:∃n,n=Ag w.s.spc.files f.file:=⟨_,rfl⟩;have hnode:AFn prog 123 [.agg (Au w.s.spc.files), .agg (AB f.file)] (fun r=>r= .tup [.agg (AZ n), .v (.bool (Dy w.s.spc.files f.file))]):=by rw[hnd];exact FJ _ _ hsb.files
 have hat:GX w=if f.ex=false then(w,2)else if w.c.num=14 then(if w.p.euid≠0∧w.p.euid≠n.uid then(w,1)else Lf w (G5 w.s.spc.files f.file w.c.a0 n.uid n.gid))else if w.p.euid≠0 then(w,1)else Lf w (G5 w.s.spc.files f.file n.mode w.c.a0 w.c.a1):=by
  unfold GX;rw[hfn,←hnd]
 clear hnd;refine enter Tryz.func149 rfl rfl rfl rfl rfl 2 rfl ?_;refine EL (h:=k_ (h:=AO (h:=?_)));refine A3 rfl (DE (n:=0) rfl rfl rfl hrow0 ?_);refine Jb (h:=Fh (h:=D2 (h:=?_)));refine A4 rfl (fun hb1 hc1=>?_) (fun hb1 hc1=>?_)
 ·have k1:f.ex=false:=by simpa using hc1
  refine BK (h:=?_);refine BU (r:= .v (.int .i64 (GX w).2)) none (h5:=(by rw[hat,if_pos k1];exact A7 _)) (h6:=⟨rfl,rfl,?_⟩);rw[hat,if_pos k1];rfl
 have k1:¬f.ex=false:=by simpa using hc1
 refine AG (?_);refine BC (fun S=>S=⟨look [(0, .bp 0 0),(3, .bp 2 0),(4, .bp 3 0)],⟨[WA w cap,IB w cap,Al f,AZ n],[]⟩⟩) ?_ ?_
 ·skip
  refine BR ([(0,WA w cap),(1,IB w cap),(2,Al f)]) 15 (h:=AE 0 (h:=BL 1 (h:=AA 2 (h:=AA 3 (h:=AA 4 (h:=A9 5 (h:=AA 6 (h:=A9 7 (h:=?_)))))))));refine Ft 8 12 rfl rfl ?_ ?_
  ·refine A8 (hnode) ?_;rintro r rfl;refine o_ (h:=?_);refine AE 9 (h:=BH 10 (h:=BH 11 (h:=?_)));refine c_ 12 rfl (Cb (by repeat constructor) ?_);refine o_ (h:=?_);refine B8 13 (h:=B9 14 (h:=z_ (h:=?_)));refine AR ?_;exact⟨_,rfl,Cr 4 0⟩
  refine Cb (by repeat constructor) ?_;refine o_ (h:=?_);refine c_ 8 rfl (A8 (hnode) ?_);rintro r rfl;refine o_ (h:=AE 9 (h:=BH 10 (h:=BH 11 (h:=?_))));refine B8 13 (h:=B9 14 (h:=z_ (h:=?_)));refine AR ?_;exact⟨_,rfl,Cr 4 0⟩
 rintro S rfl;refine BC (fun S=>∃m u g,GX w=Lf w (G5 w.s.spc.files f.file m u g)∧S=⟨look [(0, .bp 0 0),(3, .bp 2 0),(4, .bp 3 0)],⟨[WA w cap,IB w cap,Al f,AZ {n with mode:=m,uid:=u,gid:=g}],[]⟩⟩) ?_ ?_
 ·skip
  refine Aa (h:=Dj (h:=Bd (h:=?_)));refine A4 rfl (fun hb2 hc2=>?_) (fun hb2 hc2=>?_)
  ·have k2:w.c.num=14:=hc2;refine q_ (?_);refine BC (fun S=>S=⟨look [(0, .bp 0 0),(3, .bp 2 0),(4, .bp 3 0),(50, .v (.bool (!decide (w.p.euid=0)&& !decide (w.p.euid=n.uid))))],⟨[WA w cap,IB w cap,Al f,AZ n],[]⟩⟩) ?_ ?_
   ·skip
    refine Ct 16 (h:=AE 0 (h:=BL 1 (h:=AA 2 (h:=AA 3 (h:=A9 4 (h:=Lv 5 (h:=AE 6 (h:=?_))))))));refine GD (j:=6) rfl (fun hb3=>?_) (fun hb3=>?_)
    ·have hc3:=bp hb3;refine AE 7 (h:=BL 8 (h:=AA 9 (h:=AA 10 (h:=A9 11 (h:=AA 12 (h:=A9 13 (h:=Lv 14 (h:=Hk 15 (h:=z_ (h:=?_))))))))));refine AR ?_;exact⟨_,rfl,CM 4 0 (by simp[AY,AT,AQ,Bq B5,BD,WA,IB,Cq,Al,AZ,AB,Ao,AW,Au])⟩
    have hc3:=bp hb3;refine Aj 7 (h:=Aj 8 (h:=Aj 9 (h:=Aj 10 (h:=Aj 11 (h:=Aj 12 (h:=Aj 13 (h:=Aj 14 (h:=FB 15 (h:=z_ (h:=?_))))))))));refine AR ?_;exact⟨_,rfl,CM 4 0 (by simp[AY,AT,AQ,Bq B5,BD,WA,IB,Cq,Al,AZ,AB,Ao,AW,Au])⟩
   rintro S rfl;refine A4 rfl (fun hb4 hc4=>?_) (fun hb4 hc4=>?_)
   ·have k3:w.p.euid≠0∧w.p.euid≠n.uid:=by simpa using hc4
    refine BK (h:=BN (?_));refine BU (r:= .v (.int .i64 (GX w).2)) none (h5:=(by rw[hat,if_neg k1,if_pos k2,if_pos k3];exact A7 _)) (h6:=⟨rfl,rfl,?_⟩);rw[hat,if_neg k1,if_pos k2,if_pos k3];rfl
   have k3:¬(w.p.euid≠0∧w.p.euid≠n.uid):=by simpa using hc4
   refine AG (C2 (h:=HQ (h:=f_ (h:=?_))));refine A3 rfl (Bg (len:=4) (sz:=1) (n:=0) (by kernel_rfl) rfl rfl rfl rfl ?_);refine l_ (h:=Jf (h:=?_));exact⟨_,⟨w.c.a0,n.uid,n.gid,(by rw[hat,if_neg k1,if_pos k2,if_neg k3]),rfl⟩,Cr 4 0⟩
  have k2:¬w.c.num=14:=hc2;refine Bf (h:=Dj (h:=Bl (h:=?_)));refine A4 rfl (fun hb5 hc5=>?_) (fun hb5 hc5=>?_)
  ·have k3:w.p.euid≠0:=by simpa using hc5
   refine BK (h:=BN (?_));refine BU (r:= .v (.int .i64 (GX w).2)) none (h5:=(by rw[hat,if_neg k1,if_neg k2,if_pos k3];exact A7 _)) (h6:=⟨rfl,rfl,?_⟩);rw[hat,if_neg k1,if_neg k2,if_pos k3];rfl
  have k3:¬w.p.euid≠0:=by simpa using hc5
  refine AG (BR ([(0,WA w cap),(1,IB w cap),(2,Al f)]) 16 (h:=AE 0 (h:=BL 1 (h:=AA 2 (h:=AA 3 (h:=?_))))));refine C5 4 rfl (fun _ hS=>Bg (len:=4) (sz:=1) (n:=0) (by kernel_rfl) rfl rfl rfl rfl ⟨rfl,rfl⟩) ?_;refine A9 5 (h:=AE 6 (h:=BL 7 (h:=AA 8 (h:=AA 9 (h:=?_)))));refine C5 10 rfl (fun _ hS=>Bg (len:=4) (sz:=1) (n:=1) (by kernel_rfl) rfl rfl rfl rfl ⟨rfl,rfl⟩) ?_;refine A9 11 (h:=AA 12 (h:=?_));refine B8 13 (h:=AA 14 (h:=?_));refine B8 15 (h:=z_ (h:=?_));refine AR ?_
  first|exact⟨_,⟨w.c.a0,n.uid,n.gid,(by rw[hat,if_neg k1,if_pos k2,if_neg k3]),rfl⟩,Cr 4 0⟩|exact⟨_,⟨n.mode,w.c.a0,w.c.a1,(by rw[hat,if_neg k1,if_neg k2,if_neg k3]),rfl⟩,Cr 4 0⟩
 rintro S ⟨m,u,g,hat2,rfl⟩;obtain⟨R,hR⟩:∃R,R=G5 w.s.spc.files f.file m u g:=⟨_,rfl⟩;have hset:AFn prog 176 [.agg (Au w.s.spc.files), .agg (AB f.file), .v (.int .i64 m), .v (.int .i64 u), .v (.int .i64 g)] (fun r=>r=PZ R):=by rw[hR];exact hH _ _ _ _ _ hv.files
 rw[←hR]at hat2;clear hR;refine BC (fun S=>S=⟨look [(0, .bp 0 0),(6, .bp 4 0),(7, .v (.int .i64 R.2))],⟨[WA w cap,IB w cap,Al f,AZ {n with mode:=m,uid:=u,gid:=g},Au R.1],[]⟩⟩) ?_ ?_
 ·skip
  refine BR ([(0,WA w cap),(1,IB w cap),(2,Al f),(3,AZ {n with mode:=m,uid:=u,gid:=g})]) 21 (h:=AE 0 (h:=BL 1 (h:=AA 2 (h:=AA 3 (h:=AA 4 (h:=A9 5 (h:=AA 6 (h:=A9 7 (h:=AA 8 (h:=A9 9 (h:=AA 10 (h:=A9 11 (h:=AA 12 (h:=A9 13 (h:=?_)))))))))))))));refine Ft 14 18 rfl rfl ?_ ?_
  ·refine A8 (hset) ?_;rintro r rfl;refine o_ (h:=?_);refine AE 15 (h:=BH 16 (h:=BH 17 (h:=?_)));refine c_ 18 rfl (Cb (by repeat constructor) ?_);refine o_ (h:=?_);refine B8 19 (h:=B9 20 (h:=z_ (h:=?_)));refine AR ?_;exact⟨_,rfl,Cr 5 0⟩
  refine Cb (by repeat constructor) ?_;refine o_ (h:=?_);refine c_ 14 rfl (A8 (hset) ?_);rintro r rfl;refine o_ (h:=AE 15 (h:=BH 16 (h:=BH 17 (h:=?_))));refine B8 19 (h:=B9 20 (h:=z_ (h:=?_)));refine AR ?_;exact⟨_,rfl,Cr 5 0⟩
 rintro S rfl;refine Aa (h:=HA (h:=?_));refine A3 rfl (Bj [0,1] rfl (.cons _ _ _ _ _ rfl (A7 _) (.cons _ _ _ _ _ rfl (A7 _) (.cons _ _ _ _ _ rfl (LeA.nil _) (.cons _ _ _ _ _ rfl (A7 _) .nil)))) (by decide) (.cons _ _ _ _ _ rfl rfl (.cons _ _ _ _ _ rfl (Dg B5 _ _ _) .nil)) (OZ w cap R.1 [] R.2) ?_);rintro r bc tc ⟨rfl,rfl,rfl⟩;refine⟨rfl,_,E8 rfl (BZ w (R.1,[],R.2)).1 cap,?_⟩;refine Az (h:=?_);refine BU (r:= .v (.int .i64 (GX w).2)) none (h5:=(by rw[hat2,Lf,mG];exact A7 _)) (h6:=⟨rfl,rfl,?_⟩);rw[hat2,Lf];rfl
end
end Go.Proofs.YtbgnigjfkbmceaaGreatDoor
