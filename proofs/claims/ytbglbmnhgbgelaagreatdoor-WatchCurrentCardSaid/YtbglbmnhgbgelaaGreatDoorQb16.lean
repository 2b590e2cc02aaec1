/-
  Part 16 of the proof of WatchCurrentP: what the statement's proof uses of the texts in wip/tpl.
-/
import Derived.Test.YtbglbmnhgbgelaaGreatDoorQb15
set_option maxRecDepth 10000
set_option maxHeartbeats 4000000
set_option linter.unusedVariables false
set_option linter.unusedSimpArgs false
namespace Go.Proofs.YtbglbmnhgbgelaaGreatDoor
open Go.RowKit
def Bare(s:Spc):Prop:=FlsV s.files∧0<s.files.length∧s.mounts=[]
theorem Bare.v{s:Spc}(h:Bare s):SpcV s:=⟨h.1,h.2.1,fun i m hm=>by rw[h.2.2]at hm;cases hm⟩
theorem Bare.m{s:Spc}(h:Bare s):s.mounts.length≤1000:=by rw[h.2.2];exact Nat.zero_le _
theorem Ua{w:Wrk}{R:Df}(h:Bare w.s.spc)(hR:Hc w.s.spc.files R):Bare (Bl w R).1.s.spc:=by
 unfold Bl
 split
 ·rename_i h0
  obtain⟨k1,k2⟩:=hR h0
  exact⟨k1,by show 0<R.1.length;rw[k2];exact h.2.1,h.2.2⟩
 exact h
theorem Ub:TabB Cz:=⟨Nat.zero_le _,(fun p hp=>by cases hp),by decide,by decide⟩
theorem eG{t:Tab}(ht:TabB t)(pid:Int)(a:A9)(fl:Int):TabB (EH t pid a fl).1:=by
 unfold EH
 split
 ·exact Ub
 split
 ·exact Ub
 rename_i h8
 refine⟨by simpa[Fv]using ht.few,fun p hp=>?_,ht.next,ht.nextS⟩
 simp only[Fv,List.mem_map]at hp
 obtain⟨x,hx,rfl⟩:=hp
 split
 ·simp[K6]
  omega
 exact ht.opens x hx
theorem eH{w:Wrk}{R:Tab×Int}(h:TabB w.s.tab)(hR:TabB R.1):TabB (DS w R).1.s.tab:=by
 unfold DS
 split
 ·exact hR
 exact h
theorem Uc(w:Wrk)(R:Df):(Bl w R).1.s.tab=w.s.tab:=by
 unfold Bl
 split<;>rfl
theorem eJ(w:Wrk)(R:Tab×Int):(DS w R).1.s.spc=w.s.spc:=by
 unfold DS
 split<;>rfl
def E6(s:Syst):Prop:=Bare s.spc∧TabB s.tab
theorem Ud{w:Wrk}{i:Nat}{n:Nod}(h:E6 w.s):E6 (Cc w i n).1.s:=by
 unfold Cc
 split
 ·exact⟨Ua h.1 (Hd h.1.1 _ _ _),by show TabB (Bl w _).1.s.tab;rw[Uc];exact h.2⟩
 exact h
theorem Ue{w:Wrk}(h:E6 w.s)(a:A9):E6 (Gi w a).1.s:=by
 unfold Gi
 exact⟨by rw[eJ];exact h.1,eH h.2 (eG h.2 _ _ _)⟩
theorem eK{w:Wrk}(h:E6 w.s):E6 (C5 w).1.s:=by
 unfold C5
 repeat' split
 all_goals first|with_reducible exact Ud h|with_reducible exact Ue h _|with_reducible exact Ue (Ud h) _|exact h
theorem eL{w:Wrk}{R:Df}{x:A9}(h:E6 w.s)(hR:Hc w.s.spc.files R):E6 (GH w R x).1.s:=by
 have hf:E6 (Bl w R).1.s:=⟨Ua h.1 hR,by rw[Uc];exact h.2⟩
 unfold GH
 repeat' split
 all_goals first|exact h|exact hf
theorem eM{w:Wrk}(h:E6 w.s):E6 (Dm w).1.s:=by
 have hf:FlsV w.s.spc.files:=h.1.1
 unfold Dm
 repeat' split
 all_goals first|with_reducible exact eL h (He hf _ _ _ _)|exact h
theorem Q8{s:Syst}{pid:Int}{c:Cal}(h:E6 s)(h6:c.num=6∨c.num=13):E6 (E5 s pid c).1:=by
 have ha:E6 (D0 (EY s pid c)).1.s:=by
  rcases h6 with h6|h6
  ·rw[D0,if_pos (show(EY s pid c).c.num=6 from h6)];exact eK h
  have h13:(EY s pid c).c.num=13:=h6
  rw[D0,if_neg (show¬(EY s pid c).c.num=6 by omega),if_neg (show¬(EY s pid c).c.num=8 by omega),if_neg (show¬((EY s pid c).c.num=10∨(EY s pid c).c.num=12) by omega),if_pos h13];exact eM h
 unfold E5
 repeat' split
 all_goals first|exact h|exact ha
theorem NR:E6 (GJ 1).1:=by
 have h:=Sh (k:=1) (by decide) (by decide)
 have e:(GJ 1).1=⟨⟨(Dy 1).1,[]⟩,Pi (0,1)⟩:=by
  unfold GJ
  rw[if_neg (by decide)]
 rw[e]
 exact⟨⟨h.1,h.2,rfl⟩,⟨by decide,by decide,by decide,by decide⟩⟩
def KD(a:UInt8):AD:=⟨#[47,a]⟩
def GO(a:UInt8):Cal:=⟨6,6,420,0,0,[KD a],[]⟩
def NT:Cal:=⟨13,0,0,0,0,[KD 98,KD 97],[]⟩
def KE:Syst:=(GJ 1).1
def JS:Syst:=(E5 KE 1 (GO 97)).1
def Gl:Syst:=(E5 JS 1 (GO 98)).1
def KF:Syst:=(E5 Gl 1 NT).1
def KG:Res:=(E5 Gl 1 NT).2
def Gm:Wch:=(FC Gl.spc 1 (KD 97)).1
def Ll:Wch:=(EK KF.spc Gm).1
set_option maxRecDepth 100000 in
theorem eN:(FC Gl.spc 1 (KD 97)).2=0∧Gm.file.2=2∧(EK KF.spc Gm).2=true∧NO Gm KG.gone KG.changes=(Ll,true)∧Ll.file.2=3∧KG.changes.length≤1000∧Gm.name.size≤100∧(GJ 1).2=0:=by decide+kernel
theorem NU:E6 JS:=Q8 NR (.inl rfl)
theorem KH:E6 Gl:=Q8 NU (.inl rfl)
theorem Uf:E6 KF:=Q8 KH (.inr rfl)
theorem eO(s:Spc)(k:Int)(p:AD):(FC s k p).1.name.size≤12:=by
 unfold FC
 repeat' split
 all_goals first|exact Nat.zero_le 12|exact Pz _ _ _ _
def KJ(x:Wch):List Value:=[.int .i64 x.kind, .int .i64 x.dir.1, .int .i64 x.dir.2, .string x.name, .int .i64 x.file.1, .int .i64 x.file.2]
set_option maxRecDepth 10000 in
set_option maxHeartbeats 1000000 in
theorem Ug(op:BinOp)(x:Wch)(w:World)(h:op= .eql∨op= .neq):(binOp op 38 (.agg (KJ x).toArray) (.agg (KJ x).toArray)).run Tryz.prog w= .ok (.bool (decide (op= .eql))) w:=by
 have u3:=Tryz.underlying3
 have a3:=Tryz.isAgg3
 have z3:=Tryz.sizeOf3
 have u9:=Tryz.underlying9
 have a9:=Tryz.isAgg9
 have z9:=Tryz.sizeOf9
 have u5:=Tryz.underlying36
 have a5:=Tryz.isAgg36
 have z5:=Tryz.sizeOf36
 have hS:Tryz.prog.underlying 38=some (.struct (Tryz.prog.fieldsOf 38)):=by kernel_rfl
 have hp:Tryz.prog.stoodInHeld 38=false:=by kernel_rfl
 have hSF:Tryz.prog.underlying 36=some (.struct (Tryz.prog.fieldsOf 36)):=by kernel_rfl
 have hpF:Tryz.prog.stoodInHeld 36=false:=by kernel_rfl
 have eF:∀(d:Nat) (a b:Int) (w:World),(Op.equalIn (d+2) 36 (.agg #[.int .i64 a, .int .i64 b]) (.agg #[.int .i64 a, .int .i64 b])).run Tryz.prog w= .ok true w:=by
  intro d a b w
  rw[run_equalIn_agg w (d+1) 36 _ _ hSF hpF]
  simp only[Program.fieldsOf,Tryz.underlying36]
  go_simp
 have e:∀w,(Op.equalIn 10000 38 (.agg (KJ x).toArray) (.agg (KJ x).toArray)).run Tryz.prog w= .ok true w:=by
  intro w
  rw[show(10000:Nat)=9999+1 from rfl,run_equalIn_agg w 9999 38 _ _ hS hp]
  simp only[Program.fieldsOf,Tryz.underlying38,KJ]
  go_simp
 rcases h with rfl|rfl
 ·rw[run_eql_struct,e]
  rfl
 rw[run_neq_struct,e]
 rfl
theorem NV(x:Wch):AllV (BK x) (KJ x):=by repeat constructor
theorem eQ{ev:Operand→Option AV}{h:AH}{R:AV→AH→Prop}{d:Option Tmp}{ty:TypeId}{pos:String}{af:Array Edge}{gd:Option (Nat×Bool)}{yT:TypeId}{x y:Operand}(z:Wch)(hx:ev x=some (.agg (BK z)))(hy:ev y=some (.agg (BK z)))(hR:R (.v (.bool true)) h):AStep Tryz.prog ⟨d, .binOp .eql 38 x y yT,ty,pos,af,gd⟩ ev h R:=
 EN hx hy (NV z) (NV z) (fun w=>Ug .eql z w (.inl rfl)) (by kernel_rfl) hR
theorem eR{ev:Operand→Option AV}{h:AH}{R:AV→AH→Prop}{d:Option Tmp}{ty:TypeId}{pos:String}{af:Array Edge}{gd:Option (Nat×Bool)}{yT:TypeId}{x y:Operand}(z:Wch)(hx:ev x=some (.agg (BK z)))(hy:ev y=some (.agg (BK z)))(hR:R (.v (.bool false)) h):AStep Tryz.prog ⟨d, .binOp .neq 38 x y yT,ty,pos,af,gd⟩ ev h R:=
 EN hx hy (NV z) (NV z) (fun w=>Ug .neq z w (.inr rfl)) (by kernel_rfl) hR
section
theorem Uh:AFn Tryz.prog 11 [] (fun r=>r= .v (.bool true)):=by
 obtain⟨y1,y2,y3,y4,y5,y6,y7,y8⟩:=eN
 have hnew:AFn Tryz.prog 44 [.v (.int .i64 1)] (fun r=>r= .tup [.agg (D1 KE), .v (.int .i64 0)]):=(cA 1).mono fun r hr=>by rw[hr,NL,y8];rfl
 have hr1:AFn Tryz.prog 35 [.agg (D1 KE), .v (.int .i64 1), .agg (EU (GO 97))] (fun r=>r= .tup [.agg (D1 JS), .agg (EZ (E5 KE 1 (GO 97)).2)]):=Q1 _ _ _ NR.1.v NR.1.m NR.2 (by decide) (by decide) (.inl rfl)
 have hr2:AFn Tryz.prog 35 [.agg (D1 JS), .v (.int .i64 1), .agg (EU (GO 98))] (fun r=>r= .tup [.agg (D1 Gl), .agg (EZ (E5 JS 1 (GO 98)).2)]):=Q1 _ _ _ NU.1.v NU.1.m NU.2 (by decide) (by decide) (.inl rfl)
 have hr3:AFn Tryz.prog 35 [.agg (D1 Gl), .v (.int .i64 1), .agg (EU NT)] (fun r=>r= .tup [.agg (D1 KF), .agg (EZ KG)]):=Q1 _ _ _ KH.1.v KH.1.m KH.2 (by decide) (by decide) (.inr rfl)
 have hpl:AFn Tryz.prog 17 [.agg (Al Gl.spc), .v (.int .i64 1), .v (.string (KD 97))] (fun r=>r= .tup [.agg (BK Gm), .v (.int .i64 0)]):=(dV _ _ _ KH.1.v KH.1.m (by decide)).mono fun r hr=>by rw[hr,Q3,y1];rfl
 have hfo:AFn Tryz.prog 24 [.agg (Al KF.spc), .agg (BK Gm)] (fun r=>r= .tup [.agg (BK Ll), .v (.bool true)]):=(Q7 _ _ (Uf.1.v.b Uf.1.m)).mono fun r hr=>by rw[hr,Li,y3];rfl
 have hch:AFn Tryz.prog 33 [.agg (BK Gm), .agg (EZ KG)] (fun r=>r= .tup [.agg (BK Ll), .v (.bool true)]):=(eC _ _ y6).mono fun r hr=>by rw[hr,y4];rfl
 obtain⟨W,hW⟩:∃W,W=Gm:=⟨_,rfl⟩
 obtain⟨U,hU⟩:∃U,U=Ll:=⟨_,rfl⟩
 obtain⟨S0,hS0⟩:∃S,S=KE:=⟨_,rfl⟩
 obtain⟨S1,hS1⟩:∃S,S=JS:=⟨_,rfl⟩
 obtain⟨S2,hS2⟩:∃S,S=Gl:=⟨_,rfl⟩
 obtain⟨S3,hS3⟩:∃S,S=KF:=⟨_,rfl⟩
 obtain⟨R1,hR1⟩:∃R,R=(E5 KE 1 (GO 97)).2:=⟨_,rfl⟩
 obtain⟨R2,hR2⟩:∃R,R=(E5 JS 1 (GO 98)).2:=⟨_,rfl⟩
 obtain⟨R3,hR3⟩:∃R,R=KG:=⟨_,rfl⟩
 rw[←hS0]at hnew
 rw[←hR1,←hS1,←hS0]at hr1
 rw[←hR2,←hS2,←hS1]at hr2
 rw[←hR3,←hS3,←hS2]at hr3
 rw[←hW,←hS2]at hpl
 rw[←hU,←hW,←hS3]at hfo
 rw[←hU,←hW,←hR3]at hch
 rw[←hW]at y2
 rw[←hU]at y5
 clear hW hU hS0 hS1 hS2 hS3 hR1 hR2 hR3 y1 y3 y4 y6 y7 y8
 refine enter Tryz.func11 rfl rfl rfl rfl rfl 0 rfl ?_
 refine w_ (a_ (h:=e_ (w_ (?_))))
 refine A6 rfl (AG (hnew) ?_)
 rintro r rfl
 refine m_ (h:=x_ (h:=x_ (h:=AY (h:=s_ (h:=a_ (h:=e_ (w_ (l_ (h:=AT (h:=Bh (h:=?_)))))))))))
 refine A6 rfl (Fl (y:= .agg (EU (GO 97))) (DD ⟨rfl,rfl⟩) ?_)
 refine A6 rfl (AG (hr1) ?_)
 rintro r rfl
 refine m_ (h:=x_ (h:=x_ (h:=s_ (h:=e_ (w_ (l_ (h:=AT (h:=Bh (h:=?_)))))))))
 refine A6 rfl (Fl (y:= .agg (EU (GO 98))) (DD ⟨rfl,rfl⟩) ?_)
 refine A6 rfl (AG (hr2) ?_)
 rintro r rfl
 refine m_ (h:=x_ (h:=x_ (h:=s_ (h:=e_ (w_ (f_ (h:=l_ (h:=?_))))))))
 refine A6 rfl (AG (hpl) ?_)
 rintro r rfl
 refine m_ (h:=x_ (h:=x_ (h:=AY (h:=s_ (h:=a_ (h:=e_ (w_ (l_ (h:=Bh (h:=?_))))))))))
 refine A6 rfl (Fl (y:= .agg (EU NT)) (DD ⟨rfl,rfl⟩) ?_)
 refine A6 rfl (AG (hr3) ?_)
 rintro r rfl
 refine m_ (h:=x_ (h:=x_ (h:=AY (h:=AY (h:=s_ (h:=s_ (h:=e_ (w_ (f_ (h:=l_ (h:=l_ (h:=?_))))))))))))
 refine A6 rfl (AG (hfo) ?_)
 rintro r rfl
 refine m_ (h:=x_ (h:=x_ (h:=AY (h:=s_ (h:=a_ (h:=e_ (w_ (l_ (h:=l_ (h:=?_))))))))))
 refine A6 rfl (AG (hch) ?_)
 rintro r rfl
 refine m_ (h:=x_ (h:=x_ (h:=AY (h:=s_ (h:=a_ (h:=e_ (w_ (m_ (h:=AW (h:=m_ (h:=?_)))))))))))
 refine Ar true rfl rfl (fun hb1=>?_) (fun hb1=>?_)
 ·have hc1:=bp hb1
  refine f_ (h:=f_ (h:=l_ (h:=AW (h:=AZ (h:=m_ (h:=?_))))))
  refine Ar true rfl rfl (fun hb2=>?_) (fun hb2=>?_)
  ·have hc2:=bp hb2
   refine m_ (h:=AZ (h:=m_ (h:=?_)))
   refine Ar true rfl rfl (fun hb3=>?_) (fun hb3=>?_)
   ·have hc3:=bp hb3
    refine m_ (h:=AZ (h:=m_ (h:=?_)))
    refine Ar true rfl rfl (fun hb4=>?_) (fun hb4=>?_)
    ·have hc4:=bp hb4
     refine l_ (h:=l_ (h:=?_))
     refine Az (eQ U rfl rfl ?_)
     refine AZ (h:=m_ (h:=?_))
     refine Ar true rfl rfl (fun hb5=>?_) (fun hb5=>?_)
     ·have hc5:=bp hb5
      refine f_ (h:=f_ (h:=l_ (h:=AW (h:=AZ (h:=a_ (h:=e_ (A4 (?_))))))))
      refine AB ?_
      first|rfl|(exfalso;first|contradiction|omega)|exact vb (by simp[y5])
     have hc5:=bp hb5
     refine A3 (h:=A3 (h:=A3 (h:=A3 (h:=Ah (h:=a_ (h:=e_ (A4 (?_))))))))
     refine AB ?_
     first|rfl|(exfalso;first|contradiction|omega)
    have hc4:=bp hb4
    refine A3 (h:=A3 (h:=A3 (h:=Ah (h:=m_ (h:=A3 (h:=A3 (h:=A3 (h:=A3 (h:=Ah (h:=a_ (h:=e_ (A4 (?_)))))))))))))
    refine AB ?_
    first|rfl|(exfalso;first|contradiction|omega)
   have hc3:=bp hb3
   refine A3 (h:=Ah (h:=m_ (h:=A3 (h:=A3 (h:=A3 (h:=Ah (h:=m_ (h:=A3 (h:=A3 (h:=A3 (h:=A3 (h:=Ah (h:=a_ (h:=e_ (A4 (?_))))))))))))))))
   refine AB ?_
   first|rfl|(exfalso;first|contradiction|omega)
  have hc2:=bp hb2
  refine A3 (h:=Ah (h:=m_ (h:=A3 (h:=Ah (h:=m_ (h:=A3 (h:=A3 (h:=A3 (h:=Ah (h:=m_ (h:=A3 (h:=A3 (h:=A3 (h:=A3 (h:=Ah (h:=a_ (h:=e_ (A4 (?_)))))))))))))))))))
  refine AB ?_
  first|rfl|(exfalso;first|contradiction|omega)
 have hc1:=bp hb1
 refine A3 (h:=A3 (h:=A3 (h:=A3 (h:=Ah (h:=m_ (h:=A3 (h:=Ah (h:=m_ (h:=A3 (h:=Ah (h:=m_ (h:=A3 (h:=A3 (h:=A3 (h:=Ah (h:=m_ (h:=A3 (h:=A3 (h:=A3 (h:=A3 (h:=Ah (h:=a_ (h:=e_ (?_))))))))))))))))))))))))
 refine A4 (?_)
 refine AB ?_
 first|rfl|(exfalso;first|contradiction|omega)
theorem eS(l:List Int)(a:Nat)(s:Spc)(ha:a≤100000000)(hv:SpcV s)(hm:s.mounts.length≤1000):Eg Tryz.prog 20 l a [.agg (Al s)] 60 (fun r=>∃(w:Wch) (b:Bool),r=Li (w,b)∧w.name.size≤100∧(b=true→∃k p,FC s k p=(w,0))∧(b=false→w=Ea)):=by
 refine enter Tryz.func20 rfl rfl rfl rfl rfl 1 rfl ?_
 refine w_ (b_ (h:=AY (h:=a_ (h:=e_ (q_ (w_ (a_ (h:=e_ (Aj (?_))))))))))
 refine Bg (fun n S=>∃(j b:Nat),j≤6∧n=6 - j∧b≤a+10 * j∧S=⟨look [(0, .bp 0 0),(3, .bp 1 0),(4, .bp 2 0),(6, .v (.int .i64 (j:Int)))],⟨[DN l b,Al s,FD],[]⟩⟩) (6) ((wk 3 0)) (⟨0,a,by omega,rfl,by omega,rfl⟩) ?_
 rintro n S ⟨j,b0,hj,rfl,hb0,rfl⟩
 refine q_ (w_ (m_ (h:=BH (h:=e_ (?_)))))
 refine A8 rfl (fun hb1=>?_) (fun hb1=>?_)
 ·have hc1:=bp hb1
  refine AM (q_ (Aj (w_ (m_ (h:=?_)))))
  refine A6 rfl (BG 0 (hc:=eD l _ (by omega)) (hR:=?_))
  rintro r a1 ha1 ⟨p,rfl,hp⟩
  refine⟨rfl,_,(by repeat constructor),?_⟩
  refine a_ (h:=e_ (?_))
  refine BB (fun S=>∃(q:AD) (b:Nat),q.size≤60∧b≤a+10 * j+5∧S=⟨look [(0, .bp 0 0),(3, .bp 1 0),(4, .bp 2 0),(6, .v (.int .i64 (j:Int))),(7, .v (.string q))],⟨[DN l b,Al s,FD],[]⟩⟩) ?_ ?_
  ·skip
   refine w_ (m_ (h:=?_))
   refine A6 rfl (BG 0 (hc:=Gn l _ (8) (by omega) (by omega)) (hR:=?_))
   rintro r a2 ha2 ⟨k2,rfl,p2,q2,o2⟩
   refine⟨rfl,_,(by repeat constructor),?_⟩
   refine AW (h:=e_ (?_))
   refine A8 rfl (fun hb2=>?_) (fun hb2=>?_)
   ·have hc2:=bp hb2
    refine AQ (a_ (h:=AO (?_)))
    refine AF ?_
    (have h7:k2=7:=‹k2=7›;exact⟨_,⟨⟨#[47]⟩,_,(by decide),(by omega),rfl⟩,Au 3 0 rfl rfl rfl rfl ((by repeat (first|exact Sub.nil|refine Sub.cons _ _ _ rfl rfl ?_|refine Sub.any _ _ ?_|refine Sub.sl _ _ _ _ _ rfl ?_|refine Sub.slnil _ _ _ rfl ?_)))⟩)
   have hc2:=bp hb2
   refine B4 (?_)
   refine AF ?_
   first|(have h7:k2=7:=‹k2=7›;exact⟨_,⟨⟨#[47]⟩,_,(by decide),(by omega),rfl⟩,Au 3 0 rfl rfl rfl rfl ((by repeat (first|exact Sub.nil|refine Sub.cons _ _ _ rfl rfl ?_|refine Sub.any _ _ ?_|refine Sub.sl _ _ _ _ _ rfl ?_|refine Sub.slnil _ _ _ rfl ?_)))⟩)|exact⟨_,⟨p,_,hp,(by omega),rfl⟩,Au 3 0 rfl rfl rfl rfl ((by repeat (first|exact Sub.nil|refine Sub.cons _ _ _ rfl rfl ?_|refine Sub.any _ _ ?_|refine Sub.sl _ _ _ _ _ rfl ?_|refine Sub.slnil _ _ _ rfl ?_)))⟩
  rintro S ⟨q,b,hq,hb,rfl⟩
  refine BB (fun S=>∃(k:Int) (b:Nat),b≤a+10 * (j+1)∧S=⟨look [(0, .bp 0 0),(3, .bp 1 0),(4, .bp 2 0),(6, .v (.int .i64 (j:Int))),(8, .bp 3 0),(9, .v (.int .i64 (FC s k q).2))],⟨[DN l b,Al s,FD,BK (FC s k q).1],[]⟩⟩) ?_ ?_
  ·skip
   refine BL ([(1,Al s)]) 11 (h:=?_)
   refine AE 0 (h:=?_)
   refine AN 1 (h:=AN 3 (h:=?_))
   refine Dx 2 8 rfl rfl ?_ ?_
   ·refine BG 0 (hc:=Fq l _ (1) (2) (by omega) (by omega) (by omega) (by omega)) (hR:=?_)
    rintro r a3 ha3 ⟨k3,rfl,p3,q3⟩
    refine⟨rfl,_,(by repeat constructor),?_⟩
    refine o_ (h:=?_)
    refine Dx 4 8 rfl rfl ?_ ?_
    ·refine AG (Q6 s _ q hv hm (by omega)) ?_
     rintro r rfl
     refine o_ (h:=?_)
     refine AN 5 (h:=B1 6 (h:=B1 7 (h:=?_)))
     refine c_ 8 rfl (C0 (by repeat constructor) ?_)
     refine o_ (h:=?_)
     refine B0 9 rfl (Ay rfl rfl rfl rfl rfl rfl (by repeat constructor) (by repeat constructor) ?_)
     refine o_ (h:=B3 10 (h:=z_ (h:=?_)))
     refine AF ?_
     exact⟨_,⟨_,_,(by omega),rfl⟩,Au 4 0 rfl rfl rfl rfl ((by repeat (first|exact Sub.nil|refine Sub.cons _ _ _ rfl rfl ?_|refine Sub.any _ _ ?_|refine Sub.sl _ _ _ _ _ rfl ?_|refine Sub.slnil _ _ _ rfl ?_)))⟩
    refine C0 (by repeat constructor) ?_
    refine o_ (h:=?_)
    refine c_ 4 rfl (AG (Q6 s _ q hv hm (by omega)) ?_)
    rintro r rfl
    refine o_ (h:=AN 5 (h:=B1 6 (h:=B1 7 (h:=?_))))
    refine B0 9 rfl (Ay rfl rfl rfl rfl rfl rfl (by repeat constructor) (by repeat constructor) ?_)
    refine o_ (h:=B3 10 (h:=z_ (h:=?_)))
    refine AF ?_
    exact⟨_,⟨_,_,(by omega),rfl⟩,Au 4 0 rfl rfl rfl rfl ((by repeat (first|exact Sub.nil|refine Sub.cons _ _ _ rfl rfl ?_|refine Sub.any _ _ ?_|refine Sub.sl _ _ _ _ _ rfl ?_|refine Sub.slnil _ _ _ rfl ?_)))⟩
   refine C0 (by repeat constructor) ?_
   refine o_ (h:=?_)
   refine c_ 2 rfl (BG 0 (hc:=Fq l _ (1) (2) (by omega) (by omega) (by omega) (by omega)) (hR:=?_))
   rintro r a4 ha4 ⟨k4,rfl,p4,q4⟩
   refine⟨rfl,_,(by repeat constructor),?_⟩
   refine o_ (h:=?_)
   refine c_ 4 rfl (AG (Q6 s _ q hv hm (by omega)) ?_)
   rintro r rfl
   refine o_ (h:=AN 5 (h:=B1 6 (h:=B1 7 (h:=?_))))
   refine B0 9 rfl (Ay rfl rfl rfl rfl rfl rfl (by repeat constructor) (by repeat constructor) ?_)
   refine o_ (h:=B3 10 (h:=z_ (h:=?_)))
   refine AF ?_
   exact⟨_,⟨_,_,(by omega),rfl⟩,Au 4 0 rfl rfl rfl rfl ((by repeat (first|exact Sub.nil|refine Sub.cons _ _ _ rfl rfl ?_|refine Sub.any _ _ ?_|refine Sub.sl _ _ _ _ _ rfl ?_|refine Sub.slnil _ _ _ rfl ?_)))⟩
  rintro S ⟨kk,b1,hb1,rfl⟩
  refine w_ (m_ (h:=AW (h:=e_ (?_))))
  refine A8 rfl (fun hb3=>?_) (fun hb3=>?_)
  ·have hc3:=bp hb3
   have h0:(FC s kk q).2=0:=hc3
   refine w_ (l_ (h:=s_ (h:=a_ (h:=e_ (A4 (AX (A7 (A7 (AX (A7 (?_)))))))))))
   refine Aw none (h5:=(LeA.refl _)) (h6:=⟨_,rfl,rfl,b1,by omega,rfl,(FC s kk q).1,true,rfl,Nat.le_trans (eO s kk q) (by decide),fun _=>⟨kk,q,Prod.ext rfl h0⟩,fun h=>(by cases h)⟩)
  have hc3:=bp hb3
  refine B4 (As (t_ (AQ (m_ (h:=B6 (h:=a_ (h:=AO (?_))))))))
  refine AF ?_
  refine⟨_,_,?_,⟨j+1,_,by omega,rfl,?_,rfl⟩,Au 3 0 rfl rfl rfl rfl ((by repeat (first|exact Sub.nil|refine Sub.cons _ _ _ rfl rfl ?_|refine Sub.any _ _ ?_|refine Sub.sl _ _ _ _ _ rfl ?_|refine Sub.slnil _ _ _ rfl ?_)))⟩<;>omega
 have hc1:=bp hb1
 refine BM (Ak (Ak (BN (t_ (w_ (AT (h:=s_ (h:=a_ (h:=e_ (A4 (?_)))))))))))
 refine Aw none (h5:=(LeA.refl _)) (h6:=⟨_,rfl,rfl,b0,by omega,rfl,Ea,false,rfl,Nat.zero_le _,fun h=>(by cases h),fun _=>rfl⟩)
end
section
theorem eT(l:List Int)(raw:Wch):AFn Tryz.prog 4 [.sl 1 (l.map Bw) none, .agg (BK raw)] (fun r=>r= .v (.bool true)):=by
 refine enter Tryz.func4 rfl rfl rfl rfl rfl 0 rfl ?_
 refine w_ (b_ (h:=a_ (h:=e_ (q_ (w_ (f_ (h:=l_ (h:=n_ (h:=CG (h:=e_ (?_)))))))))))
 refine A8 rfl (fun hb1=>?_) (fun hb1=>?_)
 ·have hc1:=bp hb1
  refine w_ (?_)
  refine A6 rfl (AG (Uh) ?_)
  rintro r rfl
  refine a_ (h:=e_ (A4 (A7 (?_))))
  refine AB ?_
  rfl
 have hc1:=bp hb1
 refine AM (w_ (m_ (h:=?_)))
 refine A6 rfl (VP rfl (by repeat (first|exact Args.nil|refine Args.cons _ _ _ _ _ rfl (Kb rfl) ?_|refine Args.cons _ _ _ _ _ rfl (MA _) ?_|refine Args.cons _ _ _ _ _ rfl (KZ _) ?_|refine Args.cons _ _ _ _ _ rfl (MK rfl (by repeat (first|exact LeA.refl _|exact LeA.nil _|exact LeL.refl _|refine LeA.agg ?_|refine LeA.tup ?_|exact LeL.nil|refine LeL.cons ?_ ?_|exact LeA.any _))) ?_)) rfl (Xo l) (by repeat constructor) ?_)
 skip
 refine a_ (h:=e_ (w_ (m_ (h:=?_))))
 refine A6 rfl (BG 1 (hc:=YF l _ (by omega)) (hR:=?_))
 rintro r a1 ha1 ⟨s,rfl,hv,hm⟩
 refine⟨rfl,_,(by repeat constructor),?_⟩
 have hmm:s.mounts.length≤1000:=by omega
 have hsb:=hv.b hmm
 have hraw:raw.name.size≤100:=by omega
 refine AY (h:=s_ (h:=e_ (w_ (m_ (h:=l_ (h:=?_))))))
 refine A6 rfl (BG 1 (hc:=eS l _ s (by omega) hv hmm) (hR:=?_))
 rintro r a2 ha2 ⟨w,wb,rfl,hwn,hw1,hw2⟩
 refine⟨rfl,_,(by repeat constructor),?_⟩
 refine m_ (h:=x_ (h:=x_ (h:=AY (h:=s_ (h:=a_ (h:=e_ (w_ (l_ (h:=AY (h:=s_ (h:=e_ (?_))))))))))))
 refine BB (fun S=>∃(y:Wch) (b:Nat),y.name.size≤100∧S=⟨look [(3, .bp 0 0),(6, .bp 2 0),(7, .bp 3 0),(9, .bp 4 0)],⟨[BK raw,DN l b,Al s,BK w,BK y],[]⟩⟩) ?_ ?_
 ·skip
  refine w_ (m_ (h:=?_))
  refine A6 rfl (BG 1 (hc:=Gn l _ (5) (by omega) (by omega)) (hR:=?_))
  rintro r a3 ha3 ⟨k3,rfl,p3,q3,o3⟩
  refine⟨rfl,_,(by repeat constructor),?_⟩
  refine e_ (Aj (w_ (AW (h:=a_ (h:=e_ (?_))))))
  refine A8 rfl (fun hb2=>?_) (fun hb2=>?_)
  ·have hc2:=bp hb2
   refine AQ (m_ (h:=?_))
   refine A6 rfl (BG 1 (hc:=Fq l _ (0) (3) (by omega) (by omega) (by omega) (by omega)) (hR:=?_))
   rintro r a4 ha4 ⟨k4,rfl,p4,q4⟩
   refine⟨rfl,_,(by repeat constructor),?_⟩
   refine f_ (h:=s_ (h:=AO (As (?_))))
   refine AF ?_
   exact⟨_,⟨{w with kind:=k4},_,hwn,rfl⟩,Au 5 0 rfl rfl rfl rfl ((by repeat (first|exact Sub.nil|refine Sub.cons _ _ _ rfl rfl ?_|refine Sub.any _ _ ?_|refine Sub.sl _ _ _ _ _ rfl ?_|refine Sub.slnil _ _ _ rfl ?_)))⟩
  have hc2:=bp hb2
  refine w_ (AW (h:=a_ (h:=e_ (?_))))
  refine A8 rfl (fun hb3=>?_) (fun hb3=>?_)
  ·have hc3:=bp hb3
   refine AQ (m_ (h:=f_ (h:=l_ (h:=?_))))
   refine A6 rfl (BG 1 (hc:=Hh l _ s.files (by omega) hv.files.b hv.files.ne) (hR:=?_))
   rintro r a5 ha5 ⟨x5,rfl⟩
   refine⟨rfl,_,(by repeat constructor),?_⟩
   refine f_ (h:=s_ (h:=AO (As (?_))))
   refine AF ?_
   first|exact⟨_,⟨{w with kind:=k4},_,hwn,rfl⟩,Au 5 0 rfl rfl rfl rfl ((by repeat (first|exact Sub.nil|refine Sub.cons _ _ _ rfl rfl ?_|refine Sub.any _ _ ?_|refine Sub.sl _ _ _ _ _ rfl ?_|refine Sub.slnil _ _ _ rfl ?_)))⟩|exact⟨_,⟨{w with dir:=x5},_,hwn,rfl⟩,Au 5 0 rfl rfl rfl rfl ((by repeat (first|exact Sub.nil|refine Sub.cons _ _ _ rfl rfl ?_|refine Sub.any _ _ ?_|refine Sub.sl _ _ _ _ _ rfl ?_|refine Sub.slnil _ _ _ rfl ?_)))⟩
  have hc3:=bp hb3
  refine w_ (AW (h:=a_ (h:=e_ (?_))))
  refine A8 rfl (fun hb4=>?_) (fun hb4=>?_)
  ·have hc4:=bp hb4
   refine AQ (m_ (h:=f_ (h:=l_ (h:=?_))))
   refine A6 rfl (BG 1 (hc:=Hh l _ s.files (by omega) hv.files.b hv.files.ne) (hR:=?_))
   rintro r a6 ha6 ⟨x6,rfl⟩
   refine⟨rfl,_,(by repeat constructor),?_⟩
   refine f_ (h:=s_ (h:=AO (As (?_))))
   refine AF ?_
   first|exact⟨_,⟨{w with kind:=k4},_,hwn,rfl⟩,Au 5 0 rfl rfl rfl rfl ((by repeat (first|exact Sub.nil|refine Sub.cons _ _ _ rfl rfl ?_|refine Sub.any _ _ ?_|refine Sub.sl _ _ _ _ _ rfl ?_|refine Sub.slnil _ _ _ rfl ?_)))⟩|exact⟨_,⟨{w with dir:=x5},_,hwn,rfl⟩,Au 5 0 rfl rfl rfl rfl ((by repeat (first|exact Sub.nil|refine Sub.cons _ _ _ rfl rfl ?_|refine Sub.any _ _ ?_|refine Sub.sl _ _ _ _ _ rfl ?_|refine Sub.slnil _ _ _ rfl ?_)))⟩|exact⟨_,⟨{w with file:=x6},_,hwn,rfl⟩,Au 5 0 rfl rfl rfl rfl ((by repeat (first|exact Sub.nil|refine Sub.cons _ _ _ rfl rfl ?_|refine Sub.any _ _ ?_|refine Sub.sl _ _ _ _ _ rfl ?_|refine Sub.slnil _ _ _ rfl ?_)))⟩
  have hc4:=bp hb4
  refine w_ (AW (h:=a_ (h:=e_ (?_))))
  refine A8 rfl (fun hb5=>?_) (fun hb5=>?_)
  ·have hc5:=bp hb5
   refine AQ (m_ (h:=?_))
   refine A6 rfl (BG 1 (hc:=LW l _ (by omega)) (hR:=?_))
   rintro r a7 ha7 ⟨nm,rfl,hnm⟩
   refine⟨rfl,_,(by repeat constructor),?_⟩
   refine f_ (h:=s_ (h:=AO (As (?_))))
   refine AF ?_
   first|exact⟨_,⟨{w with kind:=k4},_,hwn,rfl⟩,Au 5 0 rfl rfl rfl rfl ((by repeat (first|exact Sub.nil|refine Sub.cons _ _ _ rfl rfl ?_|refine Sub.any _ _ ?_|refine Sub.sl _ _ _ _ _ rfl ?_|refine Sub.slnil _ _ _ rfl ?_)))⟩|exact⟨_,⟨{w with dir:=x5},_,hwn,rfl⟩,Au 5 0 rfl rfl rfl rfl ((by repeat (first|exact Sub.nil|refine Sub.cons _ _ _ rfl rfl ?_|refine Sub.any _ _ ?_|refine Sub.sl _ _ _ _ _ rfl ?_|refine Sub.slnil _ _ _ rfl ?_)))⟩|exact⟨_,⟨{w with file:=x6},_,hwn,rfl⟩,Au 5 0 rfl rfl rfl rfl ((by repeat (first|exact Sub.nil|refine Sub.cons _ _ _ rfl rfl ?_|refine Sub.any _ _ ?_|refine Sub.sl _ _ _ _ _ rfl ?_|refine Sub.slnil _ _ _ rfl ?_)))⟩|exact⟨_,⟨{w with name:=nm},_,(by show nm.size≤100;omega),rfl⟩,Au 5 0 rfl rfl rfl rfl ((by repeat (first|exact Sub.nil|refine Sub.cons _ _ _ rfl rfl ?_|refine Sub.any _ _ ?_|refine Sub.sl _ _ _ _ _ rfl ?_|refine Sub.slnil _ _ _ rfl ?_)))⟩
  have hc5:=bp hb5
  refine B4 (As (?_))
  refine AF ?_
  first|exact⟨_,⟨{w with kind:=k4},_,hwn,rfl⟩,Au 5 0 rfl rfl rfl rfl ((by repeat (first|exact Sub.nil|refine Sub.cons _ _ _ rfl rfl ?_|refine Sub.any _ _ ?_|refine Sub.sl _ _ _ _ _ rfl ?_|refine Sub.slnil _ _ _ rfl ?_)))⟩|exact⟨_,⟨{w with dir:=x5},_,hwn,rfl⟩,Au 5 0 rfl rfl rfl rfl ((by repeat (first|exact Sub.nil|refine Sub.cons _ _ _ rfl rfl ?_|refine Sub.any _ _ ?_|refine Sub.sl _ _ _ _ _ rfl ?_|refine Sub.slnil _ _ _ rfl ?_)))⟩|exact⟨_,⟨{w with file:=x6},_,hwn,rfl⟩,Au 5 0 rfl rfl rfl rfl ((by repeat (first|exact Sub.nil|refine Sub.cons _ _ _ rfl rfl ?_|refine Sub.any _ _ ?_|refine Sub.sl _ _ _ _ _ rfl ?_|refine Sub.slnil _ _ _ rfl ?_)))⟩|exact⟨_,⟨{w with name:=nm},_,(by show nm.size≤100;omega),rfl⟩,Au 5 0 rfl rfl rfl rfl ((by repeat (first|exact Sub.nil|refine Sub.cons _ _ _ rfl rfl ?_|refine Sub.any _ _ ?_|refine Sub.sl _ _ _ _ _ rfl ?_|refine Sub.slnil _ _ _ rfl ?_)))⟩|exact⟨_,⟨w,_,hwn,rfl⟩,Au 5 0 rfl rfl rfl rfl ((by repeat (first|exact Sub.nil|refine Sub.cons _ _ _ rfl rfl ?_|refine Sub.any _ _ ?_|refine Sub.sl _ _ _ _ _ rfl ?_|refine Sub.slnil _ _ _ rfl ?_)))⟩
 rintro S ⟨y,by1,hyn,rfl⟩
 refine w_ (l_ (h:=l_ (h:=l_ (h:=Bh (h:=a_ (h:=e_ (q_ (w_ (a_ (h:=e_ (Aj (?_))))))))))))
 refine Bg (fun n S=>∃(j:Nat),j≤3∧n=3 - j∧S=⟨look [(3, .bp 0 0),(6, .bp 2 0),(10, .sl 6 [BK raw,BK w,BK y] none),(11, .v (.int .i64 (j:Int)))],⟨[BK raw,DN l by1,Al s],[]⟩⟩) (3) ((wk 3 0)) (⟨0,by omega,rfl,rfl⟩) ?_
 rintro n S ⟨j,hj,rfl,rfl⟩
 refine q_ (w_ (m_ (h:=m_ (h:=n_ (h:=BH (h:=e_ (?_)))))))
 refine A8 rfl (fun hb6=>?_) (fun hb6=>?_)
 ·have hc6:=bp hb6
  obtain⟨z,hz,hzn⟩:∃z:Wch,[BK raw,BK w,BK y][j]?=some (BK z)∧z.name.size≤100:=by
   have hj3:j=0∨j=1∨j=2:=by have h3:[BK raw,BK w,BK y].length=3:=rfl;omega
   rcases hj3 with rfl|rfl|rfl
   ·exact⟨raw,rfl,hraw⟩
   ·exact⟨w,rfl,hwn⟩
   exact⟨y,rfl,hyn⟩
  refine AM (q_ (Aj (?_)))
  refine BB (fun S=>S=⟨look [(3, .bp 0 0),(6, .bp 2 0),(10, .sl 6 [BK raw,BK w,BK y] none),(11, .v (.int .i64 (j:Int))),(12, .bp 3 0),(13, .v (.bool (EK s z).2))],⟨[BK raw,DN l by1,Al s,BK (EK s z).1],[]⟩⟩) ?_ ?_
  ·skip
   refine BL ([(2,Al s)]) 12 (h:=?_)
   refine AE 0 (h:=?_)
   refine AN 1 (h:=AN 2 (h:=?_))
   refine Bj 3 rfl (fun _ hS=>CQ (n:=j) rfl rfl rfl hz ⟨rfl,rfl⟩) ?_
   refine AE 4 (h:=?_)
   refine Dx 5 9 rfl rfl ?_ ?_
   ·refine AG (Q7 s z hsb) ?_
    rintro r rfl
    refine o_ (h:=?_)
    refine AN 6 (h:=B1 7 (h:=B1 8 (h:=?_)))
    refine c_ 9 rfl (C0 (by repeat constructor) ?_)
    refine o_ (h:=?_)
    refine B0 10 rfl (Ay rfl rfl rfl rfl rfl rfl (by repeat constructor) (by repeat constructor) ?_)
    refine o_ (h:=B3 11 (h:=z_ (h:=?_)))
    refine AF ?_
    exact⟨_,rfl,Au 4 0 rfl rfl rfl rfl ((by repeat (first|exact Sub.nil|refine Sub.cons _ _ _ rfl rfl ?_|refine Sub.any _ _ ?_|refine Sub.sl _ _ _ _ _ rfl ?_|refine Sub.slnil _ _ _ rfl ?_)))⟩
   refine C0 (by repeat constructor) ?_
   refine o_ (h:=?_)
   refine c_ 5 rfl (AG (Q7 s z hsb) ?_)
   rintro r rfl
   refine o_ (h:=AN 6 (h:=B1 7 (h:=B1 8 (h:=?_))))
   refine B0 10 rfl (Ay rfl rfl rfl rfl rfl rfl (by repeat constructor) (by repeat constructor) ?_)
   refine o_ (h:=B3 11 (h:=z_ (h:=?_)))
   refine AF ?_
   exact⟨_,rfl,Au 4 0 rfl rfl rfl rfl ((by repeat (first|exact Sub.nil|refine Sub.cons _ _ _ rfl rfl ?_|refine Sub.any _ _ ?_|refine Sub.sl _ _ _ _ _ rfl ?_|refine Sub.slnil _ _ _ rfl ?_)))⟩
  rintro S rfl
  refine BB (fun S=>S=⟨look [(3, .bp 0 0),(6, .bp 2 0),(10, .sl 6 [BK raw,BK w,BK y] none),(11, .v (.int .i64 (j:Int))),(12, .bp 3 0),(13, .v (.bool (EK s z).2)),(14, .bp 4 0),(15, .v (.bool (EK s z).2))],⟨[BK raw,DN l by1,Al s,BK (EK s z).1,BK (EK s z).1],[]⟩⟩) ?_ ?_
  ·skip
   refine BL ([(2,Al s)]) 12 (h:=?_)
   refine AE 0 (h:=?_)
   refine AN 1 (h:=AN 2 (h:=?_))
   refine Bj 3 rfl (fun _ hS=>CQ (n:=j) rfl rfl rfl hz ⟨rfl,rfl⟩) ?_
   refine AE 4 (h:=?_)
   refine Dx 5 9 rfl rfl ?_ ?_
   ·refine AG (UZ s z hsb) ?_
    rintro r rfl
    refine o_ (h:=?_)
    refine AN 6 (h:=B1 7 (h:=B1 8 (h:=?_)))
    refine c_ 9 rfl (C0 (by repeat constructor) ?_)
    refine o_ (h:=?_)
    refine B0 10 rfl (Ay rfl rfl rfl rfl rfl rfl (by repeat constructor) (by repeat constructor) ?_)
    refine o_ (h:=B3 11 (h:=z_ (h:=?_)))
    refine AF ?_
    exact⟨_,rfl,Au 5 0 rfl rfl rfl rfl ((by repeat (first|exact Sub.nil|refine Sub.cons _ _ _ rfl rfl ?_|refine Sub.any _ _ ?_|refine Sub.sl _ _ _ _ _ rfl ?_|refine Sub.slnil _ _ _ rfl ?_)))⟩
   refine C0 (by repeat constructor) ?_
   refine o_ (h:=?_)
   refine c_ 5 rfl (AG (UZ s z hsb) ?_)
   rintro r rfl
   refine o_ (h:=AN 6 (h:=B1 7 (h:=B1 8 (h:=?_))))
   refine B0 10 rfl (Ay rfl rfl rfl rfl rfl rfl (by repeat constructor) (by repeat constructor) ?_)
   refine o_ (h:=B3 11 (h:=z_ (h:=?_)))
   refine AF ?_
   exact⟨_,rfl,Au 5 0 rfl rfl rfl rfl ((by repeat (first|exact Sub.nil|refine Sub.cons _ _ _ rfl rfl ?_|refine Sub.any _ _ ?_|refine Sub.sl _ _ _ _ _ rfl ?_|refine Sub.slnil _ _ _ rfl ?_)))⟩
  rintro S rfl
  refine q_ (DC 23 (h:=AE 0 (h:=AN 1 (h:=AN 2 (h:=?_)))))
  refine E9 (i:=3) rfl (CQ (n:=j) rfl rfl rfl hz ⟨rfl,rfl⟩) ?_
  refine AE 4 (h:=AE 6 (h:=AN 7 (h:=AN 8 (h:=?_))))
  refine E9 (i:=9) rfl (CQ (n:=j) rfl rfl rfl hz ⟨rfl,rfl⟩) ?_
  refine AE 10 (h:=?_)
  refine c_ 5 rfl (AG (dY s z hsb) ?_)
  rintro r rfl
  refine o_ (h:=?_)
  refine c_ 11 rfl (AG (dW s z hsb (by omega)) ?_)
  rintro r rfl
  refine o_ (h:=Jg 12 (h:=AN 13 (h:=?_)))
  refine FK (j:=13) rfl (fun hb7=>?_) (fun hb7=>?_)
  ·have hc7:=bp hb7
   refine B2 14 (h:=B2 15 (h:=B2 16 (h:=F0 17 (h:=AN 18 (h:=B2 19 (h:=B2 20 (h:=B2 21 (h:=F0 22 (h:=z_ (h:=t_ (Bx (h:=w_ (a_ (h:=e_ (A4 (AX (A7 (A7 (AX (A7 (?_)))))))))))))))))))))
   refine AB ?_
   first|rfl|(exfalso;first|contradiction|omega|(simp_all;done))
  have hc7:=bp hb7
  refine AN 14 (h:=AN 15 (h:=Jg 16 (h:=EC 17 (h:=AN 18 (h:=?_)))))
  refine FK (j:=18) rfl (fun hb8=>?_) (fun hb8=>?_)
  ·have hc8:=bp hb8
   refine B2 19 (h:=B2 20 (h:=B2 21 (h:=F0 22 (h:=z_ (h:=t_ (Bx (h:=w_ (a_ (h:=e_ (A4 (AX (A7 (A7 (AX (A7 (?_))))))))))))))))
   refine AB ?_
   first|rfl|(exfalso;first|contradiction|omega|(simp_all;done))
  have hc8:=bp hb8
  refine AE 19 (h:=AE 20 (h:=?_))
  refine E9 (i:=21) rfl (eR (EK s z).1 rfl rfl ⟨rfl,rfl⟩) ?_
  refine EC 22 (h:=z_ (h:=t_ (?_)))
  refine A8 rfl (fun hb9=>?_) (fun hb9=>?_)
  ·have hc9:=bp hb9
   refine w_ (a_ (h:=e_ (A4 (AX (A7 (A7 (AX (A7 (?_)))))))))
   refine AB ?_
   first|rfl|(exfalso;first|contradiction|omega|(simp_all;done))
  have hc9:=bp hb9
  refine B4 (As (t_ (AQ (m_ (h:=B6 (h:=a_ (h:=AO (?_))))))))
  refine AF ?_
  refine⟨_,_,?_,⟨j+1,?_,rfl,rfl⟩,Au 3 0 rfl rfl rfl rfl ((by repeat (first|exact Sub.nil|refine Sub.cons _ _ _ rfl rfl ?_|refine Sub.any _ _ ?_|refine Sub.sl _ _ _ _ _ rfl ?_|refine Sub.slnil _ _ _ rfl ?_)))⟩<;>(have h3:[BK raw,BK w,BK y].length=3:=rfl;omega)
 have hc6:=bp hb6
 refine BM (Ak (Ak (BN (t_ (w_ (?_))))))
 refine A6 rfl (AG (Uh) ?_)
 rintro r rfl
 refine a_ (h:=e_ (A4 (?_)))
 refine AB ?_
 rfl
end
abbrev eU(r:List AV):Prop:=∃n,r=[.v (.int .i64 n)]∧(Lit.int .i64 n).wf=true
theorem Q9:Opens Tryz.prog 3 eU:=Ss Tryz.underlying3
theorem Ui:Opens Tryz.prog 36 (fun r=>∃x:A9,r=AA x):=
 (Sw (l:=[(0,3,1),(1,3,1)]) (n:=2) (by kernel_rfl) (.cons _ _ _ _ _ _ _ Q9 (.cons _ _ _ _ _ _ _ Q9 (.nil _)))).mono (by
   rintro r ⟨_,_,⟨a,rfl,_⟩,⟨_,_,⟨b,rfl,_⟩,rfl,rfl⟩,rfl⟩
   exact⟨(a,b),rfl⟩)
theorem eV:Opens Tryz.prog 38 (fun r=>∃x:Wch,r=BK x):=
 (Sw (l:=[(0,3,1),(1,36,2),(3,9,1),(4,36,2)]) (n:=6) (by kernel_rfl) (.cons _ _ _ _ _ _ _ Q9 (.cons _ _ _ _ _ _ _ Ui (.cons _ _ _ _ _ _ _ (YL Tryz.underlying9) (.cons _ _ _ _ _ _ _ Ui (.nil _)))))).mono (by
   rintro r ⟨_,_,⟨a,rfl,_⟩,⟨_,_,⟨b,rfl⟩,⟨_,_,⟨s,rfl,_⟩,⟨_,_,⟨c,rfl⟩,rfl,rfl⟩,rfl⟩,rfl⟩,rfl⟩
   exact⟨⟨a,b,s,c⟩,rfl⟩)
theorem WatchCurrent_walk{H:Type}{enc:TypeId×Value→H}{sp:Nat→Bool}{held:Bool}{base:Nat}(a:Option Addr)(n c:Nat)(cs:Array Value)(w:World){d d2:DataW H}{p p2:List MemPlace}(h:DataW.Trod enc Tryz.prog w base sp held 22 (.slice a n c) d p)(h2:DataW.Trod enc Tryz.prog w base sp held 38 (.agg cs) d2 p2):
    Calls Tryz.prog 4 #[.slice a n c, .agg cs] w fun e w'=>e= .returned (.bool true)∧Below w.heap.size w w':=by
 obtain⟨l,k⟩:=YR h
 obtain⟨r2,⟨x,rfl⟩,k2⟩:=eV.agg h2
 refine VQ (vs:=[.slice a n c, .agg cs]) (eT l x) (Fa w) (fun b o h=>h) ?_
 simp only[AP]
 exact⟨_,_,rfl,k,_,_,rfl,Ed (G:=⟨Fa w,[],[]⟩) _ _ k2,rfl⟩
end Go.Proofs.YtbglbmnhgbgelaaGreatDoor
