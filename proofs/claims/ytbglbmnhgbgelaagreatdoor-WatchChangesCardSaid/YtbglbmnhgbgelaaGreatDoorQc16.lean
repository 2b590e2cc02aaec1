/-
  Part 16 of the proof of WatchChangesP: what the statement's proof uses of the texts in wip/tpl.
-/
import Derived.Test.YtbglbmnhgbgelaaGreatDoorQc15
set_option maxRecDepth 10000
set_option maxHeartbeats 4000000
set_option linter.unusedVariables false
set_option linter.unusedSimpArgs false
namespace Go.Proofs.YtbglbmnhgbgelaaGreatDoor
open Go.RowKit
def Bare(s:Spc):Prop:=FlsV s.files∧0<s.files.length∧s.mounts=[]
theorem Bare.v{s:Spc}(h:Bare s):SpcV s:=⟨h.1,h.2.1,fun i m hm=>by rw[h.2.2]at hm;cases hm⟩
theorem Bare.m{s:Spc}(h:Bare s):s.mounts.length≤1000:=by rw[h.2.2];exact Nat.zero_le _
theorem UY{w:Wrk}{R:Dh}(h:Bare w.s.spc)(hR:Hb w.s.spc.files R):Bare (Bk w R).1.s.spc:=by
 unfold Bk
 split
 ·rename_i h0
  obtain⟨k1,k2⟩:=hR h0
  exact⟨k1,by show 0<R.1.length;rw[k2];exact h.2.1,h.2.2⟩
 exact h
theorem UZ:TabB Cz:=⟨Nat.zero_le _,(fun p hp=>by cases hp),by decide,by decide⟩
theorem eD{t:Tab}(ht:TabB t)(pid:Int)(a:A8)(fl:Int):TabB (EJ t pid a fl).1:=by
 unfold EJ
 split
 ·exact UZ
 split
 ·exact UZ
 rename_i h8
 refine⟨by simpa[Fv]using ht.few,fun p hp=>?_,ht.next,ht.nextS⟩
 simp only[Fv,List.mem_map]at hp
 obtain⟨x,hx,rfl⟩:=hp
 split
 ·simp[K4]
  omega
 exact ht.opens x hx
theorem eG{w:Wrk}{R:Tab×Int}(h:TabB w.s.tab)(hR:TabB R.1):TabB (DR w R).1.s.tab:=by
 unfold DR
 split
 ·exact hR
 exact h
theorem Ua(w:Wrk)(R:Dh):(Bk w R).1.s.tab=w.s.tab:=by
 unfold Bk
 split<;>rfl
theorem eH(w:Wrk)(R:Tab×Int):(DR w R).1.s.spc=w.s.spc:=by
 unfold DR
 split<;>rfl
def E8(s:Syst):Prop:=Bare s.spc∧TabB s.tab
theorem Ub{w:Wrk}{i:Nat}{n:Nod}(h:E8 w.s):E8 (Cc w i n).1.s:=by
 unfold Cc
 split
 ·exact⟨UY h.1 (Hc h.1.1 _ _ _),by show TabB (Bk w _).1.s.tab;rw[Ua];exact h.2⟩
 exact h
theorem Uc{w:Wrk}(h:E8 w.s)(a:A8):E8 (Gf w a).1.s:=by
 unfold Gf
 exact⟨by rw[eH];exact h.1,eG h.2 (eD h.2 _ _ _)⟩
theorem eJ{w:Wrk}(h:E8 w.s):E8 (C5 w).1.s:=by
 unfold C5
 repeat' split
 all_goals first|with_reducible exact Ub h|with_reducible exact Uc h _|with_reducible exact Uc (Ub h) _|exact h
theorem eK{w:Wrk}{R:Dh}{x:A8}(h:E8 w.s)(hR:Hb w.s.spc.files R):E8 (GJ w R x).1.s:=by
 have hf:E8 (Bk w R).1.s:=⟨UY h.1 hR,by rw[Ua];exact h.2⟩
 unfold GJ
 repeat' split
 all_goals first|exact h|exact hf
theorem eL{w:Wrk}(h:E8 w.s):E8 (Dp w).1.s:=by
 have hf:FlsV w.s.spc.files:=h.1.1
 unfold Dp
 repeat' split
 all_goals first|with_reducible exact eK h (Hd hf _ _ _ _)|exact h
theorem Q6{s:Syst}{pid:Int}{c:Cal}(h:E8 s)(h6:c.num=6∨c.num=13):E8 (E6 s pid c).1:=by
 have ha:E8 (D0 (Ec s pid c)).1.s:=by
  rcases h6 with h6|h6
  ·rw[D0,if_pos (show(Ec s pid c).c.num=6 from h6)];exact eJ h
  have h13:(Ec s pid c).c.num=13:=h6
  rw[D0,if_neg (show¬(Ec s pid c).c.num=6 by omega),if_neg (show¬(Ec s pid c).c.num=8 by omega),if_neg (show¬((Ec s pid c).c.num=10∨(Ec s pid c).c.num=12) by omega),if_pos h13];exact eL h
 unfold E6
 repeat' split
 all_goals first|exact h|exact ha
theorem NP:E8 (GK 1).1:=by
 have h:=Sf (k:=1) (by decide) (by decide)
 have e:(GK 1).1=⟨⟨(Dz 1).1,[]⟩,Ph (0,1)⟩:=by
  unfold GK
  rw[if_neg (by decide)]
 rw[e]
 exact⟨⟨h.1,h.2,rfl⟩,⟨by decide,by decide,by decide,by decide⟩⟩
def KE(a:UInt8):AB:=⟨#[47,a]⟩
def GO(a:UInt8):Cal:=⟨6,6,420,0,0,[KE a],[]⟩
def NQ:Cal:=⟨13,0,0,0,0,[KE 98,KE 97],[]⟩
def KF:Syst:=(GK 1).1
def JR:Syst:=(E6 KF 1 (GO 97)).1
def Gj:Syst:=(E6 JR 1 (GO 98)).1
def KG:Syst:=(E6 Gj 1 NQ).1
def KH:Res:=(E6 Gj 1 NQ).2
def Gk:Wch:=(FF Gj.spc 1 (KE 97)).1
def Lj:Wch:=(KA KG.spc Gk).1
set_option maxRecDepth 100000 in
theorem eM:(FF Gj.spc 1 (KE 97)).2=0∧Gk.file.2=2∧(KA KG.spc Gk).2=true∧KC Gk KH.gone KH.changes=(Lj,true)∧Lj.file.2=3∧KH.changes.length≤1000∧Gk.name.size≤100∧(GK 1).2=0:=by decide+kernel
theorem NR:E8 JR:=Q6 NP (.inl rfl)
theorem KJ:E8 Gj:=Q6 NR (.inl rfl)
theorem Ud:E8 KG:=Q6 KJ (.inr rfl)
theorem eN(s:Spc)(k:Int)(p:AB):(FF s k p).1.name.size≤12:=by
 unfold FF
 repeat' split
 all_goals first|exact Nat.zero_le 12|exact Py _ _ _ _
def KK(x:Wch):List Value:=[.int .i64 x.kind, .int .i64 x.dir.1, .int .i64 x.dir.2, .string x.name, .int .i64 x.file.1, .int .i64 x.file.2]
set_option maxRecDepth 10000 in
set_option maxHeartbeats 1000000 in
theorem eO(op:BinOp)(x:Wch)(w:World)(h:op= .eql∨op= .neq):(binOp op 38 (.agg (KK x).toArray) (.agg (KK x).toArray)).run Tryz.prog w= .ok (.bool (decide (op= .eql))) w:=by
 have u3:=Tryz.underlying3
 have a3:=Tryz.isAgg3
 have z3:=Tryz.sizeOf3
 have u9:=Tryz.underlying9
 have a9:=Tryz.isAgg9
 have z9:=Tryz.sizeOf9
 have u5:=Tryz.underlying36
 have a5:=Tryz.isAgg36
 have z5:=Tryz.sizeOf36
 have hS:Tryz.prog.underlying 38=some (.struct (Tryz.prog.fieldsOf 38)):=by kernel_rfl
 have hp:Tryz.prog.stoodInHeld 38=false:=by kernel_rfl
 have hSF:Tryz.prog.underlying 36=some (.struct (Tryz.prog.fieldsOf 36)):=by kernel_rfl
 have hpF:Tryz.prog.stoodInHeld 36=false:=by kernel_rfl
 have eF:∀(d:Nat) (a b:Int) (w:World),(Op.equalIn (d+2) 36 (.agg #[.int .i64 a, .int .i64 b]) (.agg #[.int .i64 a, .int .i64 b])).run Tryz.prog w= .ok true w:=by
  intro d a b w
  rw[run_equalIn_agg w (d+1) 36 _ _ hSF hpF]
  simp only[Program.fieldsOf,Tryz.underlying36]
  go_simp
 have e:∀w,(Op.equalIn 10000 38 (.agg (KK x).toArray) (.agg (KK x).toArray)).run Tryz.prog w= .ok true w:=by
  intro w
  rw[show(10000:Nat)=9999+1 from rfl,run_equalIn_agg w 9999 38 _ _ hS hp]
  simp only[Program.fieldsOf,Tryz.underlying38,KK]
  go_simp
 rcases h with rfl|rfl
 ·rw[run_eql_struct,e]
  rfl
 rw[run_neq_struct,e]
 rfl
theorem Ue(x:Wch):AllV (CG x) (KK x):=by repeat constructor
theorem Uf{ev:Operand→Option AV}{h:AH}{R:AV→AH→Prop}{d:Option Tmp}{ty:TypeId}{pos:String}{af:Array Edge}{gd:Option (Nat×Bool)}{yT:TypeId}{x y:Operand}(z:Wch)(hx:ev x=some (.agg (CG z)))(hy:ev y=some (.agg (CG z)))(hR:R (.v (.bool true)) h):AStep Tryz.prog ⟨d, .binOp .eql 38 x y yT,ty,pos,af,gd⟩ ev h R:=
 Ei hx hy (Ue z) (Ue z) (fun w=>eO .eql z w (.inl rfl)) (by kernel_rfl) hR
section
theorem Ug:AFn Tryz.prog 11 [] (fun r=>r= .v (.bool true)):=by
 obtain⟨y1,y2,y3,y4,y5,y6,y7,y8⟩:=eM
 have hnew:AFn Tryz.prog 44 [.v (.int .i64 1)] (fun r=>r= .tup [.agg (D1 KF), .v (.int .i64 0)]):=(cB 1).mono fun r hr=>by rw[hr,NK,y8];rfl
 have hr1:AFn Tryz.prog 35 [.agg (D1 KF), .v (.int .i64 1), .agg (EW (GO 97))] (fun r=>r= .tup [.agg (D1 JR), .agg (D2 (E6 KF 1 (GO 97)).2)]):=Q0 _ _ _ NP.1.v NP.1.m NP.2 (by decide) (by decide) (.inl rfl)
 have hr2:AFn Tryz.prog 35 [.agg (D1 JR), .v (.int .i64 1), .agg (EW (GO 98))] (fun r=>r= .tup [.agg (D1 Gj), .agg (D2 (E6 JR 1 (GO 98)).2)]):=Q0 _ _ _ NR.1.v NR.1.m NR.2 (by decide) (by decide) (.inl rfl)
 have hr3:AFn Tryz.prog 35 [.agg (D1 Gj), .v (.int .i64 1), .agg (EW NQ)] (fun r=>r= .tup [.agg (D1 KG), .agg (D2 KH)]):=Q0 _ _ _ KJ.1.v KJ.1.m KJ.2 (by decide) (by decide) (.inr rfl)
 have hpl:AFn Tryz.prog 17 [.agg (Ap Gj.spc), .v (.int .i64 1), .v (.string (KE 97))] (fun r=>r= .tup [.agg (CG Gk), .v (.int .i64 0)]):=(dW _ _ _ KJ.1.v KJ.1.m (by decide)).mono fun r hr=>by rw[hr,Q2,y1];rfl
 have hfo:AFn Tryz.prog 24 [.agg (Ap KG.spc), .agg (CG Gk)] (fun r=>r= .tup [.agg (CG Lj), .v (.bool true)]):=(dZ _ _ (Ud.1.v.b Ud.1.m)).mono fun r hr=>by rw[hr,Li,y3];rfl
 have hch:AFn Tryz.prog 33 [.agg (CG Gk), .agg (D2 KH)] (fun r=>r= .tup [.agg (CG Lj), .v (.bool true)]):=(UX _ _ y6).mono fun r hr=>by rw[hr,y4];rfl
 obtain⟨W,hW⟩:∃W,W=Gk:=⟨_,rfl⟩
 obtain⟨U,hU⟩:∃U,U=Lj:=⟨_,rfl⟩
 obtain⟨S0,hS0⟩:∃S,S=KF:=⟨_,rfl⟩
 obtain⟨S1,hS1⟩:∃S,S=JR:=⟨_,rfl⟩
 obtain⟨S2,hS2⟩:∃S,S=Gj:=⟨_,rfl⟩
 obtain⟨S3,hS3⟩:∃S,S=KG:=⟨_,rfl⟩
 obtain⟨R1,hR1⟩:∃R,R=(E6 KF 1 (GO 97)).2:=⟨_,rfl⟩
 obtain⟨R2,hR2⟩:∃R,R=(E6 JR 1 (GO 98)).2:=⟨_,rfl⟩
 obtain⟨R3,hR3⟩:∃R,R=KH:=⟨_,rfl⟩
 rw[←hS0]at hnew
 rw[←hR1,←hS1,←hS0]at hr1
 rw[←hR2,←hS2,←hS1]at hr2
 rw[←hR3,←hS3,←hS2]at hr3
 rw[←hW,←hS2]at hpl
 rw[←hU,←hW,←hS3]at hfo
 rw[←hU,←hW,←hR3]at hch
 rw[←hW]at y2
 rw[←hU]at y5
 clear hW hU hS0 hS1 hS2 hS3 hR1 hR2 hR3 y1 y3 y4 y6 y7 y8
 refine enter Tryz.func11 rfl rfl rfl rfl rfl 0 rfl ?_
 refine w_ (a_ (h:=e_ (w_ (?_))))
 refine A4 rfl (AK (hnew) ?_)
 rintro r rfl
 refine m_ (h:=x_ (h:=x_ (h:=AY (h:=s_ (h:=a_ (h:=e_ (w_ (l_ (h:=AU (h:=Bg (h:=?_)))))))))))
 refine A4 rfl (Fk (y:= .agg (EW (GO 97))) (DF ⟨rfl,rfl⟩) ?_)
 refine A4 rfl (AK (hr1) ?_)
 rintro r rfl
 refine m_ (h:=x_ (h:=x_ (h:=s_ (h:=e_ (w_ (l_ (h:=AU (h:=Bg (h:=?_)))))))))
 refine A4 rfl (Fk (y:= .agg (EW (GO 98))) (DF ⟨rfl,rfl⟩) ?_)
 refine A4 rfl (AK (hr2) ?_)
 rintro r rfl
 refine m_ (h:=x_ (h:=x_ (h:=s_ (h:=e_ (w_ (f_ (h:=l_ (h:=?_))))))))
 refine A4 rfl (AK (hpl) ?_)
 rintro r rfl
 refine m_ (h:=x_ (h:=x_ (h:=AY (h:=s_ (h:=a_ (h:=e_ (w_ (l_ (h:=Bg (h:=?_))))))))))
 refine A4 rfl (Fk (y:= .agg (EW NQ)) (DF ⟨rfl,rfl⟩) ?_)
 refine A4 rfl (AK (hr3) ?_)
 rintro r rfl
 refine m_ (h:=x_ (h:=x_ (h:=AY (h:=AY (h:=s_ (h:=s_ (h:=e_ (w_ (f_ (h:=l_ (h:=l_ (h:=?_))))))))))))
 refine A4 rfl (AK (hfo) ?_)
 rintro r rfl
 refine m_ (h:=x_ (h:=x_ (h:=AY (h:=s_ (h:=a_ (h:=e_ (w_ (l_ (h:=l_ (h:=?_))))))))))
 refine A4 rfl (AK (hch) ?_)
 rintro r rfl
 refine m_ (h:=x_ (h:=x_ (h:=AY (h:=s_ (h:=a_ (h:=e_ (w_ (m_ (h:=AW (h:=m_ (h:=?_)))))))))))
 refine Ar true rfl rfl (fun hb1=>?_) (fun hb1=>?_)
 ·have hc1:=bp hb1
  refine f_ (h:=f_ (h:=l_ (h:=AW (h:=AX (h:=m_ (h:=?_))))))
  refine Ar true rfl rfl (fun hb2=>?_) (fun hb2=>?_)
  ·have hc2:=bp hb2
   refine m_ (h:=AX (h:=m_ (h:=?_)))
   refine Ar true rfl rfl (fun hb3=>?_) (fun hb3=>?_)
   ·have hc3:=bp hb3
    refine m_ (h:=AX (h:=m_ (h:=?_)))
    refine Ar true rfl rfl (fun hb4=>?_) (fun hb4=>?_)
    ·have hc4:=bp hb4
     refine l_ (h:=l_ (h:=?_))
     refine B0 (Uf U rfl rfl ?_)
     refine AX (h:=m_ (h:=?_))
     refine Ar true rfl rfl (fun hb5=>?_) (fun hb5=>?_)
     ·have hc5:=bp hb5
      refine f_ (h:=f_ (h:=l_ (h:=AW (h:=AX (h:=a_ (h:=e_ (A6 (?_))))))))
      refine AD ?_
      first|rfl|(exfalso;first|contradiction|omega)|exact vb (by simp[y5])
     have hc5:=bp hb5
     refine A3 (h:=A3 (h:=A3 (h:=A3 (h:=Af (h:=a_ (h:=e_ (A6 (?_))))))))
     refine AD ?_
     first|rfl|(exfalso;first|contradiction|omega)
    have hc4:=bp hb4
    refine A3 (h:=A3 (h:=A3 (h:=Af (h:=m_ (h:=A3 (h:=A3 (h:=A3 (h:=A3 (h:=Af (h:=a_ (h:=e_ (A6 (?_)))))))))))))
    refine AD ?_
    first|rfl|(exfalso;first|contradiction|omega)
   have hc3:=bp hb3
   refine A3 (h:=Af (h:=m_ (h:=A3 (h:=A3 (h:=A3 (h:=Af (h:=m_ (h:=A3 (h:=A3 (h:=A3 (h:=A3 (h:=Af (h:=a_ (h:=e_ (A6 (?_))))))))))))))))
   refine AD ?_
   first|rfl|(exfalso;first|contradiction|omega)
  have hc2:=bp hb2
  refine A3 (h:=Af (h:=m_ (h:=A3 (h:=Af (h:=m_ (h:=A3 (h:=A3 (h:=A3 (h:=Af (h:=m_ (h:=A3 (h:=A3 (h:=A3 (h:=A3 (h:=Af (h:=a_ (h:=e_ (A6 (?_)))))))))))))))))))
  refine AD ?_
  first|rfl|(exfalso;first|contradiction|omega)
 have hc1:=bp hb1
 refine A3 (h:=A3 (h:=A3 (h:=A3 (h:=Af (h:=m_ (h:=A3 (h:=Af (h:=m_ (h:=A3 (h:=Af (h:=m_ (h:=A3 (h:=A3 (h:=A3 (h:=Af (h:=m_ (h:=A3 (h:=A3 (h:=A3 (h:=A3 (h:=Af (h:=a_ (h:=e_ (?_))))))))))))))))))))))))
 refine A6 (?_)
 refine AD ?_
 first|rfl|(exfalso;first|contradiction|omega)
theorem eQ(l:List Int)(a:Nat)(s:Spc)(ha:a≤100000000)(hv:SpcV s)(hm:s.mounts.length≤1000):Ej Tryz.prog 20 l a [.agg (Ap s)] 60 (fun r=>∃(w:Wch) (b:Bool),r=Li (w,b)∧w.name.size≤100∧(b=true→∃k p,FF s k p=(w,0))∧(b=false→w=Ed)):=by
 refine enter Tryz.func20 rfl rfl rfl rfl rfl 1 rfl ?_
 refine w_ (b_ (h:=AY (h:=a_ (h:=e_ (q_ (w_ (a_ (h:=e_ (Al (?_))))))))))
 refine Bd (fun n S=>∃(j b:Nat),j≤6∧n=6 - j∧b≤a+10 * j∧S=⟨look [(0, .bp 0 0),(3, .bp 1 0),(4, .bp 2 0),(6, .v (.int .i64 (j:Int)))],⟨[DD l b,Ap s,E7],[]⟩⟩) (6) ((wk 3 0)) (⟨0,a,by omega,rfl,by omega,rfl⟩) ?_
 rintro n S ⟨j,b0,hj,rfl,hb0,rfl⟩
 refine q_ (w_ (m_ (h:=BH (h:=e_ (?_)))))
 refine A7 rfl (fun hb1=>?_) (fun hb1=>?_)
 ·have hc1:=bp hb1
  refine AM (q_ (Al (w_ (m_ (h:=?_)))))
  refine A4 rfl (B5 0 (hc:=eC l _ (by omega)) (hR:=?_))
  rintro r a1 ha1 ⟨p,rfl,hp⟩
  refine⟨rfl,_,(by repeat constructor),?_⟩
  refine a_ (h:=e_ (?_))
  refine B8 (fun S=>∃(q:AB) (b:Nat),q.size≤60∧b≤a+10 * j+5∧S=⟨look [(0, .bp 0 0),(3, .bp 1 0),(4, .bp 2 0),(6, .v (.int .i64 (j:Int))),(7, .v (.string q))],⟨[DD l b,Ap s,E7],[]⟩⟩) ?_ ?_
  ·skip
   refine w_ (m_ (h:=?_))
   refine A4 rfl (B5 0 (hc:=Gn l _ (8) (by omega) (by omega)) (hR:=?_))
   rintro r a2 ha2 ⟨k2,rfl,p2,q2,o2⟩
   refine⟨rfl,_,(by repeat constructor),?_⟩
   refine AW (h:=e_ (?_))
   refine A7 rfl (fun hb2=>?_) (fun hb2=>?_)
   ·have hc2:=bp hb2
    refine AP (a_ (h:=AO (?_)))
    refine AE ?_
    (have h7:k2=7:=‹k2=7›;exact⟨_,⟨⟨#[47]⟩,_,(by decide),(by omega),rfl⟩,As 3 0 rfl rfl rfl rfl ((by repeat (first|exact Sub.nil|refine Sub.cons _ _ _ rfl rfl ?_|refine Sub.any _ _ ?_|refine Sub.sl _ _ _ _ _ rfl ?_|refine Sub.slnil _ _ _ rfl ?_)))⟩)
   have hc2:=bp hb2
   refine B4 (?_)
   refine AE ?_
   first|(have h7:k2=7:=‹k2=7›;exact⟨_,⟨⟨#[47]⟩,_,(by decide),(by omega),rfl⟩,As 3 0 rfl rfl rfl rfl ((by repeat (first|exact Sub.nil|refine Sub.cons _ _ _ rfl rfl ?_|refine Sub.any _ _ ?_|refine Sub.sl _ _ _ _ _ rfl ?_|refine Sub.slnil _ _ _ rfl ?_)))⟩)|exact⟨_,⟨p,_,hp,(by omega),rfl⟩,As 3 0 rfl rfl rfl rfl ((by repeat (first|exact Sub.nil|refine Sub.cons _ _ _ rfl rfl ?_|refine Sub.any _ _ ?_|refine Sub.sl _ _ _ _ _ rfl ?_|refine Sub.slnil _ _ _ rfl ?_)))⟩
  rintro S ⟨q,b,hq,hb,rfl⟩
  refine B8 (fun S=>∃(k:Int) (b:Nat),b≤a+10 * (j+1)∧S=⟨look [(0, .bp 0 0),(3, .bp 1 0),(4, .bp 2 0),(6, .v (.int .i64 (j:Int))),(8, .bp 3 0),(9, .v (.int .i64 (FF s k q).2))],⟨[DD l b,Ap s,E7,CG (FF s k q).1],[]⟩⟩) ?_ ?_
  ·skip
   refine BM ([(1,Ap s)]) 11 (h:=?_)
   refine AF 0 (h:=?_)
   refine AN 1 (h:=AN 3 (h:=?_))
   refine Dg 2 8 rfl rfl ?_ ?_
   ·refine B5 0 (hc:=GF l _ (1) (2) (by omega) (by omega) (by omega) (by omega)) (hR:=?_)
    rintro r a3 ha3 ⟨k3,rfl,p3,q3⟩
    refine⟨rfl,_,(by repeat constructor),?_⟩
    refine o_ (h:=?_)
    refine Dg 4 8 rfl rfl ?_ ?_
    ·refine AK (Q4 s _ q hv hm (by omega)) ?_
     rintro r rfl
     refine o_ (h:=?_)
     refine AN 5 (h:=B1 6 (h:=B1 7 (h:=?_)))
     refine c_ 8 rfl (Bz (by repeat constructor) ?_)
     refine o_ (h:=?_)
     refine Az 9 rfl (Av rfl rfl rfl rfl rfl rfl (by repeat constructor) (by repeat constructor) ?_)
     refine o_ (h:=B6 10 (h:=z_ (h:=?_)))
     refine AE ?_
     exact⟨_,⟨_,_,(by omega),rfl⟩,As 4 0 rfl rfl rfl rfl ((by repeat (first|exact Sub.nil|refine Sub.cons _ _ _ rfl rfl ?_|refine Sub.any _ _ ?_|refine Sub.sl _ _ _ _ _ rfl ?_|refine Sub.slnil _ _ _ rfl ?_)))⟩
    refine Bz (by repeat constructor) ?_
    refine o_ (h:=?_)
    refine c_ 4 rfl (AK (Q4 s _ q hv hm (by omega)) ?_)
    rintro r rfl
    refine o_ (h:=AN 5 (h:=B1 6 (h:=B1 7 (h:=?_))))
    refine Az 9 rfl (Av rfl rfl rfl rfl rfl rfl (by repeat constructor) (by repeat constructor) ?_)
    refine o_ (h:=B6 10 (h:=z_ (h:=?_)))
    refine AE ?_
    exact⟨_,⟨_,_,(by omega),rfl⟩,As 4 0 rfl rfl rfl rfl ((by repeat (first|exact Sub.nil|refine Sub.cons _ _ _ rfl rfl ?_|refine Sub.any _ _ ?_|refine Sub.sl _ _ _ _ _ rfl ?_|refine Sub.slnil _ _ _ rfl ?_)))⟩
   refine Bz (by repeat constructor) ?_
   refine o_ (h:=?_)
   refine c_ 2 rfl (B5 0 (hc:=GF l _ (1) (2) (by omega) (by omega) (by omega) (by omega)) (hR:=?_))
   rintro r a4 ha4 ⟨k4,rfl,p4,q4⟩
   refine⟨rfl,_,(by repeat constructor),?_⟩
   refine o_ (h:=?_)
   refine c_ 4 rfl (AK (Q4 s _ q hv hm (by omega)) ?_)
   rintro r rfl
   refine o_ (h:=AN 5 (h:=B1 6 (h:=B1 7 (h:=?_))))
   refine Az 9 rfl (Av rfl rfl rfl rfl rfl rfl (by repeat constructor) (by repeat constructor) ?_)
   refine o_ (h:=B6 10 (h:=z_ (h:=?_)))
   refine AE ?_
   exact⟨_,⟨_,_,(by omega),rfl⟩,As 4 0 rfl rfl rfl rfl ((by repeat (first|exact Sub.nil|refine Sub.cons _ _ _ rfl rfl ?_|refine Sub.any _ _ ?_|refine Sub.sl _ _ _ _ _ rfl ?_|refine Sub.slnil _ _ _ rfl ?_)))⟩
  rintro S ⟨kk,b1,hb1,rfl⟩
  refine w_ (m_ (h:=AW (h:=e_ (?_))))
  refine A7 rfl (fun hb3=>?_) (fun hb3=>?_)
  ·have hc3:=bp hb3
   have h0:(FF s kk q).2=0:=hc3
   refine w_ (l_ (h:=s_ (h:=a_ (h:=e_ (A6 (Ag (A9 (A9 (Ag (A9 (?_)))))))))))
   refine Aw none (h5:=(LeA.refl _)) (h6:=⟨_,rfl,rfl,b1,by omega,rfl,(FF s kk q).1,true,rfl,Nat.le_trans (eN s kk q) (by decide),fun _=>⟨kk,q,Prod.ext rfl h0⟩,fun h=>(by cases h)⟩)
  have hc3:=bp hb3
  refine B4 (Ay (t_ (AP (m_ (h:=B2 (h:=a_ (h:=AO (?_))))))))
  refine AE ?_
  refine⟨_,_,?_,⟨j+1,_,by omega,rfl,?_,rfl⟩,As 3 0 rfl rfl rfl rfl ((by repeat (first|exact Sub.nil|refine Sub.cons _ _ _ rfl rfl ?_|refine Sub.any _ _ ?_|refine Sub.sl _ _ _ _ _ rfl ?_|refine Sub.slnil _ _ _ rfl ?_)))⟩<;>omega
 have hc1:=bp hb1
 refine BK (Aj (Aj (BL (t_ (w_ (AU (h:=s_ (h:=a_ (h:=e_ (A6 (?_)))))))))))
 refine Aw none (h5:=(LeA.refl _)) (h6:=⟨_,rfl,rfl,b0,by omega,rfl,Ed,false,rfl,Nat.zero_le _,fun h=>(by cases h),fun _=>rfl⟩)
end
theorem Uh(g:Int)(L:List CR)(k:Option Nat):LeA (.agg [.v (.int .i64 0), .v (.int .i64 0), .v (.int .i64 g), .v (.slice none 0 0), .sl 7 (L.map BG) k]) (.agg (D2 ⟨0,0,g,[],L⟩)):=by
 refine LeA.agg ?_
 repeat (first|exact LeL.nil|refine LeL.cons (LeA.refl _) ?_|refine LeL.cons (LeA.nil _) ?_|refine LeL.cons (LeA.tok _ _ _) ?_)
section
theorem eR(l:List Int)(raw:List CR)(gone:Int):AFn Tryz.prog 6 [.sl 1 (l.map Bx) none, .sl 7 (raw.map BG) none, .v (.int .i64 gone)] (fun r=>r= .v (.bool true)):=by
 have hrl:(raw.map BG).length=raw.length:=List.length_map _
 refine enter Tryz.func6 rfl rfl rfl rfl rfl 0 rfl ?_
 refine w_ (a_ (h:=e_ (q_ (w_ (m_ (h:=n_ (h:=CC (h:=e_ (?_)))))))))
 refine A7 rfl (fun hb1=>?_) (fun hb1=>?_)
 ·have hc1:=bp hb1
  refine w_ (?_)
  refine A4 rfl (AK (Ug) ?_)
  rintro r rfl
  refine a_ (h:=e_ (A6 (A9 (?_))))
  refine AD ?_
  rfl
 have hc1:=bp hb1
 refine AM (w_ (m_ (h:=?_)))
 refine A4 rfl (VP rfl (by repeat (first|exact Args.nil|refine Args.cons _ _ _ _ _ rfl (Kc rfl) ?_|refine Args.cons _ _ _ _ _ rfl (M9 _) ?_|refine Args.cons _ _ _ _ _ rfl (Ka _) ?_|refine Args.cons _ _ _ _ _ rfl (MJ rfl (by repeat (first|exact LeA.refl _|exact LeA.nil _|exact LeL.refl _|refine LeA.agg ?_|refine LeA.tup ?_|exact LeL.nil|refine LeL.cons ?_ ?_|exact LeA.any _))) ?_)) rfl (Xo l) (by repeat constructor) ?_)
 skip
 refine a_ (h:=e_ (w_ (m_ (h:=?_))))
 refine A4 rfl (B5 0 (hc:=YF l _ (by omega)) (hR:=?_))
 rintro r a1 ha1 ⟨s,rfl,hv,hm⟩
 refine⟨rfl,_,(by repeat constructor),?_⟩
 have hmm:s.mounts.length≤1000:=by omega
 have hsb:=hv.b hmm
 refine AY (h:=s_ (h:=e_ (w_ (m_ (h:=l_ (h:=?_))))))
 refine A4 rfl (B5 0 (hc:=eQ l _ s (by omega) hv hmm) (hR:=?_))
 rintro r a2 ha2 ⟨w,wb,rfl,hwn,hw1,hw2⟩
 refine⟨rfl,_,(by repeat constructor),?_⟩
 refine m_ (h:=x_ (h:=x_ (h:=AY (h:=s_ (h:=a_ (h:=e_ (?_)))))))
 refine B8 (fun S=>∃(g:Int) (b:Nat),b≤3000∧S=⟨look [(7, .bp 0 0),(8, .bp 1 0),(9, .bp 2 0),(11, .bp 3 0)],⟨[DD l b,Ap s,CG w,[.v (.int .i64 0), .v (.int .i64 0), .v (.int .i64 g), .v (.slice none 0 0), .sl 7 (raw.map BG) (some 0)]],[(79,7,raw.map BG)]⟩⟩) ?_ ?_
 ·skip
  refine AP (m_ (h:=m_ (h:=Bg (h:=?_))))
  refine A4 rfl (B5 0 (hc:=Hg l _ _ (fun _=>true) (by omega) (by rfl) (by rfl) (by rfl)) (hR:=?_))
  rintro r a3 ha3 ⟨k3,rfl,p3⟩
  refine⟨rfl,_,(by repeat constructor),?_⟩
  refine m_ (h:=Fi (h:=AU (h:=AY (h:=s_ (h:=AO (?_))))))
  refine AE ?_
  exact⟨_,⟨_,_,(by omega),rfl⟩,As 4 1 rfl rfl rfl rfl ((by repeat (first|exact Sub.nil|refine Sub.cons _ _ _ rfl rfl ?_|refine Sub.any _ _ ?_|refine Sub.sl _ _ _ _ _ rfl ?_|refine Sub.slnil _ _ _ rfl ?_)))⟩
 rintro S ⟨g,b6,hb6,rfl⟩
 refine q_ (w_ (m_ (h:=?_)))
 refine A4 rfl (B5 0 (hc:=Gn l _ (4) (by omega) (by omega)) (hR:=?_))
 rintro r a4 ha4 ⟨k4,rfl,p4,q4,o4⟩
 refine⟨rfl,_,(by repeat constructor),?_⟩
 obtain⟨m4,rfl⟩:=Int.eq_ofNat_of_zero_le p4
 refine a_ (h:=e_ (Al (?_)))
 refine Bd (fun n S=>∃(j b:Nat) (L:List CR),j≤4∧n=j∧b≤3020+100 * (4 - j)∧L.length≤20 - j∧S=⟨look [(7, .bp 0 0),(8, .bp 1 0),(9, .bp 2 0),(11, .bp 3 0),(12, .v (.int .i64 (j:Int)))],⟨[DD l b,Ap s,CG w,[.v (.int .i64 0), .v (.int .i64 0), .v (.int .i64 g), .v (.slice none 0 0), .sl 7 (L.map BG) (some 0)]],[(79,7,L.map BG)]⟩⟩) (m4) ((wk 4 1)) (⟨m4,_,raw,by omega,rfl,by omega,by omega,rfl⟩) ?_
 rintro n S ⟨j,b0,L,hj,hn,hb0,hL,rfl⟩
 subst n
 refine q_ (w_ (m_ (h:=CC (h:=e_ (?_)))))
 refine A7 rfl (fun hb2=>?_) (fun hb2=>?_)
 ·have hc2:=bp hb2
  refine AM (q_ (Al (?_)))
  refine B8 (fun S=>∃(c:CR) (b:Nat),b≤3100+100 * (4 - j)∧S=⟨look [(7, .bp 0 0),(8, .bp 1 0),(9, .bp 2 0),(11, .bp 3 0),(12, .v (.int .i64 (j:Int))),(13, .bp 4 0)],⟨[DD l b,Ap s,CG w,[.v (.int .i64 0), .v (.int .i64 0), .v (.int .i64 g), .v (.slice none 0 0), .sl 7 (L.map BG) (some 0)],BG c],[(79,7,L.map BG)]⟩⟩) ?_ ?_
  ·skip
   refine BM ([(1,Ap s)]) 17 (h:=AN 0 (h:=AJ 1 (h:=AF 2 (h:=AN 4 (h:=AN 6 (h:=AJ 7 (h:=AF 8 (h:=AN 10 (h:=AJ 11 (h:=AF 12 (h:=?_)))))))))))
   refine Dg 3 15 rfl rfl ?_ ?_
   ·refine B5 0 (hc:=EH l _ s.files (by omega) hv.files.b hv.files.ne) (hR:=?_)
    rintro r a5 ha5 ⟨x5,rfl⟩
    refine⟨rfl,_,(by repeat constructor),?_⟩
    refine o_ (h:=?_)
    refine Dg 5 15 rfl rfl ?_ ?_
    ·refine B5 0 (hc:=JH l _ (by omega)) (hR:=?_)
     rintro r a6 ha6 ⟨nm6,rfl,hnm6⟩
     refine⟨rfl,_,(by repeat constructor),?_⟩
     refine o_ (h:=?_)
     refine Dg 9 15 rfl rfl ?_ ?_
     ·refine B5 0 (hc:=EH l _ s.files (by omega) hv.files.b hv.files.ne) (hR:=?_)
      rintro r a7 ha7 ⟨x7,rfl⟩
      refine⟨rfl,_,(by repeat constructor),?_⟩
      refine o_ (h:=?_)
      refine Dg 13 15 rfl rfl ?_ ?_
      ·refine B5 0 (hc:=EH l _ s.files (by omega) hv.files.b hv.files.ne) (hR:=?_)
       rintro r a8 ha8 ⟨x8,rfl⟩
       refine⟨rfl,_,(by repeat constructor),?_⟩
       refine o_ (h:=?_)
       refine EP 14 (h:=?_)
       refine c_ 15 rfl (Bz (by repeat constructor) ?_)
       refine o_ (h:=?_)
       refine Az 16 rfl (Av rfl rfl rfl rfl rfl rfl (by repeat constructor) (by repeat constructor) ?_)
       refine o_ (h:=z_ (h:=?_))
       refine AE ?_
       exact⟨_,⟨(_,_,_,_),_,(by omega),rfl⟩,As 5 1 rfl rfl rfl rfl ((by repeat (first|exact Sub.nil|refine Sub.cons _ _ _ rfl rfl ?_|refine Sub.any _ _ ?_|refine Sub.sl _ _ _ _ _ rfl ?_|refine Sub.slnil _ _ _ rfl ?_)))⟩
      refine Bz (by repeat constructor) ?_
      refine o_ (h:=?_)
      refine c_ 13 rfl (B5 0 (hc:=EH l _ s.files (by omega) hv.files.b hv.files.ne) (hR:=?_))
      rintro r a9 ha9 ⟨x9,rfl⟩
      refine⟨rfl,_,(by repeat constructor),?_⟩
      refine o_ (h:=EP 14 (h:=?_))
      refine Az 16 rfl (Av rfl rfl rfl rfl rfl rfl (by repeat constructor) (by repeat constructor) ?_)
      refine o_ (h:=z_ (h:=?_))
      refine AE ?_
      exact⟨_,⟨(_,_,_,_),_,(by omega),rfl⟩,As 5 1 rfl rfl rfl rfl ((by repeat (first|exact Sub.nil|refine Sub.cons _ _ _ rfl rfl ?_|refine Sub.any _ _ ?_|refine Sub.sl _ _ _ _ _ rfl ?_|refine Sub.slnil _ _ _ rfl ?_)))⟩
     refine Bz (by repeat constructor) ?_
     refine o_ (h:=?_)
     refine c_ 9 rfl (B5 0 (hc:=EH l _ s.files (by omega) hv.files.b hv.files.ne) (hR:=?_))
     rintro r a10 ha10 ⟨x10,rfl⟩
     refine⟨rfl,_,(by repeat constructor),?_⟩
     refine o_ (h:=?_)
     refine c_ 13 rfl (B5 0 (hc:=EH l _ s.files (by omega) hv.files.b hv.files.ne) (hR:=?_))
     rintro r a11 ha11 ⟨x11,rfl⟩
     refine⟨rfl,_,(by repeat constructor),?_⟩
     refine o_ (h:=EP 14 (h:=?_))
     refine Az 16 rfl (Av rfl rfl rfl rfl rfl rfl (by repeat constructor) (by repeat constructor) ?_)
     refine o_ (h:=z_ (h:=?_))
     refine AE ?_
     exact⟨_,⟨(_,_,_,_),_,(by omega),rfl⟩,As 5 1 rfl rfl rfl rfl ((by repeat (first|exact Sub.nil|refine Sub.cons _ _ _ rfl rfl ?_|refine Sub.any _ _ ?_|refine Sub.sl _ _ _ _ _ rfl ?_|refine Sub.slnil _ _ _ rfl ?_)))⟩
    refine Bz (by repeat constructor) ?_
    refine o_ (h:=?_)
    refine c_ 5 rfl (B5 0 (hc:=JH l _ (by omega)) (hR:=?_))
    rintro r a12 ha12 ⟨nm12,rfl,hnm12⟩
    refine⟨rfl,_,(by repeat constructor),?_⟩
    refine o_ (h:=?_)
    refine c_ 9 rfl (B5 0 (hc:=EH l _ s.files (by omega) hv.files.b hv.files.ne) (hR:=?_))
    rintro r a13 ha13 ⟨x13,rfl⟩
    refine⟨rfl,_,(by repeat constructor),?_⟩
    refine o_ (h:=?_)
    refine c_ 13 rfl (B5 0 (hc:=EH l _ s.files (by omega) hv.files.b hv.files.ne) (hR:=?_))
    rintro r a14 ha14 ⟨x14,rfl⟩
    refine⟨rfl,_,(by repeat constructor),?_⟩
    refine o_ (h:=EP 14 (h:=?_))
    refine Az 16 rfl (Av rfl rfl rfl rfl rfl rfl (by repeat constructor) (by repeat constructor) ?_)
    refine o_ (h:=z_ (h:=?_))
    refine AE ?_
    exact⟨_,⟨(_,_,_,_),_,(by omega),rfl⟩,As 5 1 rfl rfl rfl rfl ((by repeat (first|exact Sub.nil|refine Sub.cons _ _ _ rfl rfl ?_|refine Sub.any _ _ ?_|refine Sub.sl _ _ _ _ _ rfl ?_|refine Sub.slnil _ _ _ rfl ?_)))⟩
   refine Bz (by repeat constructor) ?_
   refine o_ (h:=?_)
   refine c_ 3 rfl (B5 0 (hc:=EH l _ s.files (by omega) hv.files.b hv.files.ne) (hR:=?_))
   rintro r a15 ha15 ⟨x15,rfl⟩
   refine⟨rfl,_,(by repeat constructor),?_⟩
   refine o_ (h:=?_)
   refine c_ 5 rfl (B5 0 (hc:=JH l _ (by omega)) (hR:=?_))
   rintro r a16 ha16 ⟨nm16,rfl,hnm16⟩
   refine⟨rfl,_,(by repeat constructor),?_⟩
   refine o_ (h:=?_)
   refine c_ 9 rfl (B5 0 (hc:=EH l _ s.files (by omega) hv.files.b hv.files.ne) (hR:=?_))
   rintro r a17 ha17 ⟨x17,rfl⟩
   refine⟨rfl,_,(by repeat constructor),?_⟩
   refine o_ (h:=?_)
   refine c_ 13 rfl (B5 0 (hc:=EH l _ s.files (by omega) hv.files.b hv.files.ne) (hR:=?_))
   rintro r a18 ha18 ⟨x18,rfl⟩
   refine⟨rfl,_,(by repeat constructor),?_⟩
   refine o_ (h:=EP 14 (h:=?_))
   refine Az 16 rfl (Av rfl rfl rfl rfl rfl rfl (by repeat constructor) (by repeat constructor) ?_)
   refine o_ (h:=z_ (h:=?_))
   refine AE ?_
   exact⟨_,⟨(_,_,_,_),_,(by omega),rfl⟩,As 5 1 rfl rfl rfl rfl ((by repeat (first|exact Sub.nil|refine Sub.cons _ _ _ rfl rfl ?_|refine Sub.any _ _ ?_|refine Sub.sl _ _ _ _ _ rfl ?_|refine Sub.slnil _ _ _ rfl ?_)))⟩
  rintro S ⟨c,b10,hb10,rfl⟩
  refine B8 (fun S=>∃(c:CR) (b:Nat),b≤3110+100 * (4 - j)∧S=⟨look [(7, .bp 0 0),(8, .bp 1 0),(9, .bp 2 0),(11, .bp 3 0),(12, .v (.int .i64 (j:Int))),(13, .bp 4 0)],⟨[DD l b,Ap s,CG w,[.v (.int .i64 0), .v (.int .i64 0), .v (.int .i64 g), .v (.slice none 0 0), .sl 7 (L.map BG) (some 0)],BG c],[(79,7,L.map BG)]⟩⟩) ?_ ?_
  ·skip
   refine w_ (m_ (h:=?_))
   refine A4 rfl (B5 0 (hc:=Gn l _ (3) (by omega) (by omega)) (hR:=?_))
   rintro r a19 ha19 ⟨k19,rfl,p19,q19,o19⟩
   refine⟨rfl,_,(by repeat constructor),?_⟩
   refine AW (h:=e_ (?_))
   refine A7 rfl (fun hb3=>?_) (fun hb3=>?_)
   ·have hc3:=bp hb3
    refine BM ([(1,Ap s),(2,CG w)]) 8 (h:=AJ 0 (h:=AF 1 (h:=AJ 2 (h:=AF 3 (h:=AJ 4 (h:=?_))))))
    refine Az 5 rfl (Av rfl rfl rfl rfl rfl rfl (by repeat constructor) (by repeat constructor) ?_)
    refine o_ (h:=AJ 6 (h:=?_))
    refine Az 7 rfl (Av rfl rfl rfl rfl rfl rfl (by repeat constructor) (by repeat constructor) ?_)
    refine o_ (h:=z_ (h:=?_))
    refine AE ?_
    first|exact⟨_,⟨c,_,(by omega),rfl⟩,As 5 1 rfl rfl rfl rfl ((by repeat (first|exact Sub.nil|refine Sub.cons _ _ _ rfl rfl ?_|refine Sub.any _ _ ?_|refine Sub.sl _ _ _ _ _ rfl ?_|refine Sub.slnil _ _ _ rfl ?_)))⟩|exact⟨_,⟨(w.dir,w.name,c.2.2.1,c.2.2.2),_,(by omega),rfl⟩,As 5 1 rfl rfl rfl rfl ((by repeat (first|exact Sub.nil|refine Sub.cons _ _ _ rfl rfl ?_|refine Sub.any _ _ ?_|refine Sub.sl _ _ _ _ _ rfl ?_|refine Sub.slnil _ _ _ rfl ?_)))⟩
   have hc3:=bp hb3
   refine B4 (?_)
   refine AE ?_
   exact⟨_,⟨c,_,(by omega),rfl⟩,As 5 1 rfl rfl rfl rfl ((by repeat (first|exact Sub.nil|refine Sub.cons _ _ _ rfl rfl ?_|refine Sub.any _ _ ?_|refine Sub.sl _ _ _ _ _ rfl ?_|refine Sub.slnil _ _ _ rfl ?_)))⟩
  rintro S ⟨c,b11,hb11,rfl⟩
  refine B8 (fun S=>∃(c:CR) (b:Nat),b≤3120+100 * (4 - j)∧S=⟨look [(7, .bp 0 0),(8, .bp 1 0),(9, .bp 2 0),(11, .bp 3 0),(12, .v (.int .i64 (j:Int))),(13, .bp 4 0)],⟨[DD l b,Ap s,CG w,[.v (.int .i64 0), .v (.int .i64 0), .v (.int .i64 g), .v (.slice none 0 0), .sl 7 (L.map BG) (some 0)],BG c],[(79,7,L.map BG)]⟩⟩) ?_ ?_
  ·skip
   refine w_ (m_ (h:=?_))
   refine A4 rfl (B5 0 (hc:=Gn l _ (4) (by omega) (by omega)) (hR:=?_))
   rintro r a20 ha20 ⟨k20,rfl,p20,q20,o20⟩
   refine⟨rfl,_,(by repeat constructor),?_⟩
   refine AW (h:=e_ (?_))
   refine A7 rfl (fun hb4=>?_) (fun hb4=>?_)
   ·have hc4:=bp hb4
    refine AP (f_ (h:=l_ (h:=f_ (h:=s_ (h:=AO (?_))))))
    refine AE ?_
    first|exact⟨_,⟨c,_,(by omega),rfl⟩,As 5 1 rfl rfl rfl rfl ((by repeat (first|exact Sub.nil|refine Sub.cons _ _ _ rfl rfl ?_|refine Sub.any _ _ ?_|refine Sub.sl _ _ _ _ _ rfl ?_|refine Sub.slnil _ _ _ rfl ?_)))⟩|exact⟨_,⟨(c.1,c.2.1,w.dir,c.2.2.2),_,(by omega),rfl⟩,As 5 1 rfl rfl rfl rfl ((by repeat (first|exact Sub.nil|refine Sub.cons _ _ _ rfl rfl ?_|refine Sub.any _ _ ?_|refine Sub.sl _ _ _ _ _ rfl ?_|refine Sub.slnil _ _ _ rfl ?_)))⟩
   have hc4:=bp hb4
   refine B4 (?_)
   refine AE ?_
   exact⟨_,⟨c,_,(by omega),rfl⟩,As 5 1 rfl rfl rfl rfl ((by repeat (first|exact Sub.nil|refine Sub.cons _ _ _ rfl rfl ?_|refine Sub.any _ _ ?_|refine Sub.sl _ _ _ _ _ rfl ?_|refine Sub.slnil _ _ _ rfl ?_)))⟩
  rintro S ⟨c,b13,hb13,rfl⟩
  refine AP (f_ (h:=l_ (h:=l_ (h:=Bg (h:=Fi (h:=f_ (h:=s_ (h:=AO (Ay (t_ (AP (m_ (h:=MU (h:=a_ (h:=AO (?_))))))))))))))))
  refine AE ?_
  obtain⟨j,rfl⟩:∃i,j=i+1:=⟨j - 1,by omega⟩
  refine⟨_,_,?_,⟨j,_,L++[c],by omega,rfl,?_,?_,rfl⟩,(by rw[List.map_append];exact As 4 1 rfl rfl rfl rfl (by repeat (first|exact Sub.nil|refine Sub.cons _ _ _ rfl rfl ?_|(apply Sub.of;(focus exact rfl);(focus exact LeA.of_eq (vi (by omega)));(focus exact rfl)))))⟩
  ·omega
  ·omega
  simp;omega
 have hc2:=bp hb2
 refine BK (Aj (Aj (BL (t_ (w_ (l_ (h:=?_)))))))
 refine A4 rfl (EN (y:= .agg (D2 ⟨0,0,g,[],L⟩)) (G4 rfl rfl rfl ⟨rfl,rfl⟩) (Uh _ _ _) ?_)
 refine A4 rfl (AK (UX w ⟨0,0,g,[],L⟩ (by show L.length≤1000;omega)) ?_)
 rintro r rfl
 refine m_ (h:=x_ (h:=x_ (h:=AY (h:=s_ (h:=a_ (h:=e_ (w_ (l_ (h:=?_)))))))))
 refine A4 rfl (EN (y:= .agg (D2 ⟨0,0,g,[],L⟩)) (G4 rfl rfl rfl ⟨rfl,rfl⟩) (Uh _ _ _) ?_)
 refine A4 rfl (AK (eB w ⟨0,0,g,[],L⟩ (by show L.length≤1000;omega)) ?_)
 rintro r rfl
 refine m_ (h:=x_ (h:=x_ (h:=AY (h:=s_ (h:=a_ (h:=e_ (w_ (m_ (h:=m_ (h:=AW (h:=m_ (h:=?_))))))))))))
 refine Ar true rfl rfl (fun hb5=>?_) (fun hb5=>?_)
 ·have hc5:=bp hb5
  refine l_ (h:=l_ (h:=?_))
  refine B0 (Uf (KC w g L).1 rfl rfl ?_)
  refine AX (h:=m_ (h:=?_))
  refine Ar true rfl rfl (fun hb6=>?_) (fun hb6=>?_)
  ·have hc6:=bp hb6
   refine B0 (AK (Ug) ?_)
   rintro r rfl
   refine AX (h:=a_ (h:=e_ (A6 (?_))))
   refine AD ?_
   rfl
  have hc6:=bp hb6
  refine A3 (h:=Af (h:=a_ (h:=e_ (A6 (?_)))))
  refine AD ?_
  first|rfl|(exfalso;first|contradiction|omega|(simp_all;done))
 have hc5:=bp hb5
 refine A3 (h:=A3 (h:=A3 (h:=Af (h:=m_ (h:=A3 (h:=Af (h:=a_ (h:=e_ (A6 (?_))))))))))
 refine AD ?_
 first|rfl|(exfalso;first|contradiction|omega|(simp_all;done))
end
abbrev eS(r:List AV):Prop:=∃n,r=[.v (.int .i64 n)]∧(Lit.int .i64 n).wf=true
theorem Ui:Opens Tryz.prog 3 eS:=Sq Tryz.underlying3
theorem Q7:Opens Tryz.prog 36 (fun r=>∃x:A8,r=AA x):=
 (Su (l:=[(0,3,1),(1,3,1)]) (n:=2) (by kernel_rfl) (.cons _ _ _ _ _ _ _ Ui (.cons _ _ _ _ _ _ _ Ui (.nil _)))).mono (by
   rintro r ⟨_,_,⟨a,rfl,_⟩,⟨_,_,⟨b,rfl,_⟩,rfl,rfl⟩,rfl⟩
   exact⟨(a,b),rfl⟩)
theorem eT:Opens Tryz.prog 79 (fun r=>∃x:CR,r=BG x):=
 (Su (l:=[(0,36,2),(2,9,1),(3,36,2),(5,36,2)]) (n:=7) (by kernel_rfl) (.cons _ _ _ _ _ _ _ Q7 (.cons _ _ _ _ _ _ _ (YL Tryz.underlying9) (.cons _ _ _ _ _ _ _ Q7 (.cons _ _ _ _ _ _ _ Q7 (.nil _)))))).mono (by
   rintro r ⟨_,_,⟨a,rfl⟩,⟨_,_,⟨s,rfl,_⟩,⟨_,_,⟨b,rfl⟩,⟨_,_,⟨c,rfl⟩,rfl,rfl⟩,rfl⟩,rfl⟩,rfl⟩
   exact⟨(a,s,b,c),rfl⟩)
theorem eU:Opens Tryz.prog 69 (fun r=>∃l:List CR,r=[.sl 7 (l.map BG) none]):=
 (Sv (n:=7) Tryz.underlying69 (by kernel_rfl) (by omega) eT).mono (by
   rintro r ⟨rows,rfl,_,hr⟩
   obtain⟨l,rfl,_⟩:=PS (enc:=BG) (Q:=fun _=>True) (fun x hx=>by obtain⟨t,rfl⟩:=hr x hx;exact⟨t,rfl,trivial⟩)
   exact⟨l,rfl⟩)
theorem WatchChanges_walk{H:Type}{enc:TypeId×Value→H}{sp:Nat→Bool}{held:Bool}{base:Nat}(a:Option Addr)(n c:Nat)(a2:Option Addr)(n2 c2:Nat)(k:Int)(w:World){d d2:DataW H}{p p2:List MemPlace}(h:DataW.Trod enc Tryz.prog w base sp held 22 (.slice a n c) d p)(h2:DataW.Trod enc Tryz.prog w base sp held 69 (.slice a2 n2 c2) d2 p2)(_: -9223372036854775808≤k)(_:k≤9223372036854775807):
    Calls Tryz.prog 6 #[.slice a n c, .slice a2 n2 c2, .int .i64 k] w fun e w'=>e= .returned (.bool true)∧Below w.heap.size w w':=by
 obtain⟨l,q⟩:=YQ h
 obtain⟨r2,⟨raw,rfl⟩,k2⟩:=eU.one rfl h2
 simp only[B7]at k2
 obtain⟨_,_,e2,k2,rfl⟩:=k2
 injection e2 with e2
 subst e2
 refine VQ (vs:=[.slice a n c, .slice a2 n2 c2, .int .i64 k]) (eR l raw k) (Fs w) (fun b o h=>h) ?_
 simp only[AQ]
 exact⟨_,_,rfl,q,_,_,rfl,Eg (G:=⟨Fs w,[],[]⟩) _ _ k2,_,_,rfl,by simp only[rep],rfl⟩
end Go.Proofs.YtbglbmnhgbgelaaGreatDoor
