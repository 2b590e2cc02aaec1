/-
  Part 17 of the proof of WatchTreesP: what the statement's proof uses of the texts in wip/tpl.
-/
import Derived.Test.YtbglbmnhgbgelaaGreatDoorQg16
set_option maxRecDepth 10000
set_option maxHeartbeats 4000000
set_option linter.unusedVariables false
set_option linter.unusedSimpArgs false
namespace Go.Proofs.YtbglbmnhgbgelaaGreatDoor
open Go.RowKit
theorem gX(w:Wrk):(EM w).1.r.items.length=w.r.items.length:=by
 unfold EM
 repeat' split
 all_goals first|rfl|exact(RS _ _ _).trans (LU _ _)
theorem gY(w:Wrk)(R:DP):(G8 w R).1.r.items.length=w.r.items.length:=by
 unfold G8
 split
 ·rfl
 exact(Vw _ _ _).trans (LU _ _)
theorem gZ(w:Wrk):(De w).1.r.items.length=w.r.items.length:=by
 unfold De
 repeat' split
 all_goals first|rfl|exact gY _ _
theorem hG(w:Wrk):(EX w).1.r.items.length=w.r.items.length:=by
 unfold EX Hk
 repeat' split
 all_goals first|rfl|exact LU _ _
theorem hH(w:Wrk)(R:Spc×Int):(Hl w R).1.r.items.length=w.r.items.length:=by
 unfold Hl
 split<;>rfl
theorem hZ(w:Wrk):(D9 w).1.r.items.length=w.r.items.length:=by
 unfold D9
 repeat' split
 all_goals first|rfl|exact Oe _ _|exact hH _ _
theorem i4(w:Wrk):(EY w).1.r.items.length=w.r.items.length:=by
 unfold EY
 repeat' split
 all_goals first|rfl|exact RT _ _ _
theorem i5(w:Wrk)(R:Spc×Int):(Hm w R).1.r.items.length=w.r.items.length:=by
 unfold Hm
 split<;>rfl
theorem i6(w:Wrk):(Et w).1.r.items.length=w.r.items.length:=by
 unfold Et
 repeat' split
 all_goals first|rfl|exact i5 _ _
theorem i7(w:Wrk):(Dt w).1.r.items.length=w.r.items.length:=by
 unfold Dt
 repeat' split
 all_goals first|rfl|exact i6 _|exact Oe _ _|exact Oe (LP w _) _
theorem WG(w:Wrk):(B9 w).1.r.items.length=w.r.items.length:=by
 unfold B9
 repeat' split
 all_goals first|exact Vy _|exact gX _|exact gZ _|exact Vz _|exact hG _|exact hZ _|exact i4 _|exact i7 _
theorem WH{n:Int}(h:0<(Bi n).2.2.1):(n=1∨n=6∨n=8∨n=9∨n=10∨n=11∨n=12∨n=13∨n=14∨n=15∨n=16∨n=17∨n=21)∧((n=8∨n=13)→(Bi n).2.2.1=2)∧(¬(n=8∨n=13)→(Bi n).2.2.1=1):=by
 unfold Bi at h ⊢
 split at h
 ·exact absurd h (by decide)
 rename_i c
 rw[if_neg c]
 obtain⟨m,rfl⟩:=Int.eq_ofNat_of_zero_le (show 0≤n by omega)
 have hm:m<22:=by omega
 have k1:∀m,m<22→0<((E7[m]?).getD (⟨#[]⟩,0,0,0,0)).2.2.1→m∈[1,6,8,9,10,11,12,13,14,15,16,17,21]:=by decide
 have k2:∀m,m<22→m∈[8,13]→((E7[m]?).getD (⟨#[]⟩,0,0,0,0)).2.2.1=2:=by decide
 have k3:∀m,m<22→0<((E7[m]?).getD (⟨#[]⟩,0,0,0,0)).2.2.1→m∉[8,13]→((E7[m]?).getD (⟨#[]⟩,0,0,0,0)).2.2.1=1:=by decide
 have k1:=k1 m hm h
 have k2:=k2 m hm
 have k3:=k3 m hm h
 simp only[List.mem_cons,List.not_mem_nil,or_false]at k1 k2 k3
 exact⟨by omega,fun q=>k2 (by omega),fun q=>k3 (by omega)⟩
theorem WJ{n:Int}(h:(Bi n).2.2.1=0):n≠1∧n≠6∧n≠8∧n≠9∧n≠10∧n≠11∧n≠12∧n≠13∧n≠14∧n≠15∧n≠16∧n≠17∧n≠21:=by
 refine⟨?_,?_,?_,?_,?_,?_,?_,?_,?_,?_,?_,?_,?_⟩<;>(rintro rfl;revert h;decide)
theorem i8(n:Int):0<(Bi n).2.2.1∨(Bi n).2.2.1=0:=by
 unfold Bi
 split
 ·exact .inr rfl
 rename_i c
 obtain⟨m,rfl⟩:=Int.eq_ofNat_of_zero_le (show 0≤n by omega)
 have hm:m<22:=by omega
 have key:∀m,m<22→0<((E7[m]?).getD (⟨#[]⟩,0,0,0,0)).2.2.1∨((E7[m]?).getD (⟨#[]⟩,0,0,0,0)).2.2.1=0:=by decide
 exact key m hm
theorem i9{c:Cal}(h:0<(Bi c.num).2.2.1):((CB c).length:Int)=(Bi c.num).2.2.1:=by
 obtain⟨k1,k2,k3⟩:=WH h
 by_cases c2:c.num=8∨c.num=13
 ·rw[k2 c2]
  rcases c2 with q|q<;>simp[CB,q]
 rw[k3 c2]
 rcases k1 with q|q|q|q|q|q|q|q|q|q|q|q|q<;>first|(exfalso;omega)|simp[CB,q]
theorem iA{c0 c1 c2 c3 c4 c5:List AV}(w:Wrk):Back [c0,c1,c2,c3,c4,c5] [5] [WN w] [c0,c1,c2,c3,c4,WN w]:=by
 have:=My (bx:=[c0,c1,c2,c3,c4,c5]) (is:=[5]) (bc:=[WN w]) (by simp) (by simp) (by simp)
 have hb:DA [c0,c1,c2,c3,c4,c5] (DZ [5] [c0,c1,c2,c3,c4,c5].length) [5] [WN w]=[c0,c1,c2,c3,c4,WN w]:=by
  unfold DA
  unfold DA
  rfl
 rw[hb]at this
 exact this
section
theorem iB(w:Wrk)(cap:Nat)(hv:SpcV w.s.spc)(hm:w.s.spc.mounts.length≤1000)(htb:TabB w.s.tab)(hnm:∀f∈w.found,f.name.size≤12)(h1:1≤w.found.length)(h1i:1≤w.r.items.length)(h2:w.c.num=8∨w.c.num=13→2≤w.found.length∧2≤w.r.items.length)(hin:w.c.num=1∨w.c.num=6∨w.c.num=8∨w.c.num=9∨w.c.num=10∨w.c.num=11∨w.c.num=12∨w.c.num=13∨w.c.num=14∨w.c.num=15∨w.c.num=16∨w.c.num=17∨w.c.num=21)(h9:w.c.num=9→0<w.c.args.length)(hsz:∀p∈w.c.args,p.size≤1000):ACall Tryz.prog 68 [.bp 0 0] [WA w cap,IB w cap] (fun r b t=>t=[]∧r= .v (.int .i64 (B9 w).2)∧b=[WA (B9 w).1 cap,IB (B9 w).1 cap]):=by
 have hps:w.s.tab.ps.length≤1000:=by have:=htb.few;omega
 refine enter Tryz.func68 rfl rfl rfl rfl rfl 2 rfl ?_
 refine w_ (a_ (h:=e_ (q_ (w_ (m_ (h:=k_ (h:=f_ (h:=f_ (h:=l_ (h:=e_ (Ao (w_ (AQ (h:=a_ (h:=e_ (?_))))))))))))))))
 refine A8 rfl (fun hb1=>?_) (fun hb1=>?_)
 ·have hc1:=bp hb1
  obtain⟨f,hf⟩:∃f,w.found[0]?=some f:=⟨_,B3 (by omega)⟩
  obtain⟨x,hx⟩:∃x,w.r.items[0]?=some x:=⟨_,B3 (by omega)⟩
  have hact:B9 w=C8 w:=by simp[B9,hc1]
  refine w_ (m_ (h:=?_))
  refine A4 rfl (BV [0,1] rfl (.cons _ _ _ _ _ rfl (LeA.refl _) .nil) (by decide) (.cons _ _ _ _ _ rfl rfl (.cons _ _ _ _ _ rfl (Cg B1 _ _ _) .nil)) (Vm w cap f x hv hm htb hf hx (by have:=hnm f (Au hf);omega)) ?_)
  rintro r bc tc ⟨rfl,rfl,rfl⟩
  refine⟨rfl,_,D1 rfl ((C8 w).1) cap,?_⟩
  refine a_ (h:=e_ (A6 (AR (A7 (?_)))))
  refine BM (r:= .v (.int .i64 (B9 w).2)) none (h5:=(by rw[hact];exact LeA.refl _)) (h6:=⟨rfl,rfl,?_⟩)
  rw[hact]
  rfl
 have hc1:=bp hb1
 refine w_ (AQ (h:=a_ (h:=e_ (?_))))
 refine A8 rfl (fun hb2=>?_) (fun hb2=>?_)
 ·have hc2:=bp hb2
  obtain⟨f,hf⟩:∃f,w.found[0]?=some f:=⟨_,B3 (by omega)⟩
  obtain⟨x,hx⟩:∃x,w.r.items[0]?=some x:=⟨_,B3 (by omega)⟩
  obtain⟨g,hg⟩:∃f,w.found[1]?=some f:=⟨_,B3 (h2 (by omega)).1⟩
  obtain⟨x1,hx1⟩:∃x,w.r.items[1]?=some x:=⟨_,B3 (h2 (by omega)).2⟩
  have hact:B9 w=EM w:=by simp[B9,hc2]
  refine w_ (m_ (h:=?_))
  refine A4 rfl (BV [0,1] rfl (.cons _ _ _ _ _ rfl (LeA.refl _) .nil) (by decide) (.cons _ _ _ _ _ rfl rfl (.cons _ _ _ _ _ rfl (Cg B1 _ _ _) .nil)) (gG w cap f g x1 hv hm hf hg hx1 (by have:=hnm g (Au hg);omega)) ?_)
  rintro r bc tc ⟨rfl,rfl,rfl⟩
  refine⟨rfl,_,D1 rfl ((EM w).1) cap,?_⟩
  refine a_ (h:=e_ (A6 (AR (A7 (?_)))))
  refine BM (r:= .v (.int .i64 (B9 w).2)) none (h5:=(by rw[hact];exact LeA.refl _)) (h6:=⟨rfl,rfl,?_⟩)
  rw[hact]
  rfl
 have hc2:=bp hb2
 refine q_ (w_ (AQ (h:=a_ (h:=e_ (?_)))))
 refine A8 rfl (fun hb3=>?_) (fun hb3=>?_)
 ·have hc3:=bp hb3
  obtain⟨f,hf⟩:∃f,w.found[0]?=some f:=⟨_,B3 (by omega)⟩
  obtain⟨x,hx⟩:∃x,w.r.items[0]?=some x:=⟨_,B3 (by omega)⟩
  have hact:B9 w=De w:=by simp[B9,hc3]
  refine AG (Bf (h:=w_ (m_ (h:=?_))))
  refine A4 rfl (BV [0,1] rfl (.cons _ _ _ _ _ rfl (LeA.refl _) .nil) (by decide) (.cons _ _ _ _ _ rfl rfl (.cons _ _ _ _ _ rfl (Cg B1 _ _ _) .nil)) (WB w cap f x hv hm hps hf hx (by have:=hnm f (Au hf);omega)) ?_)
  rintro r bc tc ⟨rfl,rfl,rfl⟩
  refine⟨rfl,_,D1 rfl ((De w).1) cap,?_⟩
  refine a_ (h:=e_ (A6 (AR (A7 (?_)))))
  refine BM (r:= .v (.int .i64 (B9 w).2)) none (h5:=(by rw[hact];exact LeA.refl _)) (h6:=⟨rfl,rfl,?_⟩)
  rw[hact]
  rfl
 have hc3:=bp hb3
 refine AP (AQ (h:=a_ (h:=e_ (?_))))
 refine A8 rfl (fun hb4=>?_) (fun hb4=>?_)
 ·have hc4:=bp hb4
  obtain⟨f,hf⟩:∃f,w.found[0]?=some f:=⟨_,B3 (by omega)⟩
  obtain⟨x,hx⟩:∃x,w.r.items[0]?=some x:=⟨_,B3 (by omega)⟩
  have hact:B9 w=De w:=by simp[B9,hc4]
  refine w_ (m_ (h:=?_))
  refine A4 rfl (BV [0,1] rfl (.cons _ _ _ _ _ rfl (LeA.refl _) .nil) (by decide) (.cons _ _ _ _ _ rfl rfl (.cons _ _ _ _ _ rfl (Cg B1 _ _ _) .nil)) (WB w cap f x hv hm hps hf hx (by have:=hnm f (Au hf);omega)) ?_)
  rintro r bc tc ⟨rfl,rfl,rfl⟩
  refine⟨rfl,_,D1 rfl ((De w).1) cap,?_⟩
  refine a_ (h:=e_ (A6 (AR (A7 (?_)))))
  refine BM (r:= .v (.int .i64 (B9 w).2)) none (h5:=(by rw[hact];exact LeA.refl _)) (h6:=⟨rfl,rfl,?_⟩)
  rw[hact]
  rfl
 have hc4:=bp hb4
 refine w_ (AQ (h:=a_ (h:=e_ (?_))))
 refine A8 rfl (fun hb5=>?_) (fun hb5=>?_)
 ·have hc5:=bp hb5
  obtain⟨f,hf⟩:∃f,w.found[0]?=some f:=⟨_,B3 (by omega)⟩
  obtain⟨x,hx⟩:∃x,w.r.items[0]?=some x:=⟨_,B3 (by omega)⟩
  obtain⟨g,hg⟩:∃f,w.found[1]?=some f:=⟨_,B3 (h2 (by omega)).1⟩
  obtain⟨x1,hx1⟩:∃x,w.r.items[1]?=some x:=⟨_,B3 (h2 (by omega)).2⟩
  have hact:B9 w=Df w:=by simp[B9,hc5]
  refine w_ (m_ (h:=?_))
  refine A4 rfl (BV [0,1] rfl (.cons _ _ _ _ _ rfl (LeA.refl _) .nil) (by decide) (.cons _ _ _ _ _ rfl rfl (.cons _ _ _ _ _ rfl (Cg B1 _ _ _) .nil)) (Vs w cap f g x x1 hv hm hps hf hg hx hx1 (by have:=hnm f (Au hf);omega) (by have:=hnm g (Au hg);omega)) ?_)
  rintro r bc tc ⟨rfl,rfl,rfl⟩
  refine⟨rfl,_,D1 rfl ((Df w).1) cap,?_⟩
  refine a_ (h:=e_ (A6 (AR (A7 (?_)))))
  refine BM (r:= .v (.int .i64 (B9 w).2)) none (h5:=(by rw[hact];exact LeA.refl _)) (h6:=⟨rfl,rfl,?_⟩)
  rw[hact]
  rfl
 have hc5:=bp hb5
 refine q_ (w_ (AQ (h:=a_ (h:=e_ (?_)))))
 refine A8 rfl (fun hb6=>?_) (fun hb6=>?_)
 ·have hc6:=bp hb6
  obtain⟨f,hf⟩:∃f,w.found[0]?=some f:=⟨_,B3 (by omega)⟩
  obtain⟨x,hx⟩:∃x,w.r.items[0]?=some x:=⟨_,B3 (by omega)⟩
  have hact:B9 w=EX w:=by simp[B9,hc6]
  refine AG (Bf (h:=w_ (m_ (h:=?_))))
  refine A4 rfl (BV [0,1] rfl (.cons _ _ _ _ _ rfl (LeA.refl _) .nil) (by decide) (.cons _ _ _ _ _ rfl rfl (.cons _ _ _ _ _ rfl (Cg B1 _ _ _) .nil)) (WC w cap f hv hm hf) ?_)
  rintro r bc tc ⟨rfl,rfl,rfl⟩
  refine⟨rfl,_,D1 rfl ((EX w).1) cap,?_⟩
  refine a_ (h:=e_ (A6 (AR (A7 (?_)))))
  refine BM (r:= .v (.int .i64 (B9 w).2)) none (h5:=(by rw[hact];exact LeA.refl _)) (h6:=⟨rfl,rfl,?_⟩)
  rw[hact]
  rfl
 have hc6:=bp hb6
 refine AP (AQ (h:=a_ (h:=e_ (?_))))
 refine A8 rfl (fun hb7=>?_) (fun hb7=>?_)
 ·have hc7:=bp hb7
  obtain⟨f,hf⟩:∃f,w.found[0]?=some f:=⟨_,B3 (by omega)⟩
  obtain⟨x,hx⟩:∃x,w.r.items[0]?=some x:=⟨_,B3 (by omega)⟩
  have hact:B9 w=EX w:=by simp[B9,hc7]
  refine w_ (m_ (h:=?_))
  refine A4 rfl (BV [0,1] rfl (.cons _ _ _ _ _ rfl (LeA.refl _) .nil) (by decide) (.cons _ _ _ _ _ rfl rfl (.cons _ _ _ _ _ rfl (Cg B1 _ _ _) .nil)) (WC w cap f hv hm hf) ?_)
  rintro r bc tc ⟨rfl,rfl,rfl⟩
  refine⟨rfl,_,D1 rfl ((EX w).1) cap,?_⟩
  refine a_ (h:=e_ (A6 (AR (A7 (?_)))))
  refine BM (r:= .v (.int .i64 (B9 w).2)) none (h5:=(by rw[hact];exact LeA.refl _)) (h6:=⟨rfl,rfl,?_⟩)
  rw[hact]
  rfl
 have hc7:=bp hb7
 refine q_ (w_ (AQ (h:=a_ (h:=e_ (?_)))))
 refine A8 rfl (fun hb8=>?_) (fun hb8=>?_)
 ·have hc8:=bp hb8
  obtain⟨f,hf⟩:∃f,w.found[0]?=some f:=⟨_,B3 (by omega)⟩
  obtain⟨x,hx⟩:∃x,w.r.items[0]?=some x:=⟨_,B3 (by omega)⟩
  have hact:B9 w=D9 w:=by simp[B9,hc8]
  refine AG (Bf (h:=w_ (m_ (h:=?_))))
  refine A4 rfl (BV [0,1] rfl (.cons _ _ _ _ _ rfl (LeA.refl _) .nil) (by decide) (.cons _ _ _ _ _ rfl rfl (.cons _ _ _ _ _ rfl (Cg B1 _ _ _) .nil)) (Of w cap f hv hm htb hf) ?_)
  rintro r bc tc ⟨rfl,rfl,rfl⟩
  refine⟨rfl,_,D1 rfl ((D9 w).1) cap,?_⟩
  refine a_ (h:=e_ (A6 (AR (A7 (?_)))))
  refine BM (r:= .v (.int .i64 (B9 w).2)) none (h5:=(by rw[hact];exact LeA.refl _)) (h6:=⟨rfl,rfl,?_⟩)
  rw[hact]
  rfl
 have hc8:=bp hb8
 refine w_ (AQ (h:=a_ (h:=e_ (?_))))
 refine A8 rfl (fun hb9=>?_) (fun hb9=>?_)
 ·have hc9:=bp hb9
  obtain⟨f,hf⟩:∃f,w.found[0]?=some f:=⟨_,B3 (by omega)⟩
  obtain⟨x,hx⟩:∃x,w.r.items[0]?=some x:=⟨_,B3 (by omega)⟩
  have hact:B9 w=D9 w:=by simp[B9,hc9]
  refine AG (Bf (h:=w_ (m_ (h:=?_))))
  refine A4 rfl (BV [0,1] rfl (.cons _ _ _ _ _ rfl (LeA.refl _) .nil) (by decide) (.cons _ _ _ _ _ rfl rfl (.cons _ _ _ _ _ rfl (Cg B1 _ _ _) .nil)) (Of w cap f hv hm htb hf) ?_)
  rintro r bc tc ⟨rfl,rfl,rfl⟩
  refine⟨rfl,_,D1 rfl ((D9 w).1) cap,?_⟩
  refine a_ (h:=e_ (A6 (AR (A7 (?_)))))
  refine BM (r:= .v (.int .i64 (B9 w).2)) none (h5:=(by rw[hact];exact LeA.refl _)) (h6:=⟨rfl,rfl,?_⟩)
  rw[hact]
  rfl
 have hc9:=bp hb9
 refine w_ (AQ (h:=a_ (h:=e_ (?_))))
 refine A8 rfl (fun hb10=>?_) (fun hb10=>?_)
 ·have hc10:=bp hb10
  obtain⟨f,hf⟩:∃f,w.found[0]?=some f:=⟨_,B3 (by omega)⟩
  obtain⟨x,hx⟩:∃x,w.r.items[0]?=some x:=⟨_,B3 (by omega)⟩
  have hact:B9 w=D9 w:=by simp[B9,hc10]
  refine AG (Bf (h:=w_ (m_ (h:=?_))))
  refine A4 rfl (BV [0,1] rfl (.cons _ _ _ _ _ rfl (LeA.refl _) .nil) (by decide) (.cons _ _ _ _ _ rfl rfl (.cons _ _ _ _ _ rfl (Cg B1 _ _ _) .nil)) (Of w cap f hv hm htb hf) ?_)
  rintro r bc tc ⟨rfl,rfl,rfl⟩
  refine⟨rfl,_,D1 rfl ((D9 w).1) cap,?_⟩
  refine a_ (h:=e_ (A6 (AR (A7 (?_)))))
  refine BM (r:= .v (.int .i64 (B9 w).2)) none (h5:=(by rw[hact];exact LeA.refl _)) (h6:=⟨rfl,rfl,?_⟩)
  rw[hact]
  rfl
 have hc10:=bp hb10
 refine AP (AQ (h:=a_ (h:=e_ (?_))))
 refine A8 rfl (fun hb11=>?_) (fun hb11=>?_)
 ·have hc11:=bp hb11
  obtain⟨f,hf⟩:∃f,w.found[0]?=some f:=⟨_,B3 (by omega)⟩
  obtain⟨x,hx⟩:∃x,w.r.items[0]?=some x:=⟨_,B3 (by omega)⟩
  have hact:B9 w=D9 w:=by simp[B9,hc11]
  refine w_ (m_ (h:=?_))
  refine A4 rfl (BV [0,1] rfl (.cons _ _ _ _ _ rfl (LeA.refl _) .nil) (by decide) (.cons _ _ _ _ _ rfl rfl (.cons _ _ _ _ _ rfl (Cg B1 _ _ _) .nil)) (Of w cap f hv hm htb hf) ?_)
  rintro r bc tc ⟨rfl,rfl,rfl⟩
  refine⟨rfl,_,D1 rfl ((D9 w).1) cap,?_⟩
  refine a_ (h:=e_ (A6 (AR (A7 (?_)))))
  refine BM (r:= .v (.int .i64 (B9 w).2)) none (h5:=(by rw[hact];exact LeA.refl _)) (h6:=⟨rfl,rfl,?_⟩)
  rw[hact]
  rfl
 have hc11:=bp hb11
 refine q_ (w_ (AQ (h:=a_ (h:=e_ (?_)))))
 refine A8 rfl (fun hb12=>?_) (fun hb12=>?_)
 ·have hc12:=bp hb12
  obtain⟨f,hf⟩:∃f,w.found[0]?=some f:=⟨_,B3 (by omega)⟩
  obtain⟨x,hx⟩:∃x,w.r.items[0]?=some x:=⟨_,B3 (by omega)⟩
  have hact:B9 w=EY w:=by simp[B9,hc12]
  refine AG (Bf (h:=w_ (m_ (h:=?_))))
  refine A4 rfl (BV [0,1] rfl (.cons _ _ _ _ _ rfl (LeA.refl _) .nil) (by decide) (.cons _ _ _ _ _ rfl rfl (.cons _ _ _ _ _ rfl (Cg B1 _ _ _) .nil)) (WF w cap f x hv hm hf hx (by have:=hnm f (Au hf);omega) h9 hsz) ?_)
  rintro r bc tc ⟨rfl,rfl,rfl⟩
  refine⟨rfl,_,D1 rfl ((EY w).1) cap,?_⟩
  refine a_ (h:=e_ (A6 (AR (A7 (?_)))))
  refine BM (r:= .v (.int .i64 (B9 w).2)) none (h5:=(by rw[hact];exact LeA.refl _)) (h6:=⟨rfl,rfl,?_⟩)
  rw[hact]
  rfl
 have hc12:=bp hb12
 refine AP (AQ (h:=a_ (h:=e_ (?_))))
 refine A8 rfl (fun hb13=>?_) (fun hb13=>?_)
 ·have hc13:=bp hb13
  obtain⟨f,hf⟩:∃f,w.found[0]?=some f:=⟨_,B3 (by omega)⟩
  obtain⟨x,hx⟩:∃x,w.r.items[0]?=some x:=⟨_,B3 (by omega)⟩
  have hact:B9 w=EY w:=by simp[B9,hc13]
  refine w_ (m_ (h:=?_))
  refine A4 rfl (BV [0,1] rfl (.cons _ _ _ _ _ rfl (LeA.refl _) .nil) (by decide) (.cons _ _ _ _ _ rfl rfl (.cons _ _ _ _ _ rfl (Cg B1 _ _ _) .nil)) (WF w cap f x hv hm hf hx (by have:=hnm f (Au hf);omega) h9 hsz) ?_)
  rintro r bc tc ⟨rfl,rfl,rfl⟩
  refine⟨rfl,_,D1 rfl ((EY w).1) cap,?_⟩
  refine a_ (h:=e_ (A6 (AR (A7 (?_)))))
  refine BM (r:= .v (.int .i64 (B9 w).2)) none (h5:=(by rw[hact];exact LeA.refl _)) (h6:=⟨rfl,rfl,?_⟩)
  rw[hact]
  rfl
 have hc13:=bp hb13
 exfalso;first|contradiction|omega
theorem iC(s:Syst)(pid:Int)(c:Cal)(hv:SpcV s.spc)(hm:s.spc.mounts.length≤1000)(ht:TabB s.tab)(hcp:c.paths.length≤1000)(hca:c.args.length≤1000)(h6:0<(Bi c.num).2.2.1):AFn Tryz.prog 35 [.agg (Bg s), .v (.int .i64 pid), .agg (D0 c)] (fun r=>r=JK (C3 s pid c)):=by
 have hsb:=hv.b hm
 obtain⟨W1,hW1⟩:∃W,W=EZ s pid c:=⟨_,rfl⟩
 have hwf:=Vu s pid c
 rw[←hW1]at hwf
 have hWs:W1.s=s:=by rw[hW1];rfl
 have hWc:W1.c=c:=by rw[hW1];rfl
 refine enter Tryz.func35 rfl rfl rfl rfl rfl 0 rfl ?_
 refine w_ (b_ (h:=b_ (h:=AW (h:=AW (h:=e_ (w_ (f_ (h:=l_ (h:=m_ (h:=?_))))))))))
 refine A4 rfl (AK (Fj s.tab pid ht) ?_)
 rintro r rfl
 refine m_ (h:=x_ (h:=x_ (h:=AW (h:=s_ (h:=a_ (h:=e_ (q_ (w_ (m_ (h:=BA (h:=e_ (?_))))))))))))
 refine A8 rfl (fun hb1=>?_) (fun hb1=>?_)
 ·have hc1:=bp hb1
  have hno:Bz s.tab pid=false:=by simpa using hc1
  refine w_ (l_ (h:=?_))
  refine A4 rfl (AK (Gg s hsb ht) ?_)
  rintro r rfl
  refine A4 rfl (EQ (y:= .agg (E9 {DW with exit:= -4})) (Ca ⟨rfl,rfl⟩) ?_)
  refine s_ (h:=s_ (h:=e_ (A6 (A7 (?_)))))
  refine AB ?_
  rw[C3,if_pos hno];rfl
 have hc1:=bp hb1
 have hno:¬Bz s.tab pid=false:=by simpa using hc1
 refine AG (q_ (w_ (l_ (h:=?_))))
 refine A4 rfl (AK (RA c hcp hca) ?_)
 rintro r rfl
 refine BF (h:=e_ (?_))
 refine A8 rfl (fun hb2=>?_) (fun hb2=>?_)
 ·have hc2:=bp hb2
  have hck:BY c≠0:=by simpa using hc2
  refine w_ (l_ (h:=?_))
  refine A4 rfl (AK (Gg s hsb ht) ?_)
  rintro r rfl
  refine A4 rfl (EQ (y:= .agg (E9 {DW with exit:= -22})) (Ca ⟨rfl,rfl⟩) ?_)
  refine s_ (h:=s_ (h:=e_ (A6 (A7 (?_)))))
  refine AB ?_
  rw[C3,if_neg hno,if_pos hck];rfl
 have hc2:=bp hb2
 have hck:BY c=0:=by simpa using hc2
 obtain⟨hk1,hk2,hk3,hk4,hk5⟩:=RP hck
 have hargs:∀p∈(CJ s pid c).c.args,p.size≤1000:=fun p hp=>by have:=hk5 p hp;omega
 have hpaths:∀p∈(CJ s pid c).c.paths,p.size≤100000:=fun p hp=>by have:=hk4 p hp;omega
 obtain⟨hp1,hp2,hp3⟩:=WH h6
 have hp4:=i9 h6
 have h9:c.num=9→0<c.args.length:=fun q=>by rw[q]at hk2;have:(Bi 9).2.2.2.1=1:=rfl;omega
 have hpp:(CJ s pid c).c.paths.length=(CB (CJ s pid c).c).length:=by show c.paths.length=(CB c).length;omega
 have hp0:0<(CJ s pid c).c.paths.length:=by show 0<c.paths.length;omega
 have hzl:(c.paths.zip (CB c)).length=c.paths.length:=by rw[List.length_zip];omega
 have hil0:0<W1.r.items.length:=by rw[hwf.2.2,hzl];omega
 refine AG (q_ (BH ([(0,Bg s),(1,D0 c),(4,Av (AU s.tab pid))]) 7 (h:=?_)))
 refine AJ 0 (h:=?_)
 refine AJ 2 (h:=?_)
 refine AJ 3 (h:=?_)
 refine c_ 1 rfl (AK (Gg s hsb ht) ?_)
 rintro r rfl
 refine o_ (h:=?_)
 refine Bj 4 rfl (fun _ hS=>EC (y:= .agg (Cs (CJ s pid c) (.v (.slice none 0 0)) (.v (.slice none 0 0)))) (Ca ⟨rfl,rfl⟩) (RR s pid c) ⟨rfl,rfl⟩) ?_
 refine c_ 5 rfl (Lw rfl rfl (by repeat constructor) ?_)
 refine o_ (h:=BC 6 (h:=z_ (h:=t_ (?_))))
 refine B5 (fun S=>∃cap,W1.r.items.length≤cap∧S=⟨look [(3, .bp 2 0),(6, .bp 3 0),(7, .bp 4 0),(10, .bp 0 0),(11, .v (.int .i64 (E0 s (AU s.tab pid) c).2.2))],⟨[WA W1 cap,IB W1 cap,Bg s,Ew,FP],[]⟩⟩) ?_ ?_
 ·skip
  refine AP (m_ (h:=m_ (h:=?_)))
  refine A4 rfl (Cf 1 rfl (.cons _ _ _ _ _ rfl (LeA.of_eq rfl) .nil) (RQ (CJ s pid c) (.v (.slice none 0 0)) (.v (.slice none 0 0)) h9 hargs) ?_)
  rintro r rfl
  refine⟨rfl,?_⟩
  refine A4 rfl (BV [5] rfl (.cons _ _ _ _ _ rfl (LeA.refl _) (.cons _ _ _ _ _ rfl (LeA.refl _) .nil)) (by decide) (.cons _ _ _ _ _ rfl rfl .nil) (Vj (CJ s pid c) (Ce (AU s.tab pid) c) hv hm hpp (by show c.paths.length≤1000;omega) hp0 hpaths) ?_)
  rintro r bc tc ⟨rfl,cap,hcap,rfl,rfl⟩
  refine⟨rfl,_,Vt (CJ s pid c) _ _ cap _,?_⟩
  refine a_ (h:=AO (?_))
  refine AD ?_
  rw[hW1]
  exact⟨_,⟨cap,hcap,rfl⟩,E4 [5,6,0,2,3] (fun i hi=>absurd hi (Nat.not_lt_zero i)) (by decide) (.cons _ _ _ _ _ rfl rfl (.cons _ _ _ _ _ rfl (Ge B1 _ _ _) (.cons _ _ _ _ _ rfl rfl (.cons _ _ _ _ _ rfl rfl (.cons _ _ _ _ _ rfl rfl .nil))))) (by repeat (first|exact SubK.nil|refine SubK.cons _ _ _ _ rfl (LeA.refl _) ?_))⟩
 rintro S ⟨cap,hcap,rfl⟩
 refine w_ (m_ (h:=k_ (h:=f_ (h:=f_ (h:=l_ (h:=?_))))))
 refine A4 rfl (M4 rfl rfl (SrcA.bs 1 0 _ cap _ rfl (by rw[show IB W1 cap=LB 13 Bt W1.r.items cap from rfl,Mx B1 hcap];omega)) hil0 (by rw[hwf.2.2,hzl];omega) ?_)
 rintro cap2 k bx2 hcp2 hs
 rw[show((IB W1 cap).drop 0).take (W1.r.items.length * 13)++List.replicate ((cap2 - W1.r.items.length) * 13) AV.any=LB 13 Bt W1.r.items cap2 from Vv B1 _ cap cap2]at hs
 obtain⟨rfl,rfl⟩:k=5∧bx2=[_,_,_,_,_,_]:=hs.eq
 refine a_ (h:=e_ (?_))
 refine B5 (fun S=>∃(W2:Wrk) (E2:Int),((¬(E0 s (AU s.tab pid) c).2.2=0∧E2=(E0 s (AU s.tab pid) c).2.2)∨((E0 s (AU s.tab pid) c).2.2=0∧W2=(B9 W1).1∧E2=(B9 W1).2))∧S=⟨look [(3, .bp 2 0),(6, .bp 3 0),(7, .bp 4 0),(10, .bp 0 0),(11, .v (.int .i64 E2)),(12, .bs 5 0 13 W1.r.items.length cap2)],⟨[WA W2 cap,IB W2 cap,Bg s,Ew,FP,LB 13 Bt W1.r.items cap2],[]⟩⟩) ?_ ?_
 ·skip
  refine w_ (m_ (h:=AQ (h:=e_ (?_))))
  refine A8 rfl (fun hb3=>?_) (fun hb3=>?_)
  ·have hc3:=bp hb3
   have he1:(E0 s (AU s.tab pid) c).2.2=0:=by simpa using hc3
   refine AP (m_ (h:=?_))
   refine A4 rfl (BV [0,1] rfl (.cons _ _ _ _ _ rfl (LeA.refl _) .nil) (by decide) (.cons _ _ _ _ _ rfl rfl (.cons _ _ _ _ _ rfl (Cg B1 _ _ _) .nil)) (iB W1 cap (by rw[hWs];exact hv) (by rw[hWs];exact hm) (by rw[hWs];exact ht) hwf.1 (by rw[hwf.2.1,hzl];omega) (by rw[hwf.2.2,hzl];omega) (by rw[hWc,hwf.2.1,hwf.2.2,hzl];omega) (by rw[hWc];exact hp1) (by rw[hWc];exact h9) (by rw[hWc];exact hargs)) ?_)
   rintro r bc tc ⟨rfl,rfl,rfl⟩
   refine⟨rfl,_,D1 rfl (B9 W1).1 cap,?_⟩
   refine a_ (h:=AO (?_))
   refine AD ?_
   exact⟨_,⟨(B9 W1).1,(B9 W1).2, .inr ⟨he1,rfl,rfl⟩,rfl⟩,Az 6 0 rfl rfl rfl (by simp[Ag,Ab,Ac,BZ B1,BD,WA,IB,CC,Bg,Ew,FP]) ((by repeat (first|exact Sub.nil|refine Sub.cons _ _ _ rfl rfl ?_|refine Sub.any _ _ ?_|refine Sub.sl _ _ _ _ _ rfl ?_|refine Sub.slnil _ _ _ rfl ?_)))⟩
  have hc3:=bp hb3
  have he1:¬(E0 s (AU s.tab pid) c).2.2=0:=by simpa using hc3
  refine BB (?_)
  refine AD ?_
  first|exact⟨_,⟨(B9 W1).1,(B9 W1).2, .inr ⟨he1,rfl,rfl⟩,rfl⟩,Az 6 0 rfl rfl rfl (by simp[Ag,Ab,Ac,BZ B1,BD,WA,IB,CC,Bg,Ew,FP]) ((by repeat (first|exact Sub.nil|refine Sub.cons _ _ _ rfl rfl ?_|refine Sub.any _ _ ?_|refine Sub.sl _ _ _ _ _ rfl ?_|refine Sub.slnil _ _ _ rfl ?_)))⟩|exact⟨_,⟨W1,_, .inl ⟨he1,rfl⟩,rfl⟩,Az 6 0 rfl rfl rfl (by simp[Ag,Ab,Ac,BZ B1,BD,WA,IB,CC,Bg,Ew,FP]) ((by repeat (first|exact Sub.nil|refine Sub.cons _ _ _ rfl rfl ?_|refine Sub.any _ _ ?_|refine Sub.sl _ _ _ _ _ rfl ?_|refine Sub.slnil _ _ _ rfl ?_)))⟩
 rintro S ⟨W2,E2,hQ,rfl⟩
 refine q_ (w_ (m_ (h:=BF (h:=e_ (?_)))))
 refine A8 rfl (fun hb4=>?_) (fun hb4=>?_)
 ·have hc4:=bp hb4
  have he2:E2≠0:=by simpa using hc4
  have hrun:C3 s pid c=(s,{DW with exit:=Eu E2,items:=W1.r.items}):=by
   rw[C3,if_neg hno,if_neg (by simp[hck])]
   rcases hQ with⟨q1,q2⟩|⟨q1,q2,q3⟩
   ·rw[if_pos q1,←q2,hW1];rfl
   rw[if_neg (by simp[q1]),←hW1,←q3,if_pos he2,hW1];rfl
  refine B5 (fun S=>S=⟨look [(6, .bp 0 0),(7, .bp 1 0)],⟨[Bg s,Fl {DW with exit:=Eu E2} (.sl 13 (W1.r.items.map Bt) none)],[]⟩⟩) ?_ ?_
  ·skip
   refine AP (l_ (h:=?_))
   refine A4 rfl (AK (Gg s hsb ht) ?_)
   rintro r rfl
   refine m_ (h:=?_)
   refine A4 rfl (RU rfl ?_)
   refine m_ (h:=?_)
   refine A4 rfl (EQ (y:= .agg (Fl {DW with exit:=Eu E2} (.bs 5 0 13 W1.r.items.length cap2))) (Ca ⟨rfl,rfl⟩) ?_)
   refine s_ (h:=s_ (h:=AO (?_)))
   refine AD ?_
   refine⟨_,rfl,(E4 [3,4,5] (rows:=[Bg s,Fl {DW with exit:=Eu E2} (.bs 2 0 13 W1.r.items.length cap2),LB 13 Bt W1.r.items cap2]) (l:=[(6, .bp 0 0),(7, .bp 1 0)]) (fun i hi=>absurd hi (Nat.not_lt_zero i)) (by decide) (.cons _ _ _ _ _ rfl rfl (.cons _ _ _ _ _ rfl rfl (.cons _ _ _ _ _ rfl (Ge B1 _ _ _) .nil))) (by repeat (first|exact SubK.nil|refine SubK.cons _ _ _ _ rfl (LeA.refl _) ?_))).trans (Em 2 1 rfl (congrArg (fun x=>[Bg s,Fl {DW with exit:=Eu E2} x]) (KT B1 rfl rfl hcp2)) (.cons _ _ _ _ rfl (LeA.refl _) (.cons _ _ _ _ rfl (LeA.refl _) .nil)))⟩
  rintro S rfl
  refine A6 (A7 (?_))
  refine Aj (r:=JK (C3 s pid c)) none (h5:=(by rw[hrun];exact(by repeat (first|exact LeA.refl _|exact LeA.nil _|exact LeL.refl _|refine LeA.agg ?_|refine LeA.tup ?_|exact LeL.nil|refine LeL.cons ?_ ?_|exact LeA.any _)))) (h6:=⟨rfl,rfl,rfl⟩)
 have hc4:=bp hb4
 have he2:E2=0:=by simpa using hc4
 have hlen2:W2.r.items.length≤cap:=by
  rcases hQ with⟨q1,q2⟩|⟨q1,q2,q3⟩
  ·exact absurd (q2.symm.trans he2) q1
  rw[q2,WG];exact hcap
 have hrun:C3 s pid c=(W2.s,W2.r):=by
  rcases hQ with⟨q1,q2⟩|⟨q1,q2,q3⟩
  ·exact absurd (q2.symm.trans he2) q1
  rw[C3,if_neg hno,if_neg (by simp[hck]),if_neg (by simp[q1]),←hW1,←q3,if_neg (by simp[he2]),q2]
 refine AG (?_)
 refine B5 (fun S=>S=⟨look [(6, .bp 0 0),(7, .bp 1 0)],⟨[Bg W2.s,Fl W2.r (.sl 13 (W2.r.items.map Bt) none)],[]⟩⟩) ?_ ?_
 ·skip
  refine BH ([(0,WA W2 cap)]) 10 (h:=AN 0 (h:=B7 1 (h:=AF 2 (h:=AJ 3 (h:=AN 4 (h:=B7 5 (h:=AF 6 (h:=AJ 7 (h:=?_)))))))))
  refine B0 8 rfl (Aw rfl rfl rfl rfl rfl rfl (by repeat constructor) (by repeat constructor) ?_)
  refine o_ (h:=?_)
  refine B0 9 rfl (Aw rfl rfl rfl rfl rfl rfl (by repeat constructor) (by repeat constructor) ?_)
  refine o_ (h:=z_ (h:=?_))
  refine AD ?_
  refine⟨_,rfl,(E4 [3,4,1] (rows:=[Bg W2.s,Fl W2.r (.bs 2 0 13 W2.r.items.length cap),LB 13 Bt W2.r.items cap]) (l:=[(6, .bp 0 0),(7, .bp 1 0)]) (fun i hi=>absurd hi (Nat.not_lt_zero i)) (by decide) (.cons _ _ _ _ _ rfl rfl (.cons _ _ _ _ _ rfl rfl (.cons _ _ _ _ _ rfl (Ge B1 _ _ _) .nil))) (by repeat (first|exact SubK.nil|refine SubK.cons _ _ _ _ rfl (LeA.refl _) ?_))).trans (Em 2 1 rfl (congrArg (fun x=>[Bg W2.s,Fl W2.r x]) (KT B1 rfl rfl hlen2)) (.cons _ _ _ _ rfl (LeA.refl _) (.cons _ _ _ _ rfl (LeA.refl _) .nil)))⟩
 rintro S rfl
 refine A6 (?_)
 refine AB ?_
 rw[hrun];rfl
theorem iD{s:Syst}{p:Prc}{c:Cal}(h:c.paths=[]):E0 s p c=([],[],Ce p c):=by
 unfold E0 Hj
 rw[h]
 rfl
theorem iE(s:Syst)(pid:Int)(c:Cal)(hv:SpcV s.spc)(hm:s.spc.mounts.length≤1000)(ht:TabB s.tab)(htn:Cv s.tab)(hcp:c.paths.length≤1000)(hca:c.args.length≤1000)(h6:(Bi c.num).2.2.1=0):AFn Tryz.prog 35 [.agg (Bg s), .v (.int .i64 pid), .agg (D0 c)] (fun r=>r=JK (C3 s pid c)):=by
 have hsb:=hv.b hm
 have hwl:EZ s pid c=⟨s,AU s.tab pid,c,(E0 s (AU s.tab pid) c).2.1,{DW with items:=(E0 s (AU s.tab pid) c).1}⟩:=rfl
 refine enter Tryz.func35 rfl rfl rfl rfl rfl 0 rfl ?_
 refine w_ (b_ (h:=b_ (h:=AW (h:=AW (h:=e_ (w_ (f_ (h:=l_ (h:=m_ (h:=?_))))))))))
 refine A4 rfl (AK (Fj s.tab pid ht) ?_)
 rintro r rfl
 refine m_ (h:=x_ (h:=x_ (h:=AW (h:=s_ (h:=a_ (h:=e_ (q_ (w_ (m_ (h:=BA (h:=e_ (?_))))))))))))
 refine A8 rfl (fun hb1=>?_) (fun hb1=>?_)
 ·have hc1:=bp hb1
  have hno:Bz s.tab pid=false:=by simpa using hc1
  refine w_ (l_ (h:=?_))
  refine A4 rfl (AK (Gg s hsb ht) ?_)
  rintro r rfl
  refine A4 rfl (EQ (y:= .agg (E9 {DW with exit:= -4})) (Ca ⟨rfl,rfl⟩) ?_)
  refine s_ (h:=s_ (h:=e_ (A6 (A7 (?_)))))
  refine AB ?_
  rw[C3,if_pos hno];rfl
 have hc1:=bp hb1
 have hno:¬Bz s.tab pid=false:=by simpa using hc1
 refine AG (q_ (w_ (l_ (h:=?_))))
 refine A4 rfl (AK (RA c hcp hca) ?_)
 rintro r rfl
 refine BF (h:=e_ (?_))
 refine A8 rfl (fun hb2=>?_) (fun hb2=>?_)
 ·have hc2:=bp hb2
  have hck:BY c≠0:=by simpa using hc2
  refine w_ (l_ (h:=?_))
  refine A4 rfl (AK (Gg s hsb ht) ?_)
  rintro r rfl
  refine A4 rfl (EQ (y:= .agg (E9 {DW with exit:= -22})) (Ca ⟨rfl,rfl⟩) ?_)
  refine s_ (h:=s_ (h:=e_ (A6 (A7 (?_)))))
  refine AB ?_
  rw[C3,if_neg hno,if_pos hck];rfl
 have hc2:=bp hb2
 have hck:BY c=0:=by simpa using hc2
 obtain⟨hk1,hk2,hk3,hk4,hk5⟩:=RP hck
 have hargs:∀p∈(CJ s pid c).c.args,p.size≤1000:=fun p hp=>by have:=hk5 p hp;omega
 have hp0:c.paths=[]:=by rw[h6]at hk1;exact List.length_eq_zero_iff.1 (by omega)
 have hpz:(CJ s pid c).c.paths=[]:=hp0
 have h9:(CJ s pid c).c.num=9→0<(CJ s pid c).c.args.length:=fun q=>absurd q (WJ h6).2.2.2.1
 have h19:(CJ s pid c).c.num=19→0<(CJ s pid c).c.args.length:=fun q=>by have q2:c.num=19:=q;rw[q2]at hk2;have:(Bi 19).2.2.2.1=1:=rfl;show 0<c.args.length;omega
 have hlok:=iD (s:=s) (p:=AU s.tab pid) hp0
 have hwk:EZ s pid c=CJ s pid c:=by rw[hwl,hlok];rfl
 refine AG (q_ (BH ([(0,Bg s),(1,D0 c),(4,Av (AU s.tab pid))]) 7 (h:=?_)))
 refine AJ 0 (h:=?_)
 refine AJ 2 (h:=?_)
 refine AJ 3 (h:=?_)
 refine c_ 1 rfl (AK (Gg s hsb ht) ?_)
 rintro r rfl
 refine o_ (h:=?_)
 refine Bj 4 rfl (fun _ hS=>EC (y:= .agg (Cs (CJ s pid c) (.v (.slice none 0 0)) (.v (.slice none 0 0)))) (Ca ⟨rfl,rfl⟩) (RR s pid c) ⟨rfl,rfl⟩) ?_
 refine c_ 5 rfl (Lw rfl rfl (by repeat constructor) ?_)
 refine o_ (h:=BC 6 (h:=z_ (h:=t_ (?_))))
 refine B5 (fun S=>S=⟨look [(3, .bp 2 0),(6, .bp 3 0),(7, .bp 4 0),(10, .bp 0 0),(11, .v (.int .i64 (Ce (AU s.tab pid) c)))],⟨[WN (CJ s pid c),D0 c,Bg s,Ew,FP],[]⟩⟩) ?_ ?_
 ·skip
  refine AP (m_ (h:=m_ (h:=?_)))
  refine A4 rfl (Cf 1 rfl (.cons _ _ _ _ _ rfl (LeA.of_eq rfl) .nil) (RQ (CJ s pid c) (.v (.slice none 0 0)) (.v (.slice none 0 0)) h9 hargs) ?_)
  rintro r rfl
  refine⟨rfl,?_⟩
  refine A4 rfl (BV [5] rfl (.cons _ _ _ _ _ rfl (LeA.refl _) (.cons _ _ _ _ _ rfl (LeA.refl _) .nil)) (by decide) (.cons _ _ _ _ _ rfl rfl .nil) (gV (CJ s pid c) (Ce (AU s.tab pid) c) hpz) ?_)
  rintro r bc tc ⟨rfl,rfl,rfl⟩
  refine⟨rfl,_,iA (CJ s pid c),?_⟩
  refine a_ (h:=AO (?_))
  refine AD ?_
  exact⟨_,rfl,E4 [5,1,0,2,3] (fun i hi=>absurd hi (Nat.not_lt_zero i)) (by decide) (.cons _ _ _ _ _ rfl rfl (.cons _ _ _ _ _ rfl rfl (.cons _ _ _ _ _ rfl rfl (.cons _ _ _ _ _ rfl rfl (.cons _ _ _ _ _ rfl rfl .nil))))) (by repeat (first|exact SubK.nil|refine SubK.cons _ _ _ _ rfl (LeA.refl _) ?_))⟩
 rintro S rfl
 refine w_ (m_ (h:=k_ (h:=f_ (h:=f_ (h:=l_ (h:=?_))))))
 refine A4 rfl (gR rfl rfl ?_)
 refine a_ (h:=e_ (?_))
 refine B5 (fun S=>∃(W2:Wrk) (E2:Int),((¬Ce (AU s.tab pid) c=0∧E2=Ce (AU s.tab pid) c)∨(Ce (AU s.tab pid) c=0∧W2=(B9 (CJ s pid c)).1∧E2=(B9 (CJ s pid c)).2))∧S=⟨look [(3, .bp 2 0),(6, .bp 3 0),(7, .bp 4 0),(10, .bp 0 0),(11, .v (.int .i64 E2)),(12, .v (.slice none 0 0))],⟨[WN W2,D0 c,Bg s,Ew,FP],[]⟩⟩) ?_ ?_
 ·skip
  refine w_ (m_ (h:=AQ (h:=e_ (?_))))
  refine A8 rfl (fun hb3=>?_) (fun hb3=>?_)
  ·have hc3:=bp hb3
   have he1:Ce (AU s.tab pid) c=0:=by simpa using hc3
   refine AP (m_ (h:=?_))
   refine A4 rfl (BV [0] rfl (.cons _ _ _ _ _ rfl (LeA.refl _) .nil) (by decide) (.cons _ _ _ _ _ rfl rfl .nil) (gW (CJ s pid c) hsb ht htn h19 (WJ h6)) ?_)
   rintro r bc tc ⟨rfl,rfl,rfl⟩
   refine⟨rfl,_,Hp ((B9 (CJ s pid c)).1),?_⟩
   refine a_ (h:=AO (?_))
   refine AD ?_
   exact⟨_,⟨(B9 (CJ s pid c)).1,(B9 (CJ s pid c)).2, .inr ⟨he1,rfl,rfl⟩,rfl⟩,Az 5 0 rfl rfl rfl (by simp[Ag,Ab,Ac,BD,WN,Bg,Ew,FP,D0]) ((by repeat (first|exact Sub.nil|refine Sub.cons _ _ _ rfl rfl ?_|refine Sub.any _ _ ?_|refine Sub.sl _ _ _ _ _ rfl ?_|refine Sub.slnil _ _ _ rfl ?_)))⟩
  have hc3:=bp hb3
  have he1:¬Ce (AU s.tab pid) c=0:=by simpa using hc3
  refine BB (?_)
  refine AD ?_
  first|exact⟨_,⟨(B9 (CJ s pid c)).1,(B9 (CJ s pid c)).2, .inr ⟨he1,rfl,rfl⟩,rfl⟩,Az 5 0 rfl rfl rfl (by simp[Ag,Ab,Ac,BD,WN,Bg,Ew,FP,D0]) ((by repeat (first|exact Sub.nil|refine Sub.cons _ _ _ rfl rfl ?_|refine Sub.any _ _ ?_|refine Sub.sl _ _ _ _ _ rfl ?_|refine Sub.slnil _ _ _ rfl ?_)))⟩|exact⟨_,⟨CJ s pid c,_, .inl ⟨he1,rfl⟩,rfl⟩,Az 5 0 rfl rfl rfl (by simp[Ag,Ab,Ac,BD,WN,Bg,Ew,FP,D0]) ((by repeat (first|exact Sub.nil|refine Sub.cons _ _ _ rfl rfl ?_|refine Sub.any _ _ ?_|refine Sub.sl _ _ _ _ _ rfl ?_|refine Sub.slnil _ _ _ rfl ?_)))⟩
 rintro S ⟨W2,E2,hQ,rfl⟩
 refine q_ (w_ (m_ (h:=BF (h:=e_ (?_)))))
 refine A8 rfl (fun hb4=>?_) (fun hb4=>?_)
 ·have hc4:=bp hb4
  have he2:E2≠0:=by simpa using hc4
  have hrun:C3 s pid c=(s,{DW with exit:=Eu E2}):=by
   rw[C3,if_neg hno,if_neg (by simp[hck]),hlok]
   rcases hQ with⟨q1,q2⟩|⟨q1,q2,q3⟩
   ·rw[if_pos q1,←q2]
    rfl
   rw[if_neg (by simp[q1]),hwk,←q3,if_pos he2]
   rfl
  refine w_ (l_ (h:=?_))
  refine A4 rfl (AK (Gg s hsb ht) ?_)
  rintro r rfl
  refine m_ (h:=?_)
  refine A4 rfl (RU rfl ?_)
  refine m_ (h:=?_)
  refine A4 rfl (EQ (y:= .agg (E9 {DW with exit:=Eu E2})) (Ca ⟨rfl,rfl⟩) ?_)
  refine s_ (h:=s_ (h:=e_ (A6 (A7 (?_)))))
  refine Aj (r:=JK (C3 s pid c)) none (h5:=(by rw[hrun];exact(by repeat (first|exact LeA.refl _|exact LeA.nil _|exact LeL.refl _|refine LeA.agg ?_|refine LeA.tup ?_|exact LeL.nil|refine LeL.cons ?_ ?_|exact LeA.any _)))) (h6:=⟨rfl,rfl,rfl⟩)
 have hc4:=bp hb4
 have he2:E2=0:=by simpa using hc4
 have hrun:C3 s pid c=(W2.s,W2.r)∧W2.r.items=[]:=by
  rcases hQ with⟨q1,q2⟩|⟨q1,q2,q3⟩
  ·exact absurd (q2.symm.trans he2) q1
  refine⟨?_,?_⟩
  ·rw[C3,if_neg hno,if_neg (by simp[hck]),hlok,if_neg (by simp[q1]),hwk,←q3,if_neg (by simp[he2]),q2]
  refine List.length_eq_zero_iff.1 ?_
  rw[q2,WG]
  rfl
 refine AG (q_ (BH ([(0,WN W2)]) 10 (h:=AN 0 (h:=B7 1 (h:=AF 2 (h:=AJ 3 (h:=AN 4 (h:=B7 5 (h:=AF 6 (h:=AJ 7 (h:=?_)))))))))))
 refine B0 8 rfl (Aw rfl rfl rfl rfl rfl rfl (by repeat constructor) (by repeat constructor) ?_)
 refine o_ (h:=?_)
 refine B0 9 rfl (Aw rfl rfl rfl rfl rfl rfl (by repeat constructor) (by repeat constructor) ?_)
 refine o_ (h:=z_ (h:=t_ (A6 (?_))))
 refine Aj (r:=JK (C3 s pid c)) none (h5:=?_) (h6:=⟨rfl,rfl,rfl⟩)
 rw[hrun.1,JK,E9,hrun.2]
 exact(by repeat (first|exact LeA.refl _|exact LeA.nil _|exact LeL.refl _|refine LeA.agg ?_|refine LeA.tup ?_|exact LeL.nil|refine LeL.cons ?_ ?_|exact LeA.any _))
theorem KX(s:Syst)(pid:Int)(c:Cal)(hv:SpcV s.spc)(hm:s.spc.mounts.length≤1000)(ht:TabB s.tab)(htn:Cv s.tab)(hcp:c.paths.length≤1000)(hca:c.args.length≤1000):AFn Tryz.prog 35 [.agg (Bg s), .v (.int .i64 pid), .agg (D0 c)] (fun r=>r=JK (C3 s pid c)):=by
 rcases i8 c.num with h|h
 ·exact iC s pid c hv hm ht hcp hca h
 exact iE s pid c hv hm ht htn hcp hca h
end
structure Wch where
 kind:Int
 dir:A9
 name:AE
 file:A9
deriving DecidableEq
def FG:Wch:=⟨0,(0,0),⟨#[]⟩,(0,0)⟩
def Ch(w:Wch):List AV:=[.v (.int .i64 w.kind), .v (.int .i64 w.dir.1), .v (.int .i64 w.dir.2), .v (.string w.name), .v (.int .i64 w.file.1), .v (.int .i64 w.file.2)]
def JL(s:Spc)(a:A9):Bool:=AX s.files a&&Bl s a.1
def GB(s:Spc)(k:Int)(p:AE):Wch×Int:=
 if(k≠1∧k≠2)∨Dl p.data.toList=false then(FG,22)
 else if(Bh s (0,0) p (decide (k=2))).2≠0 then(FG,(Bh s (0,0) p (decide (k=2))).2)
 else if k=2 then
  (if(Bh s (0,0) p true).1.ex=false then(FG,2)else if AX s.files (Bh s (0,0) p true).1.file=false then(FG,20)
  else(⟨k,(0,0),⟨#[]⟩,(Bh s (0,0) p true).1.file⟩,0))
 else if(Bh s (0,0) p false).1.name=⟨#[]⟩then(FG,22)
 else(⟨k,(Bh s (0,0) p false).1.dir,(Bh s (0,0) p false).1.name,(AM s.files (Bh s (0,0) p false).1.dir (Bh s (0,0) p false).1.name).1⟩,0)
def KY(s:Spc)(a b:A9):Bool:=decide (a∈BE s (BL s.files) b)
def DR(s:Spc)(w:Wch)(dir:A9)(name:AE)(file:A9):Bool:=
 if w.kind=1 then(decide (w.file≠(0,0))&&decide (file=w.file))||(decide (name≠⟨#[]⟩)&&decide (dir=w.dir)&&decide (name=w.name))
 else if w.kind=2 then KY s w.file dir||KY s w.file file else false
def DE(w:Wch):A9:=if w.kind=2 then w.file else w.dir
def H4(s:Spc)(w:Wch):Wch×Bool:=
 if(w.kind≠1∧w.kind≠2)∨JL s (DE w)=false then(FG,false)
 else if w.kind=1 then({w with file:=(AM s.files w.dir w.name).1},true)else(w,true)
def RX(w:Wch)(l:List Dj):Wch:=if w.kind=1 then{w with file:=l.foldl (fun a c=>if c.1=w.dir∧c.2.1=w.name then c.2.2.2 else a) w.file}else w
def Og(w:Wch)(gone:Int)(l:List Dj):Wch×Bool:=
 if(w.kind≠1∧w.kind≠2)∨(gone≠0∧gone=(DE w).1)∨((l.any fun c=>decide (c.2.2.1=DE w))=true∧(l.any fun c=>decide (c.2.2.2=DE w))=false)then(FG,false)
 else(RX w l,true)
theorem N3(a b:A9)(w:World):(binOp .eql 36 (.agg #[.int .i64 a.1, .int .i64 a.2]) (.agg #[.int .i64 b.1, .int .i64 b.2])).run Tryz.prog w= .ok (.bool (decide (a=b))) w:=KC a.1 a.2 b.1 b.2 w
theorem iF(a b:A9)(w:World):(binOp .neq 36 (.agg #[.int .i64 a.1, .int .i64 a.2]) (.agg #[.int .i64 b.1, .int .i64 b.2])).run Tryz.prog w= .ok (.bool (!decide (a=b))) w:=Ph a.1 a.2 b.1 b.2 w
def RY(R:Wch×Int):AV:= .tup [.agg (Ch R.1), .v (.int .i64 R.2)]
def Oh(R:Wch×Bool):AV:= .tup [.agg (Ch R.1), .v (.bool R.2)]
theorem WK(s:Spc)(k:Int)(p:AE)(F:Fnd×Int)(hF:Bh s (0,0) p (decide (k=2))=F):GB s k p=if(k≠1∧k≠2)∨Dl p.data.toList=false then(FG,22)else if F.2≠0 then(FG,F.2)
    else if k=2 then(if F.1.ex=false then(FG,2)else if AX s.files F.1.file=false then(FG,20)else(⟨k,(0,0),⟨#[]⟩,F.1.file⟩,0))
    else if F.1.name=⟨#[]⟩then(FG,22)else(⟨k,F.1.dir,F.1.name,(AM s.files F.1.dir F.1.name).1⟩,0):=by
 unfold GB
 rw[hF]
 by_cases h:k=2
 ·rw[decide_eq_true h]at hF
  simp only[if_pos h,hF]
 rw[decide_eq_false h]at hF
 simp only[if_neg h,hF]
theorem iG{f:AZ}{dir:A9}{name:AE}(h:(AM f dir name).2≠0):(AM f dir name).1=(0,0):=by
 unfold AM at h ⊢
 split
 ·rfl
 rename_i n e
 rw[e]at h
 simp only at h
 split at h
 ·rename_i c
  rw[if_pos c]
  split
  ·rfl
  rename_i e2;rw[e2]at h;exact absurd rfl h
 rename_i c;rw[if_neg c]
section
theorem WM(s:AE)(hs:s.size≤60000):AFn Tryz.prog 51 [.v (.string s)] (fun r=>r= .v (.bool (Dl s.data.toList))):=Nh (us:=[.string s]) fun w=>eN s w (by omega)
theorem RZ(s:Spc)(a:A9)(hs:SpcB s):AFn Tryz.prog 54 [.agg (Ai s), .agg (AA a)] (fun r=>r= .v (.bool (AX s.files a))):=by
 refine enter Tryz.func54 rfl rfl rfl rfl rfl 0 rfl ?_
 refine w_ (b_ (h:=b_ (h:=a_ (h:=e_ (w_ (f_ (h:=l_ (h:=l_ (h:=?_)))))))))
 refine A4 rfl (AK (Hb s.files a hs.files) ?_)
 rintro r rfl
 refine m_ (h:=x_ (h:=x_ (h:=AW (h:=s_ (h:=a_ (h:=e_ (w_ (m_ (h:=m_ (h:=?_))))))))))
 refine Ax true rfl rfl (fun hb1=>?_) (fun hb1=>?_)
 ·have hc1:=bp hb1
  refine f_ (h:=l_ (h:=AQ (h:=Af (h:=a_ (h:=e_ (A6 (?_)))))))
  refine AB ?_
  first|(exfalso;first|contradiction|omega)|(exact vb (by simp[Fv, *]))
 have hc1:=bp hb1
 refine A3 (h:=A3 (h:=A3 (h:=Am (h:=a_ (h:=e_ (A6 (?_)))))))
 refine AB ?_
 first|(exfalso;first|contradiction|omega)|(exact vb (by simp[Fv, *]))
theorem WO(s:Spc)(a:A9)(hs:SpcB s):AFn Tryz.prog 58 [.agg (Ai s), .agg (AA a)] (fun r=>r= .v (.bool (JL s a))):=by
 refine enter Tryz.func58 rfl rfl rfl rfl rfl 0 rfl ?_
 refine w_ (b_ (h:=b_ (h:=a_ (h:=e_ (w_ (l_ (h:=l_ (h:=?_))))))))
 refine A4 rfl (AK (RZ s a hs) ?_)
 rintro r rfl
 refine m_ (h:=?_)
 refine Ax true rfl rfl (fun hb1=>?_) (fun hb1=>?_)
 ·have hc1:=bp hb1
  refine l_ (h:=f_ (h:=l_ (h:=?_)))
  refine B6 (AK (Sz s a.1 hs) ?_)
  rintro r rfl
  refine Af (h:=a_ (h:=e_ (A6 (?_))))
  refine AB ?_
  first|(exfalso;first|contradiction|omega)|(exact vb (by simp[JL, *]))
 have hc1:=bp hb1
 refine A3 (h:=A3 (h:=A3 (h:=A3 (h:=Am (h:=a_ (h:=e_ (A6 (?_))))))))
 refine AB ?_
 first|(exfalso;first|contradiction|omega)|(exact vb (by simp[JL, *]))
theorem WP(s:Spc)(a:A9)(name:AE)(hs:SpcB s):AFn Tryz.prog 53 [.agg (Ai s), .agg (AA a), .v (.string name)] (fun r=>r= .agg (AA (AM s.files a name).1)):=by
 refine enter Tryz.func53 rfl rfl rfl rfl rfl 0 rfl ?_
 refine w_ (b_ (h:=b_ (h:=AW (h:=e_ (w_ (f_ (h:=l_ (h:=l_ (h:=m_ (h:=?_))))))))))
 refine A4 rfl (AK (RG s.files a name hs.files) ?_)
 rintro r rfl
 refine m_ (h:=x_ (h:=x_ (h:=AW (h:=s_ (h:=a_ (h:=e_ (q_ (w_ (m_ (h:=BF (h:=e_ (?_))))))))))))
 refine A8 rfl (fun hb1=>?_) (fun hb1=>?_)
 ·have hc1:=bp hb1
  refine w_ (AT (h:=s_ (h:=e_ (A6 (A7 (?_))))))
  refine AB ?_
  rw[iG (by simpa using hc1)]
  rfl
 have hc1:=bp hb1
 refine AG (w_ (l_ (h:=s_ (h:=e_ (A6 (?_))))))
 refine AB ?_
 rfl
theorem Ra(w:Wch)(hk:w.kind=1∨w.kind=2):AFn Tryz.prog 59 [.agg (Ch w)] (fun r=>r= .agg (AA (DE w))):=by
 refine enter Tryz.func59 rfl rfl rfl rfl rfl 0 rfl ?_
 refine w_ (b_ (h:=AW (h:=e_ (q_ (w_ (f_ (h:=l_ (h:=AQ (h:=e_ (?_))))))))))
 refine A8 rfl (fun hb1=>?_) (fun hb1=>?_)
 ·have hc1:=bp hb1
  refine w_ (f_ (h:=l_ (h:=s_ (h:=e_ (A6 (A7 (?_)))))))
  refine AB ?_
  rw[DE,if_neg (by omega)]
  rfl
 have hc1:=bp hb1
 refine AG (w_ (f_ (h:=l_ (h:=s_ (h:=e_ (A6 (?_)))))))
 refine AB ?_
 rw[DE,if_pos (by omega)]
 rfl
theorem Rb(s:Spc)(k:Int)(p:AE)(hv:SpcV s)(hm:s.mounts.length≤1000)(hp:p.size≤50000):AFn Tryz.prog 18 [.agg (Ai s), .v (.int .i64 k), .v (.string p)] (fun r=>r=RY (GB s k p)):=by
 have hsb:=hv.b hm
 obtain⟨F,hF⟩:∃F,Bh s (0,0) p (decide (k=2))=F:=⟨_,rfl⟩
 have hw:=WK s k p F hF
 have hfind:AFn Tryz.prog 56 [.agg (Ai s), .agg (AA (0,0)), .v (.string p), .v (.bool (decide (k=2)))] (fun r=>r= .tup [.agg (Ak F.1), .v (.int .i64 F.2)]):=by rw[←hF];exact Vb s (0,0) p _ (hv.n hm) hv (by omega)
 refine enter Tryz.func18 rfl rfl rfl rfl rfl 0 rfl ?_
 refine w_ (b_ (h:=AW (h:=a_ (h:=e_ (q_ (?_))))))
 refine B5 (fun S=>S=⟨look [(1, .v (.int .i64 k)),(2, .v (.string p)),(3, .bp 0 0),(6, .bp 1 0),(22, .v (.bool ((!decide (k=1)&& !decide (k=2))|| !Dl p.data.toList)))],⟨[Ai s,[.v (.int .i64 0), .v (.int .i64 0), .v (.int .i64 0), .v (.string ⟨#[]⟩), .v (.int .i64 0), .v (.int .i64 0)]],[]⟩⟩) ?_ ?_
 ·skip
  refine AP (m_ (h:=BF (h:=m_ (h:=?_))))
  refine Ax true rfl rfl (fun hb1=>?_) (fun hb1=>?_)
  ·have hc1:=bp hb1
   refine m_ (h:=BF (h:=Af (h:=m_ (h:=?_))))
   refine Ax false rfl rfl (fun hb2=>?_) (fun hb2=>?_)
   ·have hc2:=bp hb2
    refine A3 (h:=A3 (h:=A3 (h:=Af (h:=AO (?_)))))
    refine AD ?_
    exact⟨_,rfl,C4 2 0 rfl⟩
   have hc2:=bp hb2
   refine m_ (h:=?_)
   refine B6 (AK (Ui p hp) ?_)
   rintro r rfl
   refine BA (h:=Am (h:=AO (?_)))
   refine AD ?_
   exact⟨_,rfl,C4 2 0 rfl⟩
  have hc1:=bp hb1
  refine A3 (h:=A3 (h:=Am (h:=m_ (h:=m_ (h:=?_)))))
  refine B6 (AK (Ui p hp) ?_)
  rintro r rfl
  refine BA (h:=Am (h:=AO (?_)))
  refine AD ?_
  exact⟨_,rfl,C4 2 0 rfl⟩
 rintro S rfl
 refine A8 rfl (fun hb3=>?_) (fun hb3=>?_)
 ·have hc3:=bp hb3
  have k1:(k≠1∧k≠2)∨Dl p.data.toList=false:=by simpa using hc3
  refine w_ (AT (h:=s_ (h:=a_ (h:=e_ (A6 (A7 (?_)))))))
  refine AB ?_
  rw[hw,if_pos k1]
  rfl
 have hc3:=bp hb3
 have k1:¬((k≠1∧k≠2)∨Dl p.data.toList=false):=by simpa using hc3
 refine AG (w_ (l_ (h:=AT (h:=m_ (h:=m_ (h:=AQ (h:=?_)))))))
 refine A4 rfl (AK (hfind) ?_)
 rintro r rfl
 refine m_ (h:=x_ (h:=x_ (h:=AW (h:=s_ (h:=a_ (h:=e_ (q_ (w_ (m_ (h:=BF (h:=e_ (?_))))))))))))
 refine A8 rfl (fun hb4=>?_) (fun hb4=>?_)
 ·have hc4:=bp hb4
  have k2:F.2≠0:=by simpa using hc4
  refine w_ (AT (h:=m_ (h:=s_ (h:=a_ (h:=e_ (A6 (A7 (?_))))))))
  refine AB ?_
  rw[hw,if_neg k1,if_pos k2]
  rfl
 have hc4:=bp hb4
 have k2:¬F.2≠0:=by simpa using hc4
 refine AG (q_ (w_ (m_ (h:=AQ (h:=e_ (?_))))))
 refine A8 rfl (fun hb5=>?_) (fun hb5=>?_)
 ·have hc5:=bp hb5
  have k3:k=2:=hc5
  refine q_ (w_ (f_ (h:=l_ (h:=BA (h:=e_ (?_))))))
  refine A8 rfl (fun hb6=>?_) (fun hb6=>?_)
  ·have hc6:=bp hb6
   have k4:F.1.ex=false:=by simpa using hc6
   refine w_ (AT (h:=s_ (h:=a_ (h:=e_ (A6 (A7 (A7 (?_))))))))
   refine AB ?_
   rw[hw,if_neg k1,if_neg k2,if_pos k3,if_pos k4]
   rfl
  have hc6:=bp hb6
  have k4:¬F.1.ex=false:=by simpa using hc6
  refine AG (q_ (w_ (f_ (h:=l_ (h:=f_ (h:=l_ (h:=?_)))))))
  refine A4 rfl (AK (GO s.files F.1.file hsb.files) ?_)
  rintro r rfl
  refine BA (h:=e_ (?_))
  refine A8 rfl (fun hb7=>?_) (fun hb7=>?_)
  ·have hc7:=bp hb7
   have k5:AX s.files F.1.file=false:=by simpa using hc7
   refine w_ (AT (h:=s_ (h:=a_ (h:=e_ (A6 (A7 (A7 (?_))))))))
   refine AB ?_
   rw[hw,if_neg k1,if_neg k2,if_pos k3,if_neg k4,if_pos k5]
   rfl
  have hc7:=bp hb7
  have k5:¬AX s.files F.1.file=false:=by simpa using hc7
  refine AG (w_ (m_ (h:=f_ (h:=l_ (h:=AT (h:=s_ (h:=a_ (h:=e_ (A6 (A7 (?_)))))))))))
  refine AB ?_
  rw[hw,if_neg k1,if_neg k2,if_pos k3,if_neg k4,if_neg k5]
  rfl
 have hc5:=bp hb5
 have k3:¬k=2:=hc5
 refine AG (q_ (w_ (f_ (h:=l_ (h:=AQ (h:=e_ (?_)))))))
 refine A8 rfl (fun hb8=>?_) (fun hb8=>?_)
 ·have hc8:=bp hb8
  have k6:F.1.name=⟨#[]⟩:=hc8
  refine w_ (AT (h:=s_ (h:=a_ (h:=e_ (A6 (A7 (?_)))))))
  refine AB ?_
  rw[hw,if_neg k1,if_neg k2,if_neg k3,if_pos k6]
  rfl
 have hc8:=bp hb8
 have k6:¬F.1.name=⟨#[]⟩:=hc8
 refine AG (w_ (f_ (h:=l_ (h:=f_ (h:=l_ (h:=f_ (h:=l_ (h:=?_))))))))
 refine A4 rfl (AK (Gp s.files F.1.dir F.1.name hsb.files) ?_)
 rintro r rfl
 refine m_ (h:=x_ (h:=x_ (h:=AW (h:=s_ (h:=a_ (h:=e_ (w_ (m_ (h:=f_ (h:=l_ (h:=f_ (h:=l_ (h:=l_ (h:=AT (h:=s_ (h:=a_ (h:=e_ (A6 (?_)))))))))))))))))))
 refine AB ?_
 rw[hw,if_neg k1,if_neg k2,if_neg k3,if_neg k6]
 rfl
theorem iH(s:Spc)(k:Int)(p:AE)(hv:SpcV s)(hm:s.mounts.length≤1000)(hp:p.size≤50000):AFn Tryz.prog 17 [.agg (Ai s), .v (.int .i64 k), .v (.string p)] (fun r=>r=RY (GB s k p)):=by
 have hsb:=hv.b hm
 obtain⟨F,hF⟩:∃F,Bh s (0,0) p (decide (k=2))=F:=⟨_,rfl⟩
 have hw:=WK s k p F hF
 have hfind:AFn Tryz.prog 52 [.agg (Ai s), .agg (AA (0,0)), .v (.string p), .v (.bool (decide (k=2)))] (fun r=>r= .tup [.agg (Ak F.1), .v (.int .i64 F.2)]):=by rw[←hF];exact fQ s (0,0) p _ (hv.n hm) hv (by omega)
 refine enter Tryz.func17 rfl rfl rfl rfl rfl 0 rfl ?_
 refine w_ (b_ (h:=AW (h:=a_ (h:=e_ (q_ (?_))))))
 refine B5 (fun S=>S=⟨look [(1, .v (.int .i64 k)),(2, .v (.string p)),(3, .bp 0 0),(6, .bp 1 0),(20, .v (.bool ((!decide (k=1)&& !decide (k=2))|| !Dl p.data.toList)))],⟨[Ai s,[.v (.int .i64 0), .v (.int .i64 0), .v (.int .i64 0), .v (.string ⟨#[]⟩), .v (.int .i64 0), .v (.int .i64 0)]],[]⟩⟩) ?_ ?_
 ·skip
  refine AP (m_ (h:=BF (h:=m_ (h:=?_))))
  refine Ax true rfl rfl (fun hb1=>?_) (fun hb1=>?_)
  ·have hc1:=bp hb1
   refine m_ (h:=BF (h:=Af (h:=m_ (h:=?_))))
   refine Ax false rfl rfl (fun hb2=>?_) (fun hb2=>?_)
   ·have hc2:=bp hb2
    refine A3 (h:=A3 (h:=A3 (h:=Af (h:=AO (?_)))))
    refine AD ?_
    exact⟨_,rfl,C4 2 0 rfl⟩
   have hc2:=bp hb2
   refine m_ (h:=?_)
   refine B6 (AK (WM p (by omega)) ?_)
   rintro r rfl
   refine BA (h:=Am (h:=AO (?_)))
   refine AD ?_
   exact⟨_,rfl,C4 2 0 rfl⟩
  have hc1:=bp hb1
  refine A3 (h:=A3 (h:=Am (h:=m_ (h:=m_ (h:=?_)))))
  refine B6 (AK (WM p (by omega)) ?_)
  rintro r rfl
  refine BA (h:=Am (h:=AO (?_)))
  refine AD ?_
  exact⟨_,rfl,C4 2 0 rfl⟩
 rintro S rfl
 refine A8 rfl (fun hb3=>?_) (fun hb3=>?_)
 ·have hc3:=bp hb3
  have k1:(k≠1∧k≠2)∨Dl p.data.toList=false:=by simpa using hc3
  refine w_ (AT (h:=s_ (h:=a_ (h:=e_ (A6 (A7 (?_)))))))
  refine AB ?_
  rw[hw,if_pos k1]
  rfl
 have hc3:=bp hb3
 have k1:¬((k≠1∧k≠2)∨Dl p.data.toList=false):=by simpa using hc3
 refine AG (w_ (l_ (h:=AT (h:=m_ (h:=m_ (h:=AQ (h:=?_)))))))
 refine A4 rfl (AK (hfind) ?_)
 rintro r rfl
 refine m_ (h:=x_ (h:=x_ (h:=AW (h:=s_ (h:=a_ (h:=e_ (q_ (w_ (m_ (h:=BF (h:=e_ (?_))))))))))))
 refine A8 rfl (fun hb4=>?_) (fun hb4=>?_)
 ·have hc4:=bp hb4
  have k2:F.2≠0:=by simpa using hc4
  refine w_ (AT (h:=m_ (h:=s_ (h:=a_ (h:=e_ (A6 (A7 (?_))))))))
  refine AB ?_
  rw[hw,if_neg k1,if_pos k2]
  rfl
 have hc4:=bp hb4
 have k2:¬F.2≠0:=by simpa using hc4
 refine AG (q_ (w_ (m_ (h:=AQ (h:=e_ (?_))))))
 refine A8 rfl (fun hb5=>?_) (fun hb5=>?_)
 ·have hc5:=bp hb5
  have k3:¬k=2:=by omega
  refine q_ (w_ (f_ (h:=l_ (h:=AQ (h:=e_ (?_))))))
  refine A8 rfl (fun hb6=>?_) (fun hb6=>?_)
  ·have hc6:=bp hb6
   have k6:F.1.name=⟨#[]⟩:=hc6
   refine w_ (AT (h:=s_ (h:=a_ (h:=e_ (A6 (A7 (A7 (?_))))))))
   refine AB ?_
   rw[hw,if_neg k1,if_neg k2,if_neg k3,if_pos k6]
   rfl
  have hc6:=bp hb6
  have k6:¬F.1.name=⟨#[]⟩:=hc6
  refine AG (q_ (BH ([(0,Ai s),(2,Ak F.1)]) 14 (h:=AN 0 (h:=AF 1 (h:=?_)))))
  refine AJ 2 (h:=?_)
  refine AF 3 (h:=?_)
  refine AJ 4 (h:=?_)
  refine AJ 5 (h:=?_)
  refine AF 6 (h:=?_)
  refine AJ 7 (h:=?_)
  refine AF 8 (h:=?_)
  refine AJ 9 (h:=?_)
  refine c_ 10 rfl (AK (WP s F.1.dir F.1.name hsb) ?_)
  rintro r rfl
  refine o_ (h:=Gm 11 (h:=?_))
  refine B0 12 rfl (Aw rfl rfl rfl rfl rfl rfl (by repeat constructor) (by repeat constructor) ?_)
  refine o_ (h:=BC 13 (h:=z_ (h:=t_ (A6 (A7 (?_))))))
  refine AB ?_
  rw[hw,if_neg k1,if_neg k2,if_neg k3,if_neg k6]
  rfl
 have hc5:=bp hb5
 have k3:k=2:=by simp at k1;omega
 refine AG (q_ (w_ (f_ (h:=l_ (h:=BA (h:=e_ (?_)))))))
 refine A8 rfl (fun hb7=>?_) (fun hb7=>?_)
 ·have hc7:=bp hb7
  have k4:F.1.ex=false:=by simpa using hc7
  refine w_ (AT (h:=s_ (h:=a_ (h:=e_ (A6 (A7 (?_)))))))
  refine AB ?_
  rw[hw,if_neg k1,if_neg k2,if_pos k3,if_pos k4]
  rfl
 have hc7:=bp hb7
 have k4:¬F.1.ex=false:=by simpa using hc7
 refine AG (q_ (w_ (l_ (h:=f_ (h:=l_ (h:=?_))))))
 refine A4 rfl (AK (RZ s F.1.file hsb) ?_)
 rintro r rfl
 refine BA (h:=e_ (?_))
 refine A8 rfl (fun hb8=>?_) (fun hb8=>?_)
 ·have hc8:=bp hb8
  have k5:AX s.files F.1.file=false:=by simpa using hc8
  refine w_ (AT (h:=s_ (h:=a_ (h:=e_ (A6 (A7 (?_)))))))
  refine AB ?_
  rw[hw,if_neg k1,if_neg k2,if_pos k3,if_neg k4,if_pos k5]
  rfl
 have hc8:=bp hb8
 have k5:¬AX s.files F.1.file=false:=by simpa using hc8
 refine AG (w_ (m_ (h:=f_ (h:=l_ (h:=AT (h:=s_ (h:=a_ (h:=e_ (A6 (?_))))))))))
 refine AB ?_
 rw[hw,if_neg k1,if_neg k2,if_pos k3,if_neg k4,if_neg k5]
 rfl
end
def H5:List AV:=[.v (.int .i64 0), .v (.int .i64 0), .v (.int .i64 0), .v (.string ⟨#[]⟩), .v (.int .i64 0), .v (.int .i64 0)]
theorem WQ{α:Type}{l:List α}{j:Nat}{x:α}(h:l[j]?=some x)(p:α→Bool):(l.take (j+1)).any p=((l.take j).any p||p x):=by
 rw[List.take_add_one,h,List.any_append]
 simp
def KZ(w:Wch)(l:List Dj):A9:=l.foldl (fun a c=>if c.1=w.dir∧c.2.1=w.name then c.2.2.2 else a) w.file
theorem WR{w:Wch}{l:List Dj}{j:Nat}{c:Dj}(h:l[j]?=some c):KZ w (l.take (j+1))=if(decide (c.1=w.dir)&&decide (c.2.1=w.name))=true then c.2.2.2 else KZ w (l.take j):=by
 unfold KZ
 rw[List.take_add_one,h,List.foldl_append]
 simp
def N4(w:Wch)(l:List Dj):A9:=if w.kind=1 then KZ w l else w.file
theorem iJ(w:Wch)(l:List Dj):RX w l={w with file:=N4 w l}:=by
 unfold RX N4 KZ
 split<;>rfl
def Hq(w:Wch)(g:Int):Bool:=(!decide (w.kind=1)&& !decide (w.kind=2))||(!decide (g=0)&&decide (g=(DE w).1))
def H6(w:Wch)(l:List Dj):Bool:=l.any fun c=>decide (c.2.2.1=DE w)
def H7(w:Wch)(l:List Dj):Bool:=l.any fun c=>decide (c.2.2.2=DE w)
theorem WS{w:Wch}{l:List Dj}{j:Nat}{c:Dj}(h:l[j]?=some c):H6 w (l.take (j+1))=(H6 w (l.take j)||decide (c.2.2.1=DE w)):=WQ h _
theorem WT{w:Wch}{l:List Dj}{j:Nat}{c:Dj}(h:l[j]?=some c):H7 w (l.take (j+1))=(H7 w (l.take j)||decide (c.2.2.2=DE w)):=WQ h _
theorem iK(w:Wch)(g:Int)(l:List Dj):Og w g l=if(Hq w g||(H6 w l&& !H7 w l))=true then(FG,false)else({w with file:=N4 w l},true):=by
 rw[←iJ]
 unfold Og
 have:((w.kind≠1∧w.kind≠2)∨(g≠0∧g=(DE w).1)∨((l.any fun c=>decide (c.2.2.1=DE w))=true∧(l.any fun c=>decide (c.2.2.2=DE w))=false))↔(Hq w g||(H6 w l&& !H7 w l))=true:=by
  unfold Hq H6 H7
  simp[or_assoc]
 by_cases h:(Hq w g||(H6 w l&& !H7 w l))=true
 ·rw[if_pos h,if_pos (this.2 h)]
 rw[if_neg h,if_neg (fun k=>h (this.1 k))]
section
theorem WU(s:Spc)(w:Wch)(hs:SpcB s):AFn Tryz.prog 24 [.agg (Ai s), .agg (Ch w)] (fun r=>r=Oh (H4 s w)):=by
 refine enter Tryz.func24 rfl rfl rfl rfl rfl 0 rfl ?_
 refine w_ (b_ (h:=b_ (h:=AW (h:=a_ (h:=e_ (q_ (?_)))))))
 refine B5 (fun S=>S=⟨look [(2, .bp 0 0),(3, .bp 1 0),(4, .bp 2 0),(20, .v (.bool ((!decide (w.kind=1)&& !decide (w.kind=2))|| !JL s (DE w))))],⟨[Ai s,Ch w,H5],[]⟩⟩) ?_ ?_
 ·skip
  refine DT 15 (h:=AF 0 (h:=AJ 1 (h:=Kt 2 (h:=AN 3 (h:=?_)))))
  refine Hu (j:=3) rfl (fun hb1=>?_) (fun hb1=>?_)
  ·have hc1:=bp hb1
   refine AF 4 (h:=AJ 5 (h:=Kt 6 (h:=Hy 7 (h:=AN 8 (h:=?_)))))
   refine Hu (j:=8) rfl (fun hb2=>?_) (fun hb2=>?_)
   ·have hc2:=bp hb2
    refine BX 9 (h:=BX 10 (h:=BX 11 (h:=BX 12 (h:=BX 13 (h:=Hy 14 (h:=z_ (h:=?_)))))))
    refine AD ?_
    exact⟨_,rfl,C4 3 0 rfl⟩
   have hc2:=bp hb2
   refine AJ 9 (h:=AJ 10 (h:=?_))
   refine c_ 11 rfl (AK (Ra w (by omega)) ?_)
   rintro r rfl
   refine o_ (h:=?_)
   refine c_ 12 rfl (AK (WO s (DE w) hs) ?_)
   rintro r rfl
   refine o_ (h:=PY 13 (h:=Ft 14 (h:=z_ (h:=?_))))
   refine AD ?_
   exact⟨_,rfl,C4 3 0 rfl⟩
  have hc1:=bp hb1
  refine BX 4 (h:=BX 5 (h:=BX 6 (h:=Ft 7 (h:=AN 8 (h:=AJ 9 (h:=AJ 10 (h:=?_)))))))
  refine c_ 11 rfl (AK (Ra w (by omega)) ?_)
  rintro r rfl
  refine o_ (h:=?_)
  refine c_ 12 rfl (AK (WO s (DE w) hs) ?_)
  rintro r rfl
  refine o_ (h:=PY 13 (h:=Ft 14 (h:=z_ (h:=?_))))
  refine AD ?_
  exact⟨_,rfl,C4 3 0 rfl⟩
 rintro S rfl
 refine A8 rfl (fun hb3=>?_) (fun hb3=>?_)
 ·have hc3:=bp hb3
  have k1:(w.kind≠1∧w.kind≠2)∨JL s (DE w)=false:=by simpa using hc3
  refine w_ (AT (h:=s_ (h:=a_ (h:=e_ (A6 (A7 (?_)))))))
  refine AB ?_
  rw[H4,if_pos k1]
  rfl
 have hc3:=bp hb3
 have k1:¬((w.kind≠1∧w.kind≠2)∨JL s (DE w)=false):=by simpa using hc3
 refine AG (q_ (w_ (f_ (h:=l_ (h:=AQ (h:=e_ (?_)))))))
 refine A8 rfl (fun hb4=>?_) (fun hb4=>?_)
 ·have hc4:=bp hb4
  have k2:w.kind=1:=hc4
  refine AP (l_ (h:=f_ (h:=l_ (h:=f_ (h:=l_ (h:=?_))))))
  refine A4 rfl (AK (WP s w.dir w.name hs) ?_)
  rintro r rfl
  refine f_ (h:=s_ (h:=e_ (w_ (l_ (h:=s_ (h:=a_ (h:=e_ (A6 (?_)))))))))
  refine AB ?_
  rw[H4,if_neg k1,if_pos k2]
  rfl
 have hc4:=bp hb4
 have k2:¬w.kind=1:=hc4
 refine AG (w_ (l_ (h:=s_ (h:=a_ (h:=e_ (A6 (?_)))))))
 refine AB ?_
 rw[H4,if_neg k1,if_neg k2]
 rfl
theorem iL(w:Wch)(r:Res)(hl:r.changes.length≤1000):AFn Tryz.prog 33 [.agg (Ch w), .agg (E9 r)] (fun x=>x=Oh (Og w r.gone r.changes)):=by
 rw[iK]
 refine enter Tryz.func33 rfl rfl rfl rfl rfl 0 rfl ?_
 refine w_ (b_ (h:=b_ (h:=AW (h:=a_ (h:=e_ (q_ (?_)))))))
 refine B5 (fun S=>S=⟨look [(2, .bp 0 0),(3, .bp 1 0),(4, .bp 2 0),(20, .v (.bool (!decide (w.kind=1)&& !decide (w.kind=2))))],⟨[Ch w,E9 r,H5],[]⟩⟩) ?_ ?_
 ·skip
  refine AP (f_ (h:=l_ (h:=BF (h:=m_ (h:=?_)))))
  refine Ax true rfl rfl (fun hb1=>?_) (fun hb1=>?_)
  ·have hc1:=bp hb1
   refine f_ (h:=l_ (h:=BF (h:=Af (h:=AO (?_)))))
   refine AD ?_
   exact⟨_,rfl,C4 3 0 rfl⟩
  have hc1:=bp hb1
  refine A3 (h:=A3 (h:=A3 (h:=Am (h:=AO (?_)))))
  refine AD ?_
  exact⟨_,rfl,C4 3 0 rfl⟩
 rintro S rfl
 refine A8 rfl (fun hb2=>?_) (fun hb2=>?_)
 ·have hc2:=bp hb2
  have k1:(Hq w r.gone||(H6 w r.changes&& !H7 w r.changes))=true:=by simp[Hq]at hc2 ⊢;simp[hc2]
  refine w_ (AT (h:=s_ (h:=a_ (h:=e_ (A6 (A7 (?_)))))))
  refine AB ?_
  rw[if_pos k1]
  rfl
 have hc2:=bp hb2
 have k0:w.kind=1∨w.kind=2:=by simp at hc2;omega
 refine AG (w_ (l_ (h:=?_)))
 refine A4 rfl (AK (Ra w k0) ?_)
 rintro r rfl
 refine AW (h:=s_ (h:=e_ (q_ (?_))))
 refine B5 (fun S=>S=⟨look [(2, .bp 0 0),(3, .bp 1 0),(4, .bp 2 0),(6, .bp 3 0),(33, .v (.bool (!decide (r.gone=0)&&decide (r.gone=(DE w).1))))],⟨[Ch w,E9 r,H5,AA (DE w)],[]⟩⟩) ?_ ?_
 ·skip
  refine AP (f_ (h:=l_ (h:=BF (h:=m_ (h:=?_)))))
  refine Ax true rfl rfl (fun hb3=>?_) (fun hb3=>?_)
  ·have hc3:=bp hb3
   refine f_ (h:=l_ (h:=f_ (h:=l_ (h:=AQ (h:=Af (h:=AO (?_)))))))
   refine AD ?_
   exact⟨_,rfl,C4 4 0 rfl⟩
  have hc3:=bp hb3
  refine A3 (h:=A3 (h:=A3 (h:=A3 (h:=A3 (h:=Am (h:=AO (?_)))))))
  refine AD ?_
  exact⟨_,rfl,C4 4 0 rfl⟩
 rintro S rfl
 refine A8 rfl (fun hb4=>?_) (fun hb4=>?_)
 ·have hc4:=bp hb4
  have k1:(Hq w r.gone||(H6 w r.changes&& !H7 w r.changes))=true:=by unfold Hq;rw[hb4];simp
  refine w_ (AT (h:=s_ (h:=a_ (h:=e_ (A6 (A7 (?_)))))))
  refine AB ?_
  rw[if_pos k1]
  rfl
 have hc4:=bp hb4
 have k1:Hq w r.gone=false:=by unfold Hq;rw[hb4];rcases k0 with h|h<;>simp[h]
 refine AG (w_ (a_ (h:=a_ (h:=e_ (q_ (w_ (f_ (h:=l_ (h:=n_ (h:=m_ (h:=e_ (Ao (?_)))))))))))))
 refine Ba (fun m S=>∃j:Nat,j≤r.changes.length∧m=r.changes.length - j∧S=⟨look [(2, .bp 0 0),(3, .bp 1 0),(4, .bp 2 0),(6, .bp 3 0),(7, .v (.bool (H6 w (r.changes.take j)))),(8, .v (.bool (H7 w (r.changes.take j)))),(36, .sl 7 (r.changes.map CK) none),(37, .v (.int .i64 ((r.changes.map CK).length:Int))),(38, .v (.int .i64 (j:Int)))],⟨[Ch w,E9 r,H5,AA (DE w)],[]⟩⟩) (r.changes.length) ((wk 4 0)) (⟨0,Nat.zero_le _,rfl,rfl⟩) ?_
 rintro m S ⟨j,hj,rfl,rfl⟩
 refine w_ (BJ (h:=e_ (q_ (?_))))
 refine A8 rfl (fun hb5=>?_) (fun hb5=>?_)
 ·have hc5:=bp hb5
  obtain⟨hlt,c,hy,hrow, -⟩:=CW CK hc5
  refine AG (q_ (Ao (w_ (i_ (h:=l_ (h:=AW (h:=s_ (h:=e_ (?_)))))))))
  refine B5 (fun S=>S=⟨look [(2, .bp 0 0),(3, .bp 1 0),(4, .bp 2 0),(6, .bp 3 0),(7, .v (.bool (H6 w (r.changes.take j)||decide (c.2.2.1=DE w)))),(8, .v (.bool (H7 w (r.changes.take j)))),(10, .bp 4 0),(36, .sl 7 (r.changes.map CK) none),(37, .v (.int .i64 ((r.changes.map CK).length:Int))),(38, .v (.int .i64 (j:Int)))],⟨[Ch w,E9 r,H5,AA (DE w),CK c],[]⟩⟩) ?_ ?_
  ·skip
   refine AP (m_ (h:=m_ (h:=?_)))
   refine Ax false rfl rfl (fun hb6=>?_) (fun hb6=>?_)
   ·have hc6:=bp hb6
    refine A3 (h:=A3 (h:=A3 (h:=A3 (h:=Af (h:=a_ (h:=AO (?_)))))))
    refine AD ?_
    exact⟨_,rfl,C4 5 0 rfl⟩
   have hc6:=bp hb6
   refine f_ (h:=l_ (h:=l_ (h:=?_)))
   refine B6 (F1 rfl rfl (by repeat constructor) (by repeat constructor) (fun W=>N3 c.2.2.1 (DE w) W) (by kernel_rfl) ?_)
   refine Am (h:=a_ (h:=AO (?_)))
   refine AD ?_
   exact⟨_,rfl,C4 5 0 rfl⟩
  rintro S rfl
  refine AP (m_ (h:=m_ (h:=?_)))
  refine Ax false rfl rfl (fun hb7=>?_) (fun hb7=>?_)
  ·have hc7:=bp hb7
   refine A3 (h:=A3 (h:=A3 (h:=A3 (h:=Af (h:=a_ (h:=AO (Ay (t_ (AP (B8 (h:=m_ (h:=AO (?_)))))))))))))
   refine AD ?_
   refine⟨_,_,?_,⟨j+1,by omega,rfl,rfl⟩,?_⟩
   ·omega
   rw[WS hy,WT hy]
   exact C4 4 0 rfl
  have hc7:=bp hb7
  refine f_ (h:=l_ (h:=l_ (h:=?_)))
  refine B6 (F1 rfl rfl (by repeat constructor) (by repeat constructor) (fun W=>N3 c.2.2.2 (DE w) W) (by kernel_rfl) ?_)
  refine Am (h:=a_ (h:=AO (Ay (t_ (AP (B8 (h:=m_ (h:=AO (?_)))))))))
  refine AD ?_
  refine⟨_,_,?_,⟨j+1,by omega,rfl,rfl⟩,?_⟩
  ·omega
  rw[WS hy,WT hy]
  exact C4 4 0 rfl
 have hc5:=bp hb5
 have e:=Ck CK hj hc5
 subst e
 rw[List.take_length]
 refine BO (Aq (Aq (BQ (t_ (q_ (?_))))))
 refine B5 (fun S=>S=⟨look [(2, .bp 0 0),(3, .bp 1 0),(4, .bp 2 0),(61, .v (.bool (H6 w r.changes&& !H7 w r.changes)))],⟨[Ch w,E9 r,H5],[]⟩⟩) ?_ ?_
 ·skip
  refine AP (m_ (h:=m_ (h:=?_)))
  refine Ax true rfl rfl (fun hb8=>?_) (fun hb8=>?_)
  ·have hc8:=bp hb8
   refine m_ (h:=BA (h:=Af (h:=AO (?_))))
   refine AD ?_
   exact⟨_,rfl,C4 3 0 rfl⟩
  have hc8:=bp hb8
  refine A3 (h:=A3 (h:=Am (h:=AO (?_))))
  refine AD ?_
  exact⟨_,rfl,C4 3 0 rfl⟩
 rintro S rfl
 refine A8 rfl (fun hb9=>?_) (fun hb9=>?_)
 ·have hc9:=bp hb9
  refine w_ (AT (h:=s_ (h:=a_ (h:=e_ (A6 (A7 (?_)))))))
  refine AB ?_
  rw[if_pos (by simp[*])]
  rfl
 have hc9:=bp hb9
 refine AG (q_ (w_ (f_ (h:=l_ (h:=AQ (h:=e_ (?_)))))))
 refine A8 rfl (fun hb10=>?_) (fun hb10=>?_)
 ·have hc10:=bp hb10
  have k3:w.kind=1:=hc10
  refine w_ (f_ (h:=l_ (h:=n_ (h:=m_ (h:=e_ (Ao (?_)))))))
  refine Ba (fun m S=>∃j:Nat,j≤r.changes.length∧m=r.changes.length - j∧S=⟨look [(2, .bp 0 0),(3, .bp 1 0),(4, .bp 2 0),(67, .sl 7 (r.changes.map CK) none),(68, .v (.int .i64 ((r.changes.map CK).length:Int))),(69, .v (.int .i64 (j:Int)))],⟨[Ch {w with file:=KZ w (r.changes.take j)},E9 r,H5],[]⟩⟩) (r.changes.length) ((wk 3 0)) (⟨0,Nat.zero_le _,rfl,rfl⟩) ?_
  rintro m S ⟨j,hj,rfl,rfl⟩
  refine w_ (BJ (h:=e_ (q_ (?_))))
  refine A8 rfl (fun hb11=>?_) (fun hb11=>?_)
  ·have hc11:=bp hb11
   obtain⟨hlt,c,hy,hrow, -⟩:=CW CK hc11
   refine AG (q_ (Ao (w_ (i_ (h:=l_ (h:=AW (h:=s_ (h:=e_ (?_)))))))))
   refine B5 (fun S=>S=⟨look [(2, .bp 0 0),(3, .bp 1 0),(4, .bp 2 0),(12, .bp 3 0),(67, .sl 7 (r.changes.map CK) none),(68, .v (.int .i64 ((r.changes.map CK).length:Int))),(69, .v (.int .i64 (j:Int))),(84, .v (.bool (decide (c.1=w.dir)&&decide (c.2.1=w.name))))],⟨[Ch {w with file:=KZ w (r.changes.take j)},E9 r,H5,CK c],[]⟩⟩) ?_ ?_
   ·skip
    refine AP (f_ (h:=l_ (h:=f_ (h:=l_ (h:=?_)))))
    refine A4 rfl (F1 rfl rfl (by repeat constructor) (by repeat constructor) (fun W=>N3 c.1 w.dir W) (by kernel_rfl) ?_)
    refine m_ (h:=?_)
    refine Ax true rfl rfl (fun hb12=>?_) (fun hb12=>?_)
    ·have hc12:=bp hb12
     refine f_ (h:=l_ (h:=f_ (h:=l_ (h:=AQ (h:=Af (h:=AO (?_)))))))
     refine AD ?_
     exact⟨_,rfl,C4 4 0 rfl⟩
    have hc12:=bp hb12
    refine A3 (h:=A3 (h:=A3 (h:=A3 (h:=A3 (h:=Am (h:=AO (?_)))))))
    refine AD ?_
    exact⟨_,rfl,C4 4 0 rfl⟩
   rintro S rfl
   refine A8 rfl (fun hb13=>?_) (fun hb13=>?_)
   ·have hc13:=bp hb13
    refine AP (f_ (h:=l_ (h:=f_ (h:=s_ (h:=AO (Ay (t_ (AP (B8 (h:=m_ (h:=AO (?_))))))))))))
    refine AD ?_
    refine⟨_,_,?_,⟨j+1,by omega,rfl,rfl⟩,?_⟩
    ·omega
    rw[WR hy]
    (rw[if_pos ‹(decide (c.1=w.dir)&&decide (c.2.1=w.name))=true›];exact Az 3 0 rfl rfl rfl rfl ((by repeat (first|exact Sub.nil|refine Sub.cons _ _ _ rfl rfl ?_|refine Sub.any _ _ ?_|refine Sub.sl _ _ _ _ _ rfl ?_|refine Sub.slnil _ _ _ rfl ?_))))
   have hc13:=bp hb13
   refine BB (Ay (t_ (AP (B8 (h:=m_ (h:=AO (?_)))))))
   refine AD ?_
   refine⟨_,_,?_,⟨j+1,by omega,rfl,rfl⟩,?_⟩
   ·omega
   rw[WR hy]
   first|(rw[if_pos ‹(decide (c.1=w.dir)&&decide (c.2.1=w.name))=true›];exact Az 3 0 rfl rfl rfl rfl ((by repeat (first|exact Sub.nil|refine Sub.cons _ _ _ rfl rfl ?_|refine Sub.any _ _ ?_|refine Sub.sl _ _ _ _ _ rfl ?_|refine Sub.slnil _ _ _ rfl ?_))))|(rw[if_neg (by simp[*])];exact Az 3 0 rfl rfl rfl rfl ((by repeat (first|exact Sub.nil|refine Sub.cons _ _ _ rfl rfl ?_|refine Sub.any _ _ ?_|refine Sub.sl _ _ _ _ _ rfl ?_|refine Sub.slnil _ _ _ rfl ?_))))
  have hc11:=bp hb11
  have e:=Ck CK hj hc11
  subst e
  rw[List.take_length]
  refine BO (Aq (Aq (BQ (t_ (w_ (l_ (h:=s_ (h:=a_ (h:=e_ (A6 (?_)))))))))))
  refine AB ?_
  rw[if_neg (by simp[*]),N4,if_pos k3]
  rfl
 have hc10:=bp hb10
 have k3:¬w.kind=1:=hc10
 refine AG (w_ (l_ (h:=s_ (h:=a_ (h:=e_ (A6 (?_)))))))
 refine AB ?_
 rw[if_neg (by simp[*]),N4,if_neg k3]
 rfl
end
section
theorem iM(l:List Int)(a:Nat)(ha:a≤100000000000):Fq Tryz.prog 15 l a [] 4 (fun r=>∃s:ByteArray,r= .v (.string s)∧s.size≤60):=by
 refine enter Tryz.func15 rfl rfl rfl rfl rfl 1 rfl ?_
 refine w_ (a_ (h:=e_ (w_ (a_ (h:=e_ (q_ (w_ (m_ (h:=Bm (h:=?_))))))))))
 refine A4 rfl (BU 0 (hc:=Jj l _ _ (fun z=>decide (1≤z∧z≤3)) (by omega) (by rfl) (by rfl) (by rfl)) (hR:=?_))
 rintro r a1 ha1 ⟨k1,rfl,p1⟩
 refine⟨rfl,_,(by repeat constructor),?_⟩
 obtain⟨hz1,hz2⟩:=of_decide_eq_true p1
 obtain⟨m,rfl⟩:=Int.eq_ofNat_of_zero_le (show 0≤k1 by omega)
 refine a_ (h:=e_ (Ao (?_)))
 refine Ba (fun n s=>∃(j a1:Nat) (t:ByteArray),j≤m∧n=j∧a1≤a+1+(m - j)∧t.size≤2 * (m - j)∧s=⟨look [(0, .bp 0 0),(3, .v (.string t)),(4, .v (.int .i64 (j:Int)))],⟨[DY l a1],[]⟩⟩) (m) ((wk 1 0)) (⟨m,a1,⟨#[]⟩,by omega,rfl,by omega,by rw[Nat.sub_self];exact Nat.le_refl 0,rfl⟩) ?_
 rintro n s ⟨j,b1,t,hj,hn,hb1,ht,rfl⟩
 subst n
 refine q_ (w_ (m_ (h:=CZ (h:=e_ (?_)))))
 refine A8 rfl (fun hb1=>?_) (fun hb1=>?_)
 ·have hc1:=bp hb1
  refine AG (q_ (Ao (AP (m_ (h:=m_ (h:=Bm (h:=?_)))))))
  refine A4 rfl (BU 0 (hc:=LC l _ _ (fun s=>decide (s.size≤1)) (by omega) (by rfl) (by rfl) (by rfl)) (hR:=?_))
  rintro r a2 ha2 ⟨k2,rfl,p2⟩
  refine⟨rfl,_,(by repeat constructor),?_⟩
  have hw:=of_decide_eq_true p2
  refine A4 rfl (Ej rfl rfl (by show 1+k2.size≤_;omega) ?_)
  refine A4 rfl (Ej rfl rfl (by have e:=ByteArray.size_append (a:=⟨#[47]⟩) (b:=k2);have:(⟨#[47]⟩:ByteArray).size=1:=rfl;omega) ?_)
  refine a_ (h:=AO (Ay (t_ (AP (m_ (h:=Ns (h:=a_ (h:=AO (?_)))))))))
  refine AD ?_
  obtain⟨j,rfl⟩:∃i,j=i+1:=⟨j - 1,by omega⟩
  refine⟨_,_,?_,⟨j,_,_,by omega,rfl,?_,?_,rfl⟩,Az 1 0 rfl rfl rfl rfl (by repeat (first|exact Sub.nil|refine Sub.cons _ _ _ rfl rfl ?_|(apply Sub.of;(focus exact rfl);(focus exact LeA.of_eq (vi (by omega)));(focus exact rfl))))⟩
  ·omega
  ·omega
  have e:=ByteArray.size_append (a:=⟨#[47]⟩) (b:=k2)
  have e2:=ByteArray.size_append (a:=t) (b:=⟨#[47]⟩++k2)
  have:(⟨#[47]⟩:ByteArray).size=1:=rfl
  omega
 have hc1:=bp hb1
 refine BO (Aq (Aq (BQ (t_ (w_ (m_ (h:=a_ (h:=e_ (A6 (?_))))))))))
 refine Aj none (h5:=(LeA.refl _)) (h6:=⟨_,rfl,rfl,b1,by omega,rfl,t,rfl,by omega⟩)
end
def Bare(s:Spc):Prop:=FlsV s.files∧0<s.files.length∧s.mounts=[]
theorem Bare.v{s:Spc}(h:Bare s):SpcV s:=⟨h.1,h.2.1,fun i m hm=>by rw[h.2.2]at hm;cases hm⟩
theorem Bare.m{s:Spc}(h:Bare s):s.mounts.length≤1000:=by rw[h.2.2];exact Nat.zero_le _
theorem WV{w:Wrk}{R:DP}(h:Bare w.s.spc)(hR:JC w.s.spc.files R):Bare (BN w R).1.s.spc:=by
 unfold BN
 split
 ·rename_i h0
  obtain⟨k1,k2⟩:=hR h0
  exact⟨k1,by show 0<R.1.length;rw[k2];exact h.2.1,h.2.2⟩
 exact h
theorem GC:TabB DH:=⟨Nat.zero_le _,(fun p hp=>by cases hp),by decide,by decide⟩
theorem WW{t:Tab}(ht:TabB t)(pid:Int)(a:A9)(fl:Int):TabB (EW t pid a fl).1:=by
 unfold EW
 split
 ·exact GC
 split
 ·exact GC
 rename_i h8
 refine⟨by simpa[FN]using ht.few,fun p hp=>?_,ht.next,ht.nextS⟩
 simp only[FN,List.mem_map]at hp
 obtain⟨x,hx,rfl⟩:=hp
 split
 ·simp[LL]
  omega
 exact ht.opens x hx
theorem Rc{w:Wrk}{R:Tab×Int}(h:TabB w.s.tab)(hR:TabB R.1):TabB (C2 w R).1.s.tab:=by
 unfold C2
 split
 ·exact hR
 exact h
theorem WX(w:Wrk)(R:DP):(BN w R).1.s.tab=w.s.tab:=by
 unfold BN
 split<;>rfl
theorem Oi(w:Wrk)(R:Tab×Int):(C2 w R).1.s.spc=w.s.spc:=by
 unfold C2
 split<;>rfl
def Eg(s:Syst):Prop:=Bare s.spc∧TabB s.tab
theorem WY{w:Wrk}{i:Nat}{n:Nod}(h:Eg w.s):Eg (CO w i n).1.s:=by
 unfold CO
 split
 ·exact⟨WV h.1 (Qe h.1.1 _ _ _),by show TabB (BN w _).1.s.tab;rw[WX];exact h.2⟩
 exact h
theorem WZ{w:Wrk}(h:Eg w.s)(a:A9):Eg (G7 w a).1.s:=by
 unfold G7
 exact⟨by rw[Oi];exact h.1,Rc h.2 (WW h.2 _ _ _)⟩
theorem iN{w:Wrk}(h:Eg w.s):Eg (C8 w).1.s:=by
 unfold C8
 repeat' split
 all_goals first|with_reducible exact WY h|with_reducible exact WZ h _|with_reducible exact WZ (WY h) _|exact h
theorem iO{w:Wrk}{R:DP}{x:A9}(h:Eg w.s)(hR:JC w.s.spc.files R):Eg (Gb w R x).1.s:=by
 have hf:Eg (BN w R).1.s:=⟨WV h.1 hR,by rw[WX];exact h.2⟩
 unfold Gb
 repeat' split
 all_goals first|exact h|exact hf
theorem iP{w:Wrk}(h:Eg w.s):Eg (Df w).1.s:=by
 have hf:FlsV w.s.spc.files:=h.1.1
 unfold Df
 repeat' split
 all_goals first|with_reducible exact iO h (Qf hf _ _ _ _)|exact h
theorem Rd{s:Syst}{pid:Int}{c:Cal}(h:Eg s)(h6:c.num=6∨c.num=13):Eg (C3 s pid c).1:=by
 have ha:Eg (B9 (EZ s pid c)).1.s:=by
  rcases h6 with h6|h6
  ·rw[B9,if_pos (show(EZ s pid c).c.num=6 from h6)];exact iN h
  have h13:(EZ s pid c).c.num=13:=h6
  rw[B9,if_neg (show¬(EZ s pid c).c.num=6 by omega),if_neg (show¬(EZ s pid c).c.num=8 by omega),if_neg (show¬((EZ s pid c).c.num=10∨(EZ s pid c).c.num=12) by omega),if_pos h13];exact iP h
 unfold C3
 repeat' split
 all_goals first|exact h|exact ha
theorem Oj:Eg (Gd 1).1:=by
 have h:=UF (k:=1) (by decide) (by decide)
 have e:(Gd 1).1=⟨⟨(ER 1).1,[]⟩,LH (0,1)⟩:=by
  unfold Gd
  rw[if_neg (by decide)]
 rw[e]
 exact⟨⟨h.1,h.2,rfl⟩,⟨by decide,by decide,by decide,by decide⟩⟩
def LV(a:UInt8):AE:=⟨#[47,a]⟩
def Hr(a:UInt8):Cal:=⟨6,6,420,0,0,[LV a],[]⟩
def Ok:Cal:=⟨13,0,0,0,0,[LV 98,LV 97],[]⟩
def LW:Syst:=(Gd 1).1
def Ka:Syst:=(C3 LW 1 (Hr 97)).1
def JM:Syst:=(C3 Ka 1 (Hr 98)).1
def LX:Syst:=(C3 JM 1 Ok).1
def LY:Res:=(C3 JM 1 Ok).2
def JN:Wch:=(GB JM.spc 1 (LV 97)).1
def N5:Wch:=(H4 LX.spc JN).1
set_option maxRecDepth 100000 in
theorem iQ:(GB JM.spc 1 (LV 97)).2=0∧JN.file.2=2∧(H4 LX.spc JN).2=true∧Og JN LY.gone LY.changes=(N5,true)∧N5.file.2=3∧LY.changes.length≤1000∧JN.name.size≤100∧(Gd 1).2=0:=by decide+kernel
theorem Ol:Eg Ka:=Rd Oj (.inl rfl)
theorem LZ:Eg JM:=Rd Ol (.inl rfl)
theorem Wa:Eg LX:=Rd LZ (.inr rfl)
theorem iR(s:Spc)(k:Int)(p:AE):(GB s k p).1.name.size≤12:=by
 unfold GB
 repeat' split
 all_goals first|exact Nat.zero_le 12|exact RO _ _ _ _
def La(x:Wch):List Value:=[.int .i64 x.kind, .int .i64 x.dir.1, .int .i64 x.dir.2, .string x.name, .int .i64 x.file.1, .int .i64 x.file.2]
set_option maxRecDepth 10000 in
set_option maxHeartbeats 1000000 in
theorem Wc(op:BinOp)(x:Wch)(w:World)(h:op= .eql∨op= .neq):(binOp op 38 (.agg (La x).toArray) (.agg (La x).toArray)).run Tryz.prog w= .ok (.bool (decide (op= .eql))) w:=by
 have u3:=Tryz.underlying3
 have a3:=Tryz.isAgg3
 have z3:=Tryz.sizeOf3
 have u9:=Tryz.underlying9
 have a9:=Tryz.isAgg9
 have z9:=Tryz.sizeOf9
 have u5:=Tryz.underlying36
 have a5:=Tryz.isAgg36
 have z5:=Tryz.sizeOf36
 have hS:Tryz.prog.underlying 38=some (.struct (Tryz.prog.fieldsOf 38)):=by kernel_rfl
 have hp:Tryz.prog.stoodInHeld 38=false:=by kernel_rfl
 have hSF:Tryz.prog.underlying 36=some (.struct (Tryz.prog.fieldsOf 36)):=by kernel_rfl
 have hpF:Tryz.prog.stoodInHeld 36=false:=by kernel_rfl
 have eF:∀(d:Nat) (a b:Int) (w:World),(Op.equalIn (d+2) 36 (.agg #[.int .i64 a, .int .i64 b]) (.agg #[.int .i64 a, .int .i64 b])).run Tryz.prog w= .ok true w:=by
  intro d a b w
  rw[run_equalIn_agg w (d+1) 36 _ _ hSF hpF]
  simp only[Program.fieldsOf,Tryz.underlying36]
  go_simp
 have e:∀w,(Op.equalIn 10000 38 (.agg (La x).toArray) (.agg (La x).toArray)).run Tryz.prog w= .ok true w:=by
  intro w
  rw[show(10000:Nat)=9999+1 from rfl,run_equalIn_agg w 9999 38 _ _ hS hp]
  simp only[Program.fieldsOf,Tryz.underlying38,La]
  go_simp
 rcases h with rfl|rfl
 ·rw[run_eql_struct,e]
  rfl
 rw[run_neq_struct,e]
 rfl
theorem Om(x:Wch):AllV (Ch x) (La x):=by repeat constructor
theorem iS{ev:Operand→Option AV}{h:AH}{R:AV→AH→Prop}{d:Option Tmp}{ty:TypeId}{pos:String}{af:Array Edge}{gd:Option (Nat×Bool)}{yT:TypeId}{x y:Operand}(z:Wch)(hx:ev x=some (.agg (Ch z)))(hy:ev y=some (.agg (Ch z)))(hR:R (.v (.bool true)) h):AStep Tryz.prog ⟨d, .binOp .eql 38 x y yT,ty,pos,af,gd⟩ ev h R:=
 F1 hx hy (Om z) (Om z) (fun w=>Wc .eql z w (.inl rfl)) (by kernel_rfl) hR
theorem iT{ev:Operand→Option AV}{h:AH}{R:AV→AH→Prop}{d:Option Tmp}{ty:TypeId}{pos:String}{af:Array Edge}{gd:Option (Nat×Bool)}{yT:TypeId}{x y:Operand}(z:Wch)(hx:ev x=some (.agg (Ch z)))(hy:ev y=some (.agg (Ch z)))(hR:R (.v (.bool false)) h):AStep Tryz.prog ⟨d, .binOp .neq 38 x y yT,ty,pos,af,gd⟩ ev h R:=
 F1 hx hy (Om z) (Om z) (fun w=>Wc .neq z w (.inr rfl)) (by kernel_rfl) hR
section
theorem On:AFn Tryz.prog 11 [] (fun r=>r= .v (.bool true)):=by
 obtain⟨y1,y2,y3,y4,y5,y6,y7,y8⟩:=iQ
 have hnew:AFn Tryz.prog 44 [.v (.int .i64 1)] (fun r=>r= .tup [.agg (Bg LW), .v (.int .i64 0)]):=(Vg 1).mono fun r hr=>by rw[hr,Oc,y8];rfl
 have hr1:AFn Tryz.prog 35 [.agg (Bg LW), .v (.int .i64 1), .agg (D0 (Hr 97))] (fun r=>r= .tup [.agg (Bg Ka), .agg (E9 (C3 LW 1 (Hr 97)).2)]):=RV _ _ _ Oj.1.v Oj.1.m Oj.2 (by decide) (by decide) (.inl rfl)
 have hr2:AFn Tryz.prog 35 [.agg (Bg Ka), .v (.int .i64 1), .agg (D0 (Hr 98))] (fun r=>r= .tup [.agg (Bg JM), .agg (E9 (C3 Ka 1 (Hr 98)).2)]):=RV _ _ _ Ol.1.v Ol.1.m Ol.2 (by decide) (by decide) (.inl rfl)
 have hr3:AFn Tryz.prog 35 [.agg (Bg JM), .v (.int .i64 1), .agg (D0 Ok)] (fun r=>r= .tup [.agg (Bg LX), .agg (E9 LY)]):=RV _ _ _ LZ.1.v LZ.1.m LZ.2 (by decide) (by decide) (.inr rfl)
 have hpl:AFn Tryz.prog 17 [.agg (Ai JM.spc), .v (.int .i64 1), .v (.string (LV 97))] (fun r=>r= .tup [.agg (Ch JN), .v (.int .i64 0)]):=(iH _ _ _ LZ.1.v LZ.1.m (by decide)).mono fun r hr=>by rw[hr,RY,y1];rfl
 have hfo:AFn Tryz.prog 24 [.agg (Ai LX.spc), .agg (Ch JN)] (fun r=>r= .tup [.agg (Ch N5), .v (.bool true)]):=(WU _ _ (Wa.1.v.b Wa.1.m)).mono fun r hr=>by rw[hr,Oh,y3];rfl
 have hch:AFn Tryz.prog 33 [.agg (Ch JN), .agg (E9 LY)] (fun r=>r= .tup [.agg (Ch N5), .v (.bool true)]):=(iL _ _ y6).mono fun r hr=>by rw[hr,y4];rfl
 obtain⟨W,hW⟩:∃W,W=JN:=⟨_,rfl⟩
 obtain⟨U,hU⟩:∃U,U=N5:=⟨_,rfl⟩
 obtain⟨S0,hS0⟩:∃S,S=LW:=⟨_,rfl⟩
 obtain⟨S1,hS1⟩:∃S,S=Ka:=⟨_,rfl⟩
 obtain⟨S2,hS2⟩:∃S,S=JM:=⟨_,rfl⟩
 obtain⟨S3,hS3⟩:∃S,S=LX:=⟨_,rfl⟩
 obtain⟨R1,hR1⟩:∃R,R=(C3 LW 1 (Hr 97)).2:=⟨_,rfl⟩
 obtain⟨R2,hR2⟩:∃R,R=(C3 Ka 1 (Hr 98)).2:=⟨_,rfl⟩
 obtain⟨R3,hR3⟩:∃R,R=LY:=⟨_,rfl⟩
 rw[←hS0]at hnew
 rw[←hR1,←hS1,←hS0]at hr1
 rw[←hR2,←hS2,←hS1]at hr2
 rw[←hR3,←hS3,←hS2]at hr3
 rw[←hW,←hS2]at hpl
 rw[←hU,←hW,←hS3]at hfo
 rw[←hU,←hW,←hR3]at hch
 rw[←hW]at y2
 rw[←hU]at y5
 clear hW hU hS0 hS1 hS2 hS3 hR1 hR2 hR3 y1 y3 y4 y6 y7 y8
 refine enter Tryz.func11 rfl rfl rfl rfl rfl 0 rfl ?_
 refine w_ (a_ (h:=e_ (w_ (?_))))
 refine A4 rfl (AK (hnew) ?_)
 rintro r rfl
 refine m_ (h:=x_ (h:=x_ (h:=AW (h:=s_ (h:=a_ (h:=e_ (w_ (l_ (h:=AT (h:=Bm (h:=?_)))))))))))
 refine A4 rfl (EQ (y:= .agg (D0 (Hr 97))) (Ca ⟨rfl,rfl⟩) ?_)
 refine A4 rfl (AK (hr1) ?_)
 rintro r rfl
 refine m_ (h:=x_ (h:=x_ (h:=s_ (h:=e_ (w_ (l_ (h:=AT (h:=Bm (h:=?_)))))))))
 refine A4 rfl (EQ (y:= .agg (D0 (Hr 98))) (Ca ⟨rfl,rfl⟩) ?_)
 refine A4 rfl (AK (hr2) ?_)
 rintro r rfl
 refine m_ (h:=x_ (h:=x_ (h:=s_ (h:=e_ (w_ (f_ (h:=l_ (h:=?_))))))))
 refine A4 rfl (AK (hpl) ?_)
 rintro r rfl
 refine m_ (h:=x_ (h:=x_ (h:=AW (h:=s_ (h:=a_ (h:=e_ (w_ (l_ (h:=Bm (h:=?_))))))))))
 refine A4 rfl (EQ (y:= .agg (D0 Ok)) (Ca ⟨rfl,rfl⟩) ?_)
 refine A4 rfl (AK (hr3) ?_)
 rintro r rfl
 refine m_ (h:=x_ (h:=x_ (h:=AW (h:=AW (h:=s_ (h:=s_ (h:=e_ (w_ (f_ (h:=l_ (h:=l_ (h:=?_))))))))))))
 refine A4 rfl (AK (hfo) ?_)
 rintro r rfl
 refine m_ (h:=x_ (h:=x_ (h:=AW (h:=s_ (h:=a_ (h:=e_ (w_ (l_ (h:=l_ (h:=?_))))))))))
 refine A4 rfl (AK (hch) ?_)
 rintro r rfl
 refine m_ (h:=x_ (h:=x_ (h:=AW (h:=s_ (h:=a_ (h:=e_ (w_ (m_ (h:=AQ (h:=m_ (h:=?_)))))))))))
 refine Ax true rfl rfl (fun hb1=>?_) (fun hb1=>?_)
 ·have hc1:=bp hb1
  refine f_ (h:=f_ (h:=l_ (h:=AQ (h:=Af (h:=m_ (h:=?_))))))
  refine Ax true rfl rfl (fun hb2=>?_) (fun hb2=>?_)
  ·have hc2:=bp hb2
   refine m_ (h:=Af (h:=m_ (h:=?_)))
   refine Ax true rfl rfl (fun hb3=>?_) (fun hb3=>?_)
   ·have hc3:=bp hb3
    refine m_ (h:=Af (h:=m_ (h:=?_)))
    refine Ax true rfl rfl (fun hb4=>?_) (fun hb4=>?_)
    ·have hc4:=bp hb4
     refine l_ (h:=l_ (h:=?_))
     refine B6 (iS U rfl rfl ?_)
     refine Af (h:=m_ (h:=?_))
     refine Ax true rfl rfl (fun hb5=>?_) (fun hb5=>?_)
     ·have hc5:=bp hb5
      refine f_ (h:=f_ (h:=l_ (h:=AQ (h:=Af (h:=a_ (h:=e_ (A6 (?_))))))))
      refine AB ?_
      first|rfl|(exfalso;first|contradiction|omega)|exact vb (by simp[y5])
     have hc5:=bp hb5
     refine A3 (h:=A3 (h:=A3 (h:=A3 (h:=Am (h:=a_ (h:=e_ (A6 (?_))))))))
     refine AB ?_
     first|rfl|(exfalso;first|contradiction|omega)
    have hc4:=bp hb4
    refine A3 (h:=A3 (h:=A3 (h:=Am (h:=m_ (h:=A3 (h:=A3 (h:=A3 (h:=A3 (h:=Am (h:=a_ (h:=e_ (A6 (?_)))))))))))))
    refine AB ?_
    first|rfl|(exfalso;first|contradiction|omega)
   have hc3:=bp hb3
   refine A3 (h:=Am (h:=m_ (h:=A3 (h:=A3 (h:=A3 (h:=Am (h:=m_ (h:=A3 (h:=A3 (h:=A3 (h:=A3 (h:=Am (h:=a_ (h:=e_ (A6 (?_))))))))))))))))
   refine AB ?_
   first|rfl|(exfalso;first|contradiction|omega)
  have hc2:=bp hb2
  refine A3 (h:=Am (h:=m_ (h:=A3 (h:=Am (h:=m_ (h:=A3 (h:=A3 (h:=A3 (h:=Am (h:=m_ (h:=A3 (h:=A3 (h:=A3 (h:=A3 (h:=Am (h:=a_ (h:=e_ (A6 (?_)))))))))))))))))))
  refine AB ?_
  first|rfl|(exfalso;first|contradiction|omega)
 have hc1:=bp hb1
 refine A3 (h:=A3 (h:=A3 (h:=A3 (h:=Am (h:=m_ (h:=A3 (h:=Am (h:=m_ (h:=A3 (h:=Am (h:=m_ (h:=A3 (h:=A3 (h:=A3 (h:=Am (h:=m_ (h:=A3 (h:=A3 (h:=A3 (h:=A3 (h:=Am (h:=a_ (h:=e_ (?_))))))))))))))))))))))))
 refine A6 (?_)
 refine AB ?_
 first|rfl|(exfalso;first|contradiction|omega)
theorem iU(l:List Int)(a:Nat)(s:Spc)(ha:a≤100000000)(hv:SpcV s)(hm:s.mounts.length≤1000):Fq Tryz.prog 20 l a [.agg (Ai s)] 60 (fun r=>∃(w:Wch) (b:Bool),r=Oh (w,b)∧w.name.size≤100∧(b=true→∃k p,GB s k p=(w,0))∧(b=false→w=FG)):=by
 refine enter Tryz.func20 rfl rfl rfl rfl rfl 1 rfl ?_
 refine w_ (b_ (h:=AW (h:=a_ (h:=e_ (q_ (w_ (a_ (h:=e_ (Ao (?_))))))))))
 refine Ba (fun n S=>∃(j b:Nat),j≤6∧n=6 - j∧b≤a+10 * j∧S=⟨look [(0, .bp 0 0),(3, .bp 1 0),(4, .bp 2 0),(6, .v (.int .i64 (j:Int)))],⟨[DY l b,Ai s,H5],[]⟩⟩) (6) ((wk 3 0)) (⟨0,a,by omega,rfl,by omega,rfl⟩) ?_
 rintro n S ⟨j,b0,hj,rfl,hb0,rfl⟩
 refine q_ (w_ (m_ (h:=BJ (h:=e_ (?_)))))
 refine A8 rfl (fun hb1=>?_) (fun hb1=>?_)
 ·have hc1:=bp hb1
  refine AG (q_ (Ao (w_ (m_ (h:=?_)))))
  refine A4 rfl (BU 0 (hc:=iM l _ (by omega)) (hR:=?_))
  rintro r a1 ha1 ⟨p,rfl,hp⟩
  refine⟨rfl,_,(by repeat constructor),?_⟩
  refine a_ (h:=e_ (?_))
  refine B5 (fun S=>∃(q:AE) (b:Nat),q.size≤60∧b≤a+10 * j+5∧S=⟨look [(0, .bp 0 0),(3, .bp 1 0),(4, .bp 2 0),(6, .v (.int .i64 (j:Int))),(7, .v (.string q))],⟨[DY l b,Ai s,H5],[]⟩⟩) ?_ ?_
  ·skip
   refine w_ (m_ (h:=?_))
   refine A4 rfl (BU 0 (hc:=Gn l _ (8) (by omega) (by omega)) (hR:=?_))
   rintro r a2 ha2 ⟨k2,rfl,p2,q2,o2⟩
   refine⟨rfl,_,(by repeat constructor),?_⟩
   refine AQ (h:=e_ (?_))
   refine A8 rfl (fun hb2=>?_) (fun hb2=>?_)
   ·have hc2:=bp hb2
    refine AP (a_ (h:=AO (?_)))
    refine AD ?_
    (have h7:k2=7:=‹k2=7›;exact⟨_,⟨⟨#[47]⟩,_,(by decide),(by omega),rfl⟩,Az 3 0 rfl rfl rfl rfl ((by repeat (first|exact Sub.nil|refine Sub.cons _ _ _ rfl rfl ?_|refine Sub.any _ _ ?_|refine Sub.sl _ _ _ _ _ rfl ?_|refine Sub.slnil _ _ _ rfl ?_)))⟩)
   have hc2:=bp hb2
   refine BB (?_)
   refine AD ?_
   first|(have h7:k2=7:=‹k2=7›;exact⟨_,⟨⟨#[47]⟩,_,(by decide),(by omega),rfl⟩,Az 3 0 rfl rfl rfl rfl ((by repeat (first|exact Sub.nil|refine Sub.cons _ _ _ rfl rfl ?_|refine Sub.any _ _ ?_|refine Sub.sl _ _ _ _ _ rfl ?_|refine Sub.slnil _ _ _ rfl ?_)))⟩)|exact⟨_,⟨p,_,hp,(by omega),rfl⟩,Az 3 0 rfl rfl rfl rfl ((by repeat (first|exact Sub.nil|refine Sub.cons _ _ _ rfl rfl ?_|refine Sub.any _ _ ?_|refine Sub.sl _ _ _ _ _ rfl ?_|refine Sub.slnil _ _ _ rfl ?_)))⟩
  rintro S ⟨q,b,hq,hb,rfl⟩
  refine B5 (fun S=>∃(k:Int) (b:Nat),b≤a+10 * (j+1)∧S=⟨look [(0, .bp 0 0),(3, .bp 1 0),(4, .bp 2 0),(6, .v (.int .i64 (j:Int))),(8, .bp 3 0),(9, .v (.int .i64 (GB s k q).2))],⟨[DY l b,Ai s,H5,Ch (GB s k q).1],[]⟩⟩) ?_ ?_
  ·skip
   refine BH ([(1,Ai s)]) 11 (h:=?_)
   refine AJ 0 (h:=?_)
   refine AN 1 (h:=AN 3 (h:=?_))
   refine Da 2 8 rfl rfl ?_ ?_
   ·refine BU 0 (hc:=GT l _ (1) (2) (by omega) (by omega) (by omega) (by omega)) (hR:=?_)
    rintro r a3 ha3 ⟨k3,rfl,p3,q3⟩
    refine⟨rfl,_,(by repeat constructor),?_⟩
    refine o_ (h:=?_)
    refine Da 4 8 rfl rfl ?_ ?_
    ·refine AK (Rb s _ q hv hm (by omega)) ?_
     rintro r rfl
     refine o_ (h:=?_)
     refine AN 5 (h:=B4 6 (h:=B4 7 (h:=?_)))
     refine c_ 8 rfl (Bx (by repeat constructor) ?_)
     refine o_ (h:=?_)
     refine B0 9 rfl (Aw rfl rfl rfl rfl rfl rfl (by repeat constructor) (by repeat constructor) ?_)
     refine o_ (h:=BC 10 (h:=z_ (h:=?_)))
     refine AD ?_
     exact⟨_,⟨_,_,(by omega),rfl⟩,Az 4 0 rfl rfl rfl rfl ((by repeat (first|exact Sub.nil|refine Sub.cons _ _ _ rfl rfl ?_|refine Sub.any _ _ ?_|refine Sub.sl _ _ _ _ _ rfl ?_|refine Sub.slnil _ _ _ rfl ?_)))⟩
    refine Bx (by repeat constructor) ?_
    refine o_ (h:=?_)
    refine c_ 4 rfl (AK (Rb s _ q hv hm (by omega)) ?_)
    rintro r rfl
    refine o_ (h:=AN 5 (h:=B4 6 (h:=B4 7 (h:=?_))))
    refine B0 9 rfl (Aw rfl rfl rfl rfl rfl rfl (by repeat constructor) (by repeat constructor) ?_)
    refine o_ (h:=BC 10 (h:=z_ (h:=?_)))
    refine AD ?_
    exact⟨_,⟨_,_,(by omega),rfl⟩,Az 4 0 rfl rfl rfl rfl ((by repeat (first|exact Sub.nil|refine Sub.cons _ _ _ rfl rfl ?_|refine Sub.any _ _ ?_|refine Sub.sl _ _ _ _ _ rfl ?_|refine Sub.slnil _ _ _ rfl ?_)))⟩
   refine Bx (by repeat constructor) ?_
   refine o_ (h:=?_)
   refine c_ 2 rfl (BU 0 (hc:=GT l _ (1) (2) (by omega) (by omega) (by omega) (by omega)) (hR:=?_))
   rintro r a4 ha4 ⟨k4,rfl,p4,q4⟩
   refine⟨rfl,_,(by repeat constructor),?_⟩
   refine o_ (h:=?_)
   refine c_ 4 rfl (AK (Rb s _ q hv hm (by omega)) ?_)
   rintro r rfl
   refine o_ (h:=AN 5 (h:=B4 6 (h:=B4 7 (h:=?_))))
   refine B0 9 rfl (Aw rfl rfl rfl rfl rfl rfl (by repeat constructor) (by repeat constructor) ?_)
   refine o_ (h:=BC 10 (h:=z_ (h:=?_)))
   refine AD ?_
   exact⟨_,⟨_,_,(by omega),rfl⟩,Az 4 0 rfl rfl rfl rfl ((by repeat (first|exact Sub.nil|refine Sub.cons _ _ _ rfl rfl ?_|refine Sub.any _ _ ?_|refine Sub.sl _ _ _ _ _ rfl ?_|refine Sub.slnil _ _ _ rfl ?_)))⟩
  rintro S ⟨kk,b1,hb1,rfl⟩
  refine w_ (m_ (h:=AQ (h:=e_ (?_))))
  refine A8 rfl (fun hb3=>?_) (fun hb3=>?_)
  ·have hc3:=bp hb3
   have h0:(GB s kk q).2=0:=hc3
   refine w_ (l_ (h:=s_ (h:=a_ (h:=e_ (A6 (AR (A7 (A7 (AR (A7 (?_)))))))))))
   refine Aj none (h5:=(LeA.refl _)) (h6:=⟨_,rfl,rfl,b1,by omega,rfl,(GB s kk q).1,true,rfl,Nat.le_trans (iR s kk q) (by decide),fun _=>⟨kk,q,Prod.ext rfl h0⟩,fun h=>(by cases h)⟩)
  have hc3:=bp hb3
  refine BB (Ay (t_ (AP (m_ (h:=B8 (h:=a_ (h:=AO (?_))))))))
  refine AD ?_
  refine⟨_,_,?_,⟨j+1,_,by omega,rfl,?_,rfl⟩,Az 3 0 rfl rfl rfl rfl ((by repeat (first|exact Sub.nil|refine Sub.cons _ _ _ rfl rfl ?_|refine Sub.any _ _ ?_|refine Sub.sl _ _ _ _ _ rfl ?_|refine Sub.slnil _ _ _ rfl ?_)))⟩<;>omega
 have hc1:=bp hb1
 refine BO (Aq (Aq (BQ (t_ (w_ (AT (h:=s_ (h:=a_ (h:=e_ (A6 (?_)))))))))))
 refine Aj none (h5:=(LeA.refl _)) (h6:=⟨_,rfl,rfl,b0,by omega,rfl,FG,false,rfl,Nat.zero_le _,fun h=>(by cases h),fun _=>rfl⟩)
end
end Go.Proofs.YtbglbmnhgbgelaaGreatDoor
