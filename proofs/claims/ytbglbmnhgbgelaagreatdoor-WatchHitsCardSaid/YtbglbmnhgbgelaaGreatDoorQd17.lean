/-
  Part 17 of the proof of WatchHitsP: what the statement's proof uses of the texts in wip/tpl.
-/
import Derived.Test.YtbglbmnhgbgelaaGreatDoorQd16
set_option maxRecDepth 10000
set_option maxHeartbeats 4000000
set_option linter.unusedVariables false
set_option linter.unusedSimpArgs false
namespace Go.Proofs.YtbglbmnhgbgelaaGreatDoor
open Go.RowKit
theorem i4(w:Wrk):(EO w).1.r.items.length=w.r.items.length:=by
 unfold EO
 repeat' split
 all_goals first|rfl|exact(RV _ _ _).trans (LQ _ _)
theorem i5(w:Wrk)(R:DR):(G8 w R).1.r.items.length=w.r.items.length:=by
 unfold G8
 split
 ·rfl
 exact(WD _ _ _).trans (LQ _ _)
theorem i6(w:Wrk):(Df w).1.r.items.length=w.r.items.length:=by
 unfold Df
 repeat' split
 all_goals first|rfl|exact i5 _ _
theorem i7(w:Wrk):(Ea w).1.r.items.length=w.r.items.length:=by
 unfold Ea Hm
 repeat' split
 all_goals first|rfl|exact LQ _ _
theorem i8(w:Wrk)(R:Spc×Int):(Hn w R).1.r.items.length=w.r.items.length:=by
 unfold Hn
 split<;>rfl
theorem i9(w:Wrk):(D9 w).1.r.items.length=w.r.items.length:=by
 unfold D9
 repeat' split
 all_goals first|rfl|exact Oe _ _|exact i8 _ _
theorem iA(w:Wrk):(Eb w).1.r.items.length=w.r.items.length:=by
 unfold Eb
 repeat' split
 all_goals first|rfl|exact RW _ _ _
theorem iB(w:Wrk)(R:Spc×Int):(Ho w R).1.r.items.length=w.r.items.length:=by
 unfold Ho
 split<;>rfl
theorem iC(w:Wrk):(Ey w).1.r.items.length=w.r.items.length:=by
 unfold Ey
 repeat' split
 all_goals first|rfl|exact iB _ _
theorem iD(w:Wrk):(Dw w).1.r.items.length=w.r.items.length:=by
 unfold Dw
 repeat' split
 all_goals first|rfl|exact iC _|exact Oe _ _|exact Oe (LL w _) _
theorem Ra(w:Wrk):(B9 w).1.r.items.length=w.r.items.length:=by
 unfold B9
 repeat' split
 all_goals first|exact WF _|exact i4 _|exact i6 _|exact WG _|exact i7 _|exact i9 _|exact iA _|exact iD _
theorem WQ{n:Int}(h:0<(Bj n).2.2.1):(n=1∨n=6∨n=8∨n=9∨n=10∨n=11∨n=12∨n=13∨n=14∨n=15∨n=16∨n=17∨n=21)∧((n=8∨n=13)→(Bj n).2.2.1=2)∧(¬(n=8∨n=13)→(Bj n).2.2.1=1):=by
 unfold Bj at h ⊢
 split at h
 ·exact absurd h (by decide)
 rename_i c
 rw[if_neg c]
 obtain⟨m,rfl⟩:=Int.eq_ofNat_of_zero_le (show 0≤n by omega)
 have hm:m<22:=by omega
 have k1:∀m,m<22→0<((EA[m]?).getD (⟨#[]⟩,0,0,0,0)).2.2.1→m∈[1,6,8,9,10,11,12,13,14,15,16,17,21]:=by decide
 have k2:∀m,m<22→m∈[8,13]→((EA[m]?).getD (⟨#[]⟩,0,0,0,0)).2.2.1=2:=by decide
 have k3:∀m,m<22→0<((EA[m]?).getD (⟨#[]⟩,0,0,0,0)).2.2.1→m∉[8,13]→((EA[m]?).getD (⟨#[]⟩,0,0,0,0)).2.2.1=1:=by decide
 have k1:=k1 m hm h
 have k2:=k2 m hm
 have k3:=k3 m hm h
 simp only[List.mem_cons,List.not_mem_nil,or_false]at k1 k2 k3
 exact⟨by omega,fun q=>k2 (by omega),fun q=>k3 (by omega)⟩
theorem WR{n:Int}(h:(Bj n).2.2.1=0):n≠1∧n≠6∧n≠8∧n≠9∧n≠10∧n≠11∧n≠12∧n≠13∧n≠14∧n≠15∧n≠16∧n≠17∧n≠21:=by
 refine⟨?_,?_,?_,?_,?_,?_,?_,?_,?_,?_,?_,?_,?_⟩<;>(rintro rfl;revert h;decide)
theorem iE(n:Int):0<(Bj n).2.2.1∨(Bj n).2.2.1=0:=by
 unfold Bj
 split
 ·exact .inr rfl
 rename_i c
 obtain⟨m,rfl⟩:=Int.eq_ofNat_of_zero_le (show 0≤n by omega)
 have hm:m<22:=by omega
 have key:∀m,m<22→0<((EA[m]?).getD (⟨#[]⟩,0,0,0,0)).2.2.1∨((EA[m]?).getD (⟨#[]⟩,0,0,0,0)).2.2.1=0:=by decide
 exact key m hm
theorem iF{c:Cal}(h:0<(Bj c.num).2.2.1):((C8 c).length:Int)=(Bj c.num).2.2.1:=by
 obtain⟨k1,k2,k3⟩:=WQ h
 by_cases c2:c.num=8∨c.num=13
 ·rw[k2 c2]
  rcases c2 with q|q<;>simp[C8,q]
 rw[k3 c2]
 rcases k1 with q|q|q|q|q|q|q|q|q|q|q|q|q<;>first|(exfalso;omega)|simp[C8,q]
theorem iG{c0 c1 c2 c3 c4 c5:List AV}(w:Wrk):Back [c0,c1,c2,c3,c4,c5] [5] [WN w] [c0,c1,c2,c3,c4,WN w]:=by
 have:=Mw (bx:=[c0,c1,c2,c3,c4,c5]) (is:=[5]) (bc:=[WN w]) (by simp) (by simp) (by simp)
 have hb:DC [c0,c1,c2,c3,c4,c5] (Da [5] [c0,c1,c2,c3,c4,c5].length) [5] [WN w]=[c0,c1,c2,c3,c4,WN w]:=by
  unfold DC
  unfold DC
  rfl
 rw[hb]at this
 exact this
section
theorem iH(w:Wrk)(cap:Nat)(hv:SpcV w.s.spc)(hm:w.s.spc.mounts.length≤1000)(htb:TabB w.s.tab)(hnm:∀f∈w.found,f.name.size≤12)(h1:1≤w.found.length)(h1i:1≤w.r.items.length)(h2:w.c.num=8∨w.c.num=13→2≤w.found.length∧2≤w.r.items.length)(hin:w.c.num=1∨w.c.num=6∨w.c.num=8∨w.c.num=9∨w.c.num=10∨w.c.num=11∨w.c.num=12∨w.c.num=13∨w.c.num=14∨w.c.num=15∨w.c.num=16∨w.c.num=17∨w.c.num=21)(h9:w.c.num=9→0<w.c.args.length)(hsz:∀p∈w.c.args,p.size≤1000):ACall Tryz.prog 68 [.bp 0 0] [WA w cap,IB w cap] (fun r b t=>t=[]∧r= .v (.int .i64 (B9 w).2)∧b=[WA (B9 w).1 cap,IB (B9 w).1 cap]):=by
 have hps:w.s.tab.ps.length≤1000:=by have:=htb.few;omega
 refine enter Tryz.func68 rfl rfl rfl rfl rfl 2 rfl ?_
 refine w_ (a_ (h:=e_ (q_ (w_ (m_ (h:=k_ (h:=f_ (h:=f_ (h:=l_ (h:=e_ (Am (w_ (AQ (h:=a_ (h:=e_ (?_))))))))))))))))
 refine A8 rfl (fun hb1=>?_) (fun hb1=>?_)
 ·have hc1:=bp hb1
  obtain⟨f,hf⟩:∃f,w.found[0]?=some f:=⟨_,B3 (by omega)⟩
  obtain⟨x,hx⟩:∃x,w.r.items[0]?=some x:=⟨_,B3 (by omega)⟩
  have hact:B9 w=C9 w:=by simp[B9,hc1]
  refine w_ (m_ (h:=?_))
  refine A6 rfl (BW [0,1] rfl (.cons _ _ _ _ _ rfl (LeA.refl _) .nil) (by decide) (.cons _ _ _ _ _ rfl rfl (.cons _ _ _ _ _ rfl (Ch B0 _ _ _) .nil)) (Vu w cap f x hv hm htb hf hx (by have:=hnm f (Au hf);omega)) ?_)
  rintro r bc tc ⟨rfl,rfl,rfl⟩
  refine⟨rfl,_,D2 rfl ((C9 w).1) cap,?_⟩
  refine a_ (h:=e_ (A4 (AR (A7 (?_)))))
  refine BN (r:= .v (.int .i64 (B9 w).2)) none (h5:=(by rw[hact];exact LeA.refl _)) (h6:=⟨rfl,rfl,?_⟩)
  rw[hact]
  rfl
 have hc1:=bp hb1
 refine w_ (AQ (h:=a_ (h:=e_ (?_))))
 refine A8 rfl (fun hb2=>?_) (fun hb2=>?_)
 ·have hc2:=bp hb2
  obtain⟨f,hf⟩:∃f,w.found[0]?=some f:=⟨_,B3 (by omega)⟩
  obtain⟨x,hx⟩:∃x,w.r.items[0]?=some x:=⟨_,B3 (by omega)⟩
  obtain⟨g,hg⟩:∃f,w.found[1]?=some f:=⟨_,B3 (h2 (by omega)).1⟩
  obtain⟨x1,hx1⟩:∃x,w.r.items[1]?=some x:=⟨_,B3 (h2 (by omega)).2⟩
  have hact:B9 w=EO w:=by simp[B9,hc2]
  refine w_ (m_ (h:=?_))
  refine A6 rfl (BW [0,1] rfl (.cons _ _ _ _ _ rfl (LeA.refl _) .nil) (by decide) (.cons _ _ _ _ _ rfl rfl (.cons _ _ _ _ _ rfl (Ch B0 _ _ _) .nil)) (gN w cap f g x1 hv hm hf hg hx1 (by have:=hnm g (Au hg);omega)) ?_)
  rintro r bc tc ⟨rfl,rfl,rfl⟩
  refine⟨rfl,_,D2 rfl ((EO w).1) cap,?_⟩
  refine a_ (h:=e_ (A4 (AR (A7 (?_)))))
  refine BN (r:= .v (.int .i64 (B9 w).2)) none (h5:=(by rw[hact];exact LeA.refl _)) (h6:=⟨rfl,rfl,?_⟩)
  rw[hact]
  rfl
 have hc2:=bp hb2
 refine q_ (w_ (AQ (h:=a_ (h:=e_ (?_)))))
 refine A8 rfl (fun hb3=>?_) (fun hb3=>?_)
 ·have hc3:=bp hb3
  obtain⟨f,hf⟩:∃f,w.found[0]?=some f:=⟨_,B3 (by omega)⟩
  obtain⟨x,hx⟩:∃x,w.r.items[0]?=some x:=⟨_,B3 (by omega)⟩
  have hact:B9 w=Df w:=by simp[B9,hc3]
  refine AJ (Bm (h:=w_ (m_ (h:=?_))))
  refine A6 rfl (BW [0,1] rfl (.cons _ _ _ _ _ rfl (LeA.refl _) .nil) (by decide) (.cons _ _ _ _ _ rfl rfl (.cons _ _ _ _ _ rfl (Ch B0 _ _ _) .nil)) (WJ w cap f x hv hm hps hf hx (by have:=hnm f (Au hf);omega)) ?_)
  rintro r bc tc ⟨rfl,rfl,rfl⟩
  refine⟨rfl,_,D2 rfl ((Df w).1) cap,?_⟩
  refine a_ (h:=e_ (A4 (AR (A7 (?_)))))
  refine BN (r:= .v (.int .i64 (B9 w).2)) none (h5:=(by rw[hact];exact LeA.refl _)) (h6:=⟨rfl,rfl,?_⟩)
  rw[hact]
  rfl
 have hc3:=bp hb3
 refine AP (AQ (h:=a_ (h:=e_ (?_))))
 refine A8 rfl (fun hb4=>?_) (fun hb4=>?_)
 ·have hc4:=bp hb4
  obtain⟨f,hf⟩:∃f,w.found[0]?=some f:=⟨_,B3 (by omega)⟩
  obtain⟨x,hx⟩:∃x,w.r.items[0]?=some x:=⟨_,B3 (by omega)⟩
  have hact:B9 w=Df w:=by simp[B9,hc4]
  refine w_ (m_ (h:=?_))
  refine A6 rfl (BW [0,1] rfl (.cons _ _ _ _ _ rfl (LeA.refl _) .nil) (by decide) (.cons _ _ _ _ _ rfl rfl (.cons _ _ _ _ _ rfl (Ch B0 _ _ _) .nil)) (WJ w cap f x hv hm hps hf hx (by have:=hnm f (Au hf);omega)) ?_)
  rintro r bc tc ⟨rfl,rfl,rfl⟩
  refine⟨rfl,_,D2 rfl ((Df w).1) cap,?_⟩
  refine a_ (h:=e_ (A4 (AR (A7 (?_)))))
  refine BN (r:= .v (.int .i64 (B9 w).2)) none (h5:=(by rw[hact];exact LeA.refl _)) (h6:=⟨rfl,rfl,?_⟩)
  rw[hact]
  rfl
 have hc4:=bp hb4
 refine w_ (AQ (h:=a_ (h:=e_ (?_))))
 refine A8 rfl (fun hb5=>?_) (fun hb5=>?_)
 ·have hc5:=bp hb5
  obtain⟨f,hf⟩:∃f,w.found[0]?=some f:=⟨_,B3 (by omega)⟩
  obtain⟨x,hx⟩:∃x,w.r.items[0]?=some x:=⟨_,B3 (by omega)⟩
  obtain⟨g,hg⟩:∃f,w.found[1]?=some f:=⟨_,B3 (h2 (by omega)).1⟩
  obtain⟨x1,hx1⟩:∃x,w.r.items[1]?=some x:=⟨_,B3 (h2 (by omega)).2⟩
  have hact:B9 w=Dg w:=by simp[B9,hc5]
  refine w_ (m_ (h:=?_))
  refine A6 rfl (BW [0,1] rfl (.cons _ _ _ _ _ rfl (LeA.refl _) .nil) (by decide) (.cons _ _ _ _ _ rfl rfl (.cons _ _ _ _ _ rfl (Ch B0 _ _ _) .nil)) (W8 w cap f g x x1 hv hm hps hf hg hx hx1 (by have:=hnm f (Au hf);omega) (by have:=hnm g (Au hg);omega)) ?_)
  rintro r bc tc ⟨rfl,rfl,rfl⟩
  refine⟨rfl,_,D2 rfl ((Dg w).1) cap,?_⟩
  refine a_ (h:=e_ (A4 (AR (A7 (?_)))))
  refine BN (r:= .v (.int .i64 (B9 w).2)) none (h5:=(by rw[hact];exact LeA.refl _)) (h6:=⟨rfl,rfl,?_⟩)
  rw[hact]
  rfl
 have hc5:=bp hb5
 refine q_ (w_ (AQ (h:=a_ (h:=e_ (?_)))))
 refine A8 rfl (fun hb6=>?_) (fun hb6=>?_)
 ·have hc6:=bp hb6
  obtain⟨f,hf⟩:∃f,w.found[0]?=some f:=⟨_,B3 (by omega)⟩
  obtain⟨x,hx⟩:∃x,w.r.items[0]?=some x:=⟨_,B3 (by omega)⟩
  have hact:B9 w=Ea w:=by simp[B9,hc6]
  refine AJ (Bm (h:=w_ (m_ (h:=?_))))
  refine A6 rfl (BW [0,1] rfl (.cons _ _ _ _ _ rfl (LeA.refl _) .nil) (by decide) (.cons _ _ _ _ _ rfl rfl (.cons _ _ _ _ _ rfl (Ch B0 _ _ _) .nil)) (WK w cap f hv hm hf) ?_)
  rintro r bc tc ⟨rfl,rfl,rfl⟩
  refine⟨rfl,_,D2 rfl ((Ea w).1) cap,?_⟩
  refine a_ (h:=e_ (A4 (AR (A7 (?_)))))
  refine BN (r:= .v (.int .i64 (B9 w).2)) none (h5:=(by rw[hact];exact LeA.refl _)) (h6:=⟨rfl,rfl,?_⟩)
  rw[hact]
  rfl
 have hc6:=bp hb6
 refine AP (AQ (h:=a_ (h:=e_ (?_))))
 refine A8 rfl (fun hb7=>?_) (fun hb7=>?_)
 ·have hc7:=bp hb7
  obtain⟨f,hf⟩:∃f,w.found[0]?=some f:=⟨_,B3 (by omega)⟩
  obtain⟨x,hx⟩:∃x,w.r.items[0]?=some x:=⟨_,B3 (by omega)⟩
  have hact:B9 w=Ea w:=by simp[B9,hc7]
  refine w_ (m_ (h:=?_))
  refine A6 rfl (BW [0,1] rfl (.cons _ _ _ _ _ rfl (LeA.refl _) .nil) (by decide) (.cons _ _ _ _ _ rfl rfl (.cons _ _ _ _ _ rfl (Ch B0 _ _ _) .nil)) (WK w cap f hv hm hf) ?_)
  rintro r bc tc ⟨rfl,rfl,rfl⟩
  refine⟨rfl,_,D2 rfl ((Ea w).1) cap,?_⟩
  refine a_ (h:=e_ (A4 (AR (A7 (?_)))))
  refine BN (r:= .v (.int .i64 (B9 w).2)) none (h5:=(by rw[hact];exact LeA.refl _)) (h6:=⟨rfl,rfl,?_⟩)
  rw[hact]
  rfl
 have hc7:=bp hb7
 refine q_ (w_ (AQ (h:=a_ (h:=e_ (?_)))))
 refine A8 rfl (fun hb8=>?_) (fun hb8=>?_)
 ·have hc8:=bp hb8
  obtain⟨f,hf⟩:∃f,w.found[0]?=some f:=⟨_,B3 (by omega)⟩
  obtain⟨x,hx⟩:∃x,w.r.items[0]?=some x:=⟨_,B3 (by omega)⟩
  have hact:B9 w=D9 w:=by simp[B9,hc8]
  refine AJ (Bm (h:=w_ (m_ (h:=?_))))
  refine A6 rfl (BW [0,1] rfl (.cons _ _ _ _ _ rfl (LeA.refl _) .nil) (by decide) (.cons _ _ _ _ _ rfl rfl (.cons _ _ _ _ _ rfl (Ch B0 _ _ _) .nil)) (Of w cap f hv hm htb hf) ?_)
  rintro r bc tc ⟨rfl,rfl,rfl⟩
  refine⟨rfl,_,D2 rfl ((D9 w).1) cap,?_⟩
  refine a_ (h:=e_ (A4 (AR (A7 (?_)))))
  refine BN (r:= .v (.int .i64 (B9 w).2)) none (h5:=(by rw[hact];exact LeA.refl _)) (h6:=⟨rfl,rfl,?_⟩)
  rw[hact]
  rfl
 have hc8:=bp hb8
 refine w_ (AQ (h:=a_ (h:=e_ (?_))))
 refine A8 rfl (fun hb9=>?_) (fun hb9=>?_)
 ·have hc9:=bp hb9
  obtain⟨f,hf⟩:∃f,w.found[0]?=some f:=⟨_,B3 (by omega)⟩
  obtain⟨x,hx⟩:∃x,w.r.items[0]?=some x:=⟨_,B3 (by omega)⟩
  have hact:B9 w=D9 w:=by simp[B9,hc9]
  refine AJ (Bm (h:=w_ (m_ (h:=?_))))
  refine A6 rfl (BW [0,1] rfl (.cons _ _ _ _ _ rfl (LeA.refl _) .nil) (by decide) (.cons _ _ _ _ _ rfl rfl (.cons _ _ _ _ _ rfl (Ch B0 _ _ _) .nil)) (Of w cap f hv hm htb hf) ?_)
  rintro r bc tc ⟨rfl,rfl,rfl⟩
  refine⟨rfl,_,D2 rfl ((D9 w).1) cap,?_⟩
  refine a_ (h:=e_ (A4 (AR (A7 (?_)))))
  refine BN (r:= .v (.int .i64 (B9 w).2)) none (h5:=(by rw[hact];exact LeA.refl _)) (h6:=⟨rfl,rfl,?_⟩)
  rw[hact]
  rfl
 have hc9:=bp hb9
 refine w_ (AQ (h:=a_ (h:=e_ (?_))))
 refine A8 rfl (fun hb10=>?_) (fun hb10=>?_)
 ·have hc10:=bp hb10
  obtain⟨f,hf⟩:∃f,w.found[0]?=some f:=⟨_,B3 (by omega)⟩
  obtain⟨x,hx⟩:∃x,w.r.items[0]?=some x:=⟨_,B3 (by omega)⟩
  have hact:B9 w=D9 w:=by simp[B9,hc10]
  refine AJ (Bm (h:=w_ (m_ (h:=?_))))
  refine A6 rfl (BW [0,1] rfl (.cons _ _ _ _ _ rfl (LeA.refl _) .nil) (by decide) (.cons _ _ _ _ _ rfl rfl (.cons _ _ _ _ _ rfl (Ch B0 _ _ _) .nil)) (Of w cap f hv hm htb hf) ?_)
  rintro r bc tc ⟨rfl,rfl,rfl⟩
  refine⟨rfl,_,D2 rfl ((D9 w).1) cap,?_⟩
  refine a_ (h:=e_ (A4 (AR (A7 (?_)))))
  refine BN (r:= .v (.int .i64 (B9 w).2)) none (h5:=(by rw[hact];exact LeA.refl _)) (h6:=⟨rfl,rfl,?_⟩)
  rw[hact]
  rfl
 have hc10:=bp hb10
 refine AP (AQ (h:=a_ (h:=e_ (?_))))
 refine A8 rfl (fun hb11=>?_) (fun hb11=>?_)
 ·have hc11:=bp hb11
  obtain⟨f,hf⟩:∃f,w.found[0]?=some f:=⟨_,B3 (by omega)⟩
  obtain⟨x,hx⟩:∃x,w.r.items[0]?=some x:=⟨_,B3 (by omega)⟩
  have hact:B9 w=D9 w:=by simp[B9,hc11]
  refine w_ (m_ (h:=?_))
  refine A6 rfl (BW [0,1] rfl (.cons _ _ _ _ _ rfl (LeA.refl _) .nil) (by decide) (.cons _ _ _ _ _ rfl rfl (.cons _ _ _ _ _ rfl (Ch B0 _ _ _) .nil)) (Of w cap f hv hm htb hf) ?_)
  rintro r bc tc ⟨rfl,rfl,rfl⟩
  refine⟨rfl,_,D2 rfl ((D9 w).1) cap,?_⟩
  refine a_ (h:=e_ (A4 (AR (A7 (?_)))))
  refine BN (r:= .v (.int .i64 (B9 w).2)) none (h5:=(by rw[hact];exact LeA.refl _)) (h6:=⟨rfl,rfl,?_⟩)
  rw[hact]
  rfl
 have hc11:=bp hb11
 refine q_ (w_ (AQ (h:=a_ (h:=e_ (?_)))))
 refine A8 rfl (fun hb12=>?_) (fun hb12=>?_)
 ·have hc12:=bp hb12
  obtain⟨f,hf⟩:∃f,w.found[0]?=some f:=⟨_,B3 (by omega)⟩
  obtain⟨x,hx⟩:∃x,w.r.items[0]?=some x:=⟨_,B3 (by omega)⟩
  have hact:B9 w=Eb w:=by simp[B9,hc12]
  refine AJ (Bm (h:=w_ (m_ (h:=?_))))
  refine A6 rfl (BW [0,1] rfl (.cons _ _ _ _ _ rfl (LeA.refl _) .nil) (by decide) (.cons _ _ _ _ _ rfl rfl (.cons _ _ _ _ _ rfl (Ch B0 _ _ _) .nil)) (WP w cap f x hv hm hf hx (by have:=hnm f (Au hf);omega) h9 hsz) ?_)
  rintro r bc tc ⟨rfl,rfl,rfl⟩
  refine⟨rfl,_,D2 rfl ((Eb w).1) cap,?_⟩
  refine a_ (h:=e_ (A4 (AR (A7 (?_)))))
  refine BN (r:= .v (.int .i64 (B9 w).2)) none (h5:=(by rw[hact];exact LeA.refl _)) (h6:=⟨rfl,rfl,?_⟩)
  rw[hact]
  rfl
 have hc12:=bp hb12
 refine AP (AQ (h:=a_ (h:=e_ (?_))))
 refine A8 rfl (fun hb13=>?_) (fun hb13=>?_)
 ·have hc13:=bp hb13
  obtain⟨f,hf⟩:∃f,w.found[0]?=some f:=⟨_,B3 (by omega)⟩
  obtain⟨x,hx⟩:∃x,w.r.items[0]?=some x:=⟨_,B3 (by omega)⟩
  have hact:B9 w=Eb w:=by simp[B9,hc13]
  refine w_ (m_ (h:=?_))
  refine A6 rfl (BW [0,1] rfl (.cons _ _ _ _ _ rfl (LeA.refl _) .nil) (by decide) (.cons _ _ _ _ _ rfl rfl (.cons _ _ _ _ _ rfl (Ch B0 _ _ _) .nil)) (WP w cap f x hv hm hf hx (by have:=hnm f (Au hf);omega) h9 hsz) ?_)
  rintro r bc tc ⟨rfl,rfl,rfl⟩
  refine⟨rfl,_,D2 rfl ((Eb w).1) cap,?_⟩
  refine a_ (h:=e_ (A4 (AR (A7 (?_)))))
  refine BN (r:= .v (.int .i64 (B9 w).2)) none (h5:=(by rw[hact];exact LeA.refl _)) (h6:=⟨rfl,rfl,?_⟩)
  rw[hact]
  rfl
 have hc13:=bp hb13
 exfalso;first|contradiction|omega
theorem iJ(s:Syst)(pid:Int)(c:Cal)(hv:SpcV s.spc)(hm:s.spc.mounts.length≤1000)(ht:TabB s.tab)(hcp:c.paths.length≤1000)(hca:c.args.length≤1000)(h6:0<(Bj c.num).2.2.1):AFn Tryz.prog 35 [.agg (BZ s), .v (.int .i64 pid), .agg (DA c)] (fun r=>r=JJ (Bh s pid c)):=by
 have hsb:=hv.b hm
 obtain⟨W1,hW1⟩:∃W,W=EC s pid c:=⟨_,rfl⟩
 have hwf:=RS s pid c
 rw[←hW1]at hwf
 have hWs:W1.s=s:=by rw[hW1];rfl
 have hWc:W1.c=c:=by rw[hW1];rfl
 refine enter Tryz.func35 rfl rfl rfl rfl rfl 0 rfl ?_
 refine w_ (b_ (h:=b_ (h:=AW (h:=AW (h:=e_ (w_ (f_ (h:=l_ (h:=m_ (h:=?_))))))))))
 refine A6 rfl (AK (Fl s.tab pid ht) ?_)
 rintro r rfl
 refine m_ (h:=x_ (h:=x_ (h:=AW (h:=s_ (h:=a_ (h:=e_ (q_ (w_ (m_ (h:=BC (h:=e_ (?_))))))))))))
 refine A8 rfl (fun hb1=>?_) (fun hb1=>?_)
 ·have hc1:=bp hb1
  have hno:C1 s.tab pid=false:=by simpa using hc1
  refine w_ (l_ (h:=?_))
  refine A6 rfl (AK (Ge s hsb ht) ?_)
  rintro r rfl
  refine A6 rfl (ET (y:= .agg (Di {DX with exit:= -4})) (Co ⟨rfl,rfl⟩) ?_)
  refine s_ (h:=s_ (h:=e_ (A4 (A7 (?_)))))
  refine AB ?_
  rw[Bh,if_pos hno];rfl
 have hc1:=bp hb1
 have hno:¬C1 s.tab pid=false:=by simpa using hc1
 refine AJ (q_ (w_ (l_ (h:=?_))))
 refine A6 rfl (AK (RC c hcp hca) ?_)
 rintro r rfl
 refine BK (h:=e_ (?_))
 refine A8 rfl (fun hb2=>?_) (fun hb2=>?_)
 ·have hc2:=bp hb2
  have hck:Bb c≠0:=by simpa using hc2
  refine w_ (l_ (h:=?_))
  refine A6 rfl (AK (Ge s hsb ht) ?_)
  rintro r rfl
  refine A6 rfl (ET (y:= .agg (Di {DX with exit:= -22})) (Co ⟨rfl,rfl⟩) ?_)
  refine s_ (h:=s_ (h:=e_ (A4 (A7 (?_)))))
  refine AB ?_
  rw[Bh,if_neg hno,if_pos hck];rfl
 have hc2:=bp hb2
 have hck:Bb c=0:=by simpa using hc2
 obtain⟨hk1,hk2,hk3,hk4,hk5⟩:=RR hck
 have hargs:∀p∈(CL s pid c).c.args,p.size≤1000:=fun p hp=>by have:=hk5 p hp;omega
 have hpaths:∀p∈(CL s pid c).c.paths,p.size≤100000:=fun p hp=>by have:=hk4 p hp;omega
 obtain⟨hp1,hp2,hp3⟩:=WQ h6
 have hp4:=iF h6
 have h9:c.num=9→0<c.args.length:=fun q=>by rw[q]at hk2;have:(Bj 9).2.2.2.1=1:=rfl;omega
 have hpp:(CL s pid c).c.paths.length=(C8 (CL s pid c).c).length:=by show c.paths.length=(C8 c).length;omega
 have hp0:0<(CL s pid c).c.paths.length:=by show 0<c.paths.length;omega
 have hzl:(c.paths.zip (C8 c)).length=c.paths.length:=by rw[List.length_zip];omega
 have hil0:0<W1.r.items.length:=by rw[hwf.2.2,hzl];omega
 refine AJ (q_ (BF ([(0,BZ s),(1,DA c),(4,Av (AU s.tab pid))]) 7 (h:=?_)))
 refine AD 0 (h:=?_)
 refine AD 2 (h:=?_)
 refine AD 3 (h:=?_)
 refine c_ 1 rfl (AK (Ge s hsb ht) ?_)
 rintro r rfl
 refine o_ (h:=?_)
 refine Bn 4 rfl (fun _ hS=>En (y:= .agg (Cu (CL s pid c) (.v (.slice none 0 0)) (.v (.slice none 0 0)))) (Co ⟨rfl,rfl⟩) (RU s pid c) ⟨rfl,rfl⟩) ?_
 refine c_ 5 rfl (Lt rfl rfl (by repeat constructor) ?_)
 refine o_ (h:=BB 6 (h:=z_ (h:=t_ (?_))))
 refine B5 (fun S=>∃cap,W1.r.items.length≤cap∧S=⟨look [(3, .bp 2 0),(6, .bp 3 0),(7, .bp 4 0),(10, .bp 0 0),(11, .v (.int .i64 (Dh s (AU s.tab pid) c).2.2))],⟨[WA W1 cap,IB W1 cap,BZ s,Ei,FG],[]⟩⟩) ?_ ?_
 ·skip
  refine AP (m_ (h:=m_ (h:=?_)))
  refine A6 rfl (Cg 1 rfl (.cons _ _ _ _ _ rfl (LeA.of_eq rfl) .nil) (RT (CL s pid c) (.v (.slice none 0 0)) (.v (.slice none 0 0)) h9 hargs) ?_)
  rintro r rfl
  refine⟨rfl,?_⟩
  refine A6 rfl (BW [5] rfl (.cons _ _ _ _ _ rfl (LeA.refl _) (.cons _ _ _ _ _ rfl (LeA.refl _) .nil)) (by decide) (.cons _ _ _ _ _ rfl rfl .nil) (Vr (CL s pid c) (Cf (AU s.tab pid) c) hv hm hpp (by show c.paths.length≤1000;omega) hp0 hpaths) ?_)
  rintro r bc tc ⟨rfl,cap,hcap,rfl,rfl⟩
  refine⟨rfl,_,WB (CL s pid c) _ _ cap _,?_⟩
  refine a_ (h:=AO (?_))
  refine AF ?_
  rw[hW1]
  exact⟨_,⟨cap,hcap,rfl⟩,E7 [5,6,0,2,3] (fun i hi=>absurd hi (Nat.not_lt_zero i)) (by decide) (.cons _ _ _ _ _ rfl rfl (.cons _ _ _ _ _ rfl (Gb B0 _ _ _) (.cons _ _ _ _ _ rfl rfl (.cons _ _ _ _ _ rfl rfl (.cons _ _ _ _ _ rfl rfl .nil))))) (by repeat (first|exact SubK.nil|refine SubK.cons _ _ _ _ rfl (LeA.refl _) ?_))⟩
 rintro S ⟨cap,hcap,rfl⟩
 refine w_ (m_ (h:=k_ (h:=f_ (h:=f_ (h:=l_ (h:=?_))))))
 refine A6 rfl (M1 rfl rfl (SrcA.bs 1 0 _ cap _ rfl (by rw[show IB W1 cap=LB 13 BY W1.r.items cap from rfl,Mv B0 hcap];omega)) hil0 (by rw[hwf.2.2,hzl];omega) ?_)
 rintro cap2 k bx2 hcp2 hs
 rw[show((IB W1 cap).drop 0).take (W1.r.items.length * 13)++List.replicate ((cap2 - W1.r.items.length) * 13) AV.any=LB 13 BY W1.r.items cap2 from WC B0 _ cap cap2]at hs
 obtain⟨rfl,rfl⟩:k=5∧bx2=[_,_,_,_,_,_]:=hs.eq
 refine a_ (h:=e_ (?_))
 refine B5 (fun S=>∃(W2:Wrk) (E2:Int),((¬(Dh s (AU s.tab pid) c).2.2=0∧E2=(Dh s (AU s.tab pid) c).2.2)∨((Dh s (AU s.tab pid) c).2.2=0∧W2=(B9 W1).1∧E2=(B9 W1).2))∧S=⟨look [(3, .bp 2 0),(6, .bp 3 0),(7, .bp 4 0),(10, .bp 0 0),(11, .v (.int .i64 E2)),(12, .bs 5 0 13 W1.r.items.length cap2)],⟨[WA W2 cap,IB W2 cap,BZ s,Ei,FG,LB 13 BY W1.r.items cap2],[]⟩⟩) ?_ ?_
 ·skip
  refine w_ (m_ (h:=AQ (h:=e_ (?_))))
  refine A8 rfl (fun hb3=>?_) (fun hb3=>?_)
  ·have hc3:=bp hb3
   have he1:(Dh s (AU s.tab pid) c).2.2=0:=by simpa using hc3
   refine AP (m_ (h:=?_))
   refine A6 rfl (BW [0,1] rfl (.cons _ _ _ _ _ rfl (LeA.refl _) .nil) (by decide) (.cons _ _ _ _ _ rfl rfl (.cons _ _ _ _ _ rfl (Ch B0 _ _ _) .nil)) (iH W1 cap (by rw[hWs];exact hv) (by rw[hWs];exact hm) (by rw[hWs];exact ht) hwf.1 (by rw[hwf.2.1,hzl];omega) (by rw[hwf.2.2,hzl];omega) (by rw[hWc,hwf.2.1,hwf.2.2,hzl];omega) (by rw[hWc];exact hp1) (by rw[hWc];exact h9) (by rw[hWc];exact hargs)) ?_)
   rintro r bc tc ⟨rfl,rfl,rfl⟩
   refine⟨rfl,_,D2 rfl (B9 W1).1 cap,?_⟩
   refine a_ (h:=AO (?_))
   refine AF ?_
   exact⟨_,⟨(B9 W1).1,(B9 W1).2, .inr ⟨he1,rfl,rfl⟩,rfl⟩,B1 6 0 rfl rfl rfl (by simp[Ag,Ab,Ac,Bc B0,BD,WA,IB,CD,BZ,Ei,FG]) ((by repeat (first|exact Sub.nil|refine Sub.cons _ _ _ rfl rfl ?_|refine Sub.any _ _ ?_|refine Sub.sl _ _ _ _ _ rfl ?_|refine Sub.slnil _ _ _ rfl ?_)))⟩
  have hc3:=bp hb3
  have he1:¬(Dh s (AU s.tab pid) c).2.2=0:=by simpa using hc3
  refine BA (?_)
  refine AF ?_
  first|exact⟨_,⟨(B9 W1).1,(B9 W1).2, .inr ⟨he1,rfl,rfl⟩,rfl⟩,B1 6 0 rfl rfl rfl (by simp[Ag,Ab,Ac,Bc B0,BD,WA,IB,CD,BZ,Ei,FG]) ((by repeat (first|exact Sub.nil|refine Sub.cons _ _ _ rfl rfl ?_|refine Sub.any _ _ ?_|refine Sub.sl _ _ _ _ _ rfl ?_|refine Sub.slnil _ _ _ rfl ?_)))⟩|exact⟨_,⟨W1,_, .inl ⟨he1,rfl⟩,rfl⟩,B1 6 0 rfl rfl rfl (by simp[Ag,Ab,Ac,Bc B0,BD,WA,IB,CD,BZ,Ei,FG]) ((by repeat (first|exact Sub.nil|refine Sub.cons _ _ _ rfl rfl ?_|refine Sub.any _ _ ?_|refine Sub.sl _ _ _ _ _ rfl ?_|refine Sub.slnil _ _ _ rfl ?_)))⟩
 rintro S ⟨W2,E2,hQ,rfl⟩
 refine q_ (w_ (m_ (h:=BK (h:=e_ (?_)))))
 refine A8 rfl (fun hb4=>?_) (fun hb4=>?_)
 ·have hc4:=bp hb4
  have he2:E2≠0:=by simpa using hc4
  have hrun:Bh s pid c=(s,{DX with exit:=F1 E2,items:=W1.r.items}):=by
   rw[Bh,if_neg hno,if_neg (by simp[hck])]
   rcases hQ with⟨q1,q2⟩|⟨q1,q2,q3⟩
   ·rw[if_pos q1,←q2,hW1];rfl
   rw[if_neg (by simp[q1]),←hW1,←q3,if_pos he2,hW1];rfl
  refine B5 (fun S=>S=⟨look [(6, .bp 0 0),(7, .bp 1 0)],⟨[BZ s,Fn {DX with exit:=F1 E2} (.sl 13 (W1.r.items.map BY) none)],[]⟩⟩) ?_ ?_
  ·skip
   refine AP (l_ (h:=?_))
   refine A6 rfl (AK (Ge s hsb ht) ?_)
   rintro r rfl
   refine m_ (h:=?_)
   refine A6 rfl (RX rfl ?_)
   refine m_ (h:=?_)
   refine A6 rfl (ET (y:= .agg (Fn {DX with exit:=F1 E2} (.bs 5 0 13 W1.r.items.length cap2))) (Co ⟨rfl,rfl⟩) ?_)
   refine s_ (h:=s_ (h:=AO (?_)))
   refine AF ?_
   refine⟨_,rfl,(E7 [3,4,5] (rows:=[BZ s,Fn {DX with exit:=F1 E2} (.bs 2 0 13 W1.r.items.length cap2),LB 13 BY W1.r.items cap2]) (l:=[(6, .bp 0 0),(7, .bp 1 0)]) (fun i hi=>absurd hi (Nat.not_lt_zero i)) (by decide) (.cons _ _ _ _ _ rfl rfl (.cons _ _ _ _ _ rfl rfl (.cons _ _ _ _ _ rfl (Gb B0 _ _ _) .nil))) (by repeat (first|exact SubK.nil|refine SubK.cons _ _ _ _ rfl (LeA.refl _) ?_))).trans (Er 2 1 rfl (congrArg (fun x=>[BZ s,Fn {DX with exit:=F1 E2} x]) (KT B0 rfl rfl hcp2)) (.cons _ _ _ _ rfl (LeA.refl _) (.cons _ _ _ _ rfl (LeA.refl _) .nil)))⟩
  rintro S rfl
  refine A4 (A7 (?_))
  refine Ai (r:=JJ (Bh s pid c)) none (h5:=(by rw[hrun];exact(by repeat (first|exact LeA.refl _|exact LeA.nil _|exact LeL.refl _|refine LeA.agg ?_|refine LeA.tup ?_|exact LeL.nil|refine LeL.cons ?_ ?_|exact LeA.any _)))) (h6:=⟨rfl,rfl,rfl⟩)
 have hc4:=bp hb4
 have he2:E2=0:=by simpa using hc4
 have hlen2:W2.r.items.length≤cap:=by
  rcases hQ with⟨q1,q2⟩|⟨q1,q2,q3⟩
  ·exact absurd (q2.symm.trans he2) q1
  rw[q2,Ra];exact hcap
 have hrun:Bh s pid c=(W2.s,W2.r):=by
  rcases hQ with⟨q1,q2⟩|⟨q1,q2,q3⟩
  ·exact absurd (q2.symm.trans he2) q1
  rw[Bh,if_neg hno,if_neg (by simp[hck]),if_neg (by simp[q1]),←hW1,←q3,if_neg (by simp[he2]),q2]
 refine AJ (?_)
 refine B5 (fun S=>S=⟨look [(6, .bp 0 0),(7, .bp 1 0)],⟨[BZ W2.s,Fn W2.r (.sl 13 (W2.r.items.map BY) none)],[]⟩⟩) ?_ ?_
 ·skip
  refine BF ([(0,WA W2 cap)]) 10 (h:=AN 0 (h:=B7 1 (h:=AE 2 (h:=AD 3 (h:=AN 4 (h:=B7 5 (h:=AE 6 (h:=AD 7 (h:=?_)))))))))
  refine Az 8 rfl (Aw rfl rfl rfl rfl rfl rfl (by repeat constructor) (by repeat constructor) ?_)
  refine o_ (h:=?_)
  refine Az 9 rfl (Aw rfl rfl rfl rfl rfl rfl (by repeat constructor) (by repeat constructor) ?_)
  refine o_ (h:=z_ (h:=?_))
  refine AF ?_
  refine⟨_,rfl,(E7 [3,4,1] (rows:=[BZ W2.s,Fn W2.r (.bs 2 0 13 W2.r.items.length cap),LB 13 BY W2.r.items cap]) (l:=[(6, .bp 0 0),(7, .bp 1 0)]) (fun i hi=>absurd hi (Nat.not_lt_zero i)) (by decide) (.cons _ _ _ _ _ rfl rfl (.cons _ _ _ _ _ rfl rfl (.cons _ _ _ _ _ rfl (Gb B0 _ _ _) .nil))) (by repeat (first|exact SubK.nil|refine SubK.cons _ _ _ _ rfl (LeA.refl _) ?_))).trans (Er 2 1 rfl (congrArg (fun x=>[BZ W2.s,Fn W2.r x]) (KT B0 rfl rfl hlen2)) (.cons _ _ _ _ rfl (LeA.refl _) (.cons _ _ _ _ rfl (LeA.refl _) .nil)))⟩
 rintro S rfl
 refine A4 (?_)
 refine AB ?_
 rw[hrun];rfl
theorem iK{s:Syst}{p:Prc}{c:Cal}(h:c.paths=[]):Dh s p c=([],[],Cf p c):=by
 unfold Dh Hl
 rw[h]
 rfl
theorem iL(s:Syst)(pid:Int)(c:Cal)(hv:SpcV s.spc)(hm:s.spc.mounts.length≤1000)(ht:TabB s.tab)(htn:Cx s.tab)(hcp:c.paths.length≤1000)(hca:c.args.length≤1000)(h6:(Bj c.num).2.2.1=0):AFn Tryz.prog 35 [.agg (BZ s), .v (.int .i64 pid), .agg (DA c)] (fun r=>r=JJ (Bh s pid c)):=by
 have hsb:=hv.b hm
 have hwl:EC s pid c=⟨s,AU s.tab pid,c,(Dh s (AU s.tab pid) c).2.1,{DX with items:=(Dh s (AU s.tab pid) c).1}⟩:=rfl
 refine enter Tryz.func35 rfl rfl rfl rfl rfl 0 rfl ?_
 refine w_ (b_ (h:=b_ (h:=AW (h:=AW (h:=e_ (w_ (f_ (h:=l_ (h:=m_ (h:=?_))))))))))
 refine A6 rfl (AK (Fl s.tab pid ht) ?_)
 rintro r rfl
 refine m_ (h:=x_ (h:=x_ (h:=AW (h:=s_ (h:=a_ (h:=e_ (q_ (w_ (m_ (h:=BC (h:=e_ (?_))))))))))))
 refine A8 rfl (fun hb1=>?_) (fun hb1=>?_)
 ·have hc1:=bp hb1
  have hno:C1 s.tab pid=false:=by simpa using hc1
  refine w_ (l_ (h:=?_))
  refine A6 rfl (AK (Ge s hsb ht) ?_)
  rintro r rfl
  refine A6 rfl (ET (y:= .agg (Di {DX with exit:= -4})) (Co ⟨rfl,rfl⟩) ?_)
  refine s_ (h:=s_ (h:=e_ (A4 (A7 (?_)))))
  refine AB ?_
  rw[Bh,if_pos hno];rfl
 have hc1:=bp hb1
 have hno:¬C1 s.tab pid=false:=by simpa using hc1
 refine AJ (q_ (w_ (l_ (h:=?_))))
 refine A6 rfl (AK (RC c hcp hca) ?_)
 rintro r rfl
 refine BK (h:=e_ (?_))
 refine A8 rfl (fun hb2=>?_) (fun hb2=>?_)
 ·have hc2:=bp hb2
  have hck:Bb c≠0:=by simpa using hc2
  refine w_ (l_ (h:=?_))
  refine A6 rfl (AK (Ge s hsb ht) ?_)
  rintro r rfl
  refine A6 rfl (ET (y:= .agg (Di {DX with exit:= -22})) (Co ⟨rfl,rfl⟩) ?_)
  refine s_ (h:=s_ (h:=e_ (A4 (A7 (?_)))))
  refine AB ?_
  rw[Bh,if_neg hno,if_pos hck];rfl
 have hc2:=bp hb2
 have hck:Bb c=0:=by simpa using hc2
 obtain⟨hk1,hk2,hk3,hk4,hk5⟩:=RR hck
 have hargs:∀p∈(CL s pid c).c.args,p.size≤1000:=fun p hp=>by have:=hk5 p hp;omega
 have hp0:c.paths=[]:=by rw[h6]at hk1;exact List.length_eq_zero_iff.1 (by omega)
 have hpz:(CL s pid c).c.paths=[]:=hp0
 have h9:(CL s pid c).c.num=9→0<(CL s pid c).c.args.length:=fun q=>absurd q (WR h6).2.2.2.1
 have h19:(CL s pid c).c.num=19→0<(CL s pid c).c.args.length:=fun q=>by have q2:c.num=19:=q;rw[q2]at hk2;have:(Bj 19).2.2.2.1=1:=rfl;show 0<c.args.length;omega
 have hlok:=iK (s:=s) (p:=AU s.tab pid) hp0
 have hwk:EC s pid c=CL s pid c:=by rw[hwl,hlok];rfl
 refine AJ (q_ (BF ([(0,BZ s),(1,DA c),(4,Av (AU s.tab pid))]) 7 (h:=?_)))
 refine AD 0 (h:=?_)
 refine AD 2 (h:=?_)
 refine AD 3 (h:=?_)
 refine c_ 1 rfl (AK (Ge s hsb ht) ?_)
 rintro r rfl
 refine o_ (h:=?_)
 refine Bn 4 rfl (fun _ hS=>En (y:= .agg (Cu (CL s pid c) (.v (.slice none 0 0)) (.v (.slice none 0 0)))) (Co ⟨rfl,rfl⟩) (RU s pid c) ⟨rfl,rfl⟩) ?_
 refine c_ 5 rfl (Lt rfl rfl (by repeat constructor) ?_)
 refine o_ (h:=BB 6 (h:=z_ (h:=t_ (?_))))
 refine B5 (fun S=>S=⟨look [(3, .bp 2 0),(6, .bp 3 0),(7, .bp 4 0),(10, .bp 0 0),(11, .v (.int .i64 (Cf (AU s.tab pid) c)))],⟨[WN (CL s pid c),DA c,BZ s,Ei,FG],[]⟩⟩) ?_ ?_
 ·skip
  refine AP (m_ (h:=m_ (h:=?_)))
  refine A6 rfl (Cg 1 rfl (.cons _ _ _ _ _ rfl (LeA.of_eq rfl) .nil) (RT (CL s pid c) (.v (.slice none 0 0)) (.v (.slice none 0 0)) h9 hargs) ?_)
  rintro r rfl
  refine⟨rfl,?_⟩
  refine A6 rfl (BW [5] rfl (.cons _ _ _ _ _ rfl (LeA.refl _) (.cons _ _ _ _ _ rfl (LeA.refl _) .nil)) (by decide) (.cons _ _ _ _ _ rfl rfl .nil) (hH (CL s pid c) (Cf (AU s.tab pid) c) hpz) ?_)
  rintro r bc tc ⟨rfl,rfl,rfl⟩
  refine⟨rfl,_,iG (CL s pid c),?_⟩
  refine a_ (h:=AO (?_))
  refine AF ?_
  exact⟨_,rfl,E7 [5,1,0,2,3] (fun i hi=>absurd hi (Nat.not_lt_zero i)) (by decide) (.cons _ _ _ _ _ rfl rfl (.cons _ _ _ _ _ rfl rfl (.cons _ _ _ _ _ rfl rfl (.cons _ _ _ _ _ rfl rfl (.cons _ _ _ _ _ rfl rfl .nil))))) (by repeat (first|exact SubK.nil|refine SubK.cons _ _ _ _ rfl (LeA.refl _) ?_))⟩
 rintro S rfl
 refine w_ (m_ (h:=k_ (h:=f_ (h:=f_ (h:=l_ (h:=?_))))))
 refine A6 rfl (gX rfl rfl ?_)
 refine a_ (h:=e_ (?_))
 refine B5 (fun S=>∃(W2:Wrk) (E2:Int),((¬Cf (AU s.tab pid) c=0∧E2=Cf (AU s.tab pid) c)∨(Cf (AU s.tab pid) c=0∧W2=(B9 (CL s pid c)).1∧E2=(B9 (CL s pid c)).2))∧S=⟨look [(3, .bp 2 0),(6, .bp 3 0),(7, .bp 4 0),(10, .bp 0 0),(11, .v (.int .i64 E2)),(12, .v (.slice none 0 0))],⟨[WN W2,DA c,BZ s,Ei,FG],[]⟩⟩) ?_ ?_
 ·skip
  refine w_ (m_ (h:=AQ (h:=e_ (?_))))
  refine A8 rfl (fun hb3=>?_) (fun hb3=>?_)
  ·have hc3:=bp hb3
   have he1:Cf (AU s.tab pid) c=0:=by simpa using hc3
   refine AP (m_ (h:=?_))
   refine A6 rfl (BW [0] rfl (.cons _ _ _ _ _ rfl (LeA.refl _) .nil) (by decide) (.cons _ _ _ _ _ rfl rfl .nil) (hZ (CL s pid c) hsb ht htn h19 (WR h6)) ?_)
   rintro r bc tc ⟨rfl,rfl,rfl⟩
   refine⟨rfl,_,Hr ((B9 (CL s pid c)).1),?_⟩
   refine a_ (h:=AO (?_))
   refine AF ?_
   exact⟨_,⟨(B9 (CL s pid c)).1,(B9 (CL s pid c)).2, .inr ⟨he1,rfl,rfl⟩,rfl⟩,B1 5 0 rfl rfl rfl (by simp[Ag,Ab,Ac,BD,WN,BZ,Ei,FG,DA]) ((by repeat (first|exact Sub.nil|refine Sub.cons _ _ _ rfl rfl ?_|refine Sub.any _ _ ?_|refine Sub.sl _ _ _ _ _ rfl ?_|refine Sub.slnil _ _ _ rfl ?_)))⟩
  have hc3:=bp hb3
  have he1:¬Cf (AU s.tab pid) c=0:=by simpa using hc3
  refine BA (?_)
  refine AF ?_
  first|exact⟨_,⟨(B9 (CL s pid c)).1,(B9 (CL s pid c)).2, .inr ⟨he1,rfl,rfl⟩,rfl⟩,B1 5 0 rfl rfl rfl (by simp[Ag,Ab,Ac,BD,WN,BZ,Ei,FG,DA]) ((by repeat (first|exact Sub.nil|refine Sub.cons _ _ _ rfl rfl ?_|refine Sub.any _ _ ?_|refine Sub.sl _ _ _ _ _ rfl ?_|refine Sub.slnil _ _ _ rfl ?_)))⟩|exact⟨_,⟨CL s pid c,_, .inl ⟨he1,rfl⟩,rfl⟩,B1 5 0 rfl rfl rfl (by simp[Ag,Ab,Ac,BD,WN,BZ,Ei,FG,DA]) ((by repeat (first|exact Sub.nil|refine Sub.cons _ _ _ rfl rfl ?_|refine Sub.any _ _ ?_|refine Sub.sl _ _ _ _ _ rfl ?_|refine Sub.slnil _ _ _ rfl ?_)))⟩
 rintro S ⟨W2,E2,hQ,rfl⟩
 refine q_ (w_ (m_ (h:=BK (h:=e_ (?_)))))
 refine A8 rfl (fun hb4=>?_) (fun hb4=>?_)
 ·have hc4:=bp hb4
  have he2:E2≠0:=by simpa using hc4
  have hrun:Bh s pid c=(s,{DX with exit:=F1 E2}):=by
   rw[Bh,if_neg hno,if_neg (by simp[hck]),hlok]
   rcases hQ with⟨q1,q2⟩|⟨q1,q2,q3⟩
   ·rw[if_pos q1,←q2]
    rfl
   rw[if_neg (by simp[q1]),hwk,←q3,if_pos he2]
   rfl
  refine w_ (l_ (h:=?_))
  refine A6 rfl (AK (Ge s hsb ht) ?_)
  rintro r rfl
  refine m_ (h:=?_)
  refine A6 rfl (RX rfl ?_)
  refine m_ (h:=?_)
  refine A6 rfl (ET (y:= .agg (Di {DX with exit:=F1 E2})) (Co ⟨rfl,rfl⟩) ?_)
  refine s_ (h:=s_ (h:=e_ (A4 (A7 (?_)))))
  refine Ai (r:=JJ (Bh s pid c)) none (h5:=(by rw[hrun];exact(by repeat (first|exact LeA.refl _|exact LeA.nil _|exact LeL.refl _|refine LeA.agg ?_|refine LeA.tup ?_|exact LeL.nil|refine LeL.cons ?_ ?_|exact LeA.any _)))) (h6:=⟨rfl,rfl,rfl⟩)
 have hc4:=bp hb4
 have he2:E2=0:=by simpa using hc4
 have hrun:Bh s pid c=(W2.s,W2.r)∧W2.r.items=[]:=by
  rcases hQ with⟨q1,q2⟩|⟨q1,q2,q3⟩
  ·exact absurd (q2.symm.trans he2) q1
  refine⟨?_,?_⟩
  ·rw[Bh,if_neg hno,if_neg (by simp[hck]),hlok,if_neg (by simp[q1]),hwk,←q3,if_neg (by simp[he2]),q2]
  refine List.length_eq_zero_iff.1 ?_
  rw[q2,Ra]
  rfl
 refine AJ (q_ (BF ([(0,WN W2)]) 10 (h:=AN 0 (h:=B7 1 (h:=AE 2 (h:=AD 3 (h:=AN 4 (h:=B7 5 (h:=AE 6 (h:=AD 7 (h:=?_)))))))))))
 refine Az 8 rfl (Aw rfl rfl rfl rfl rfl rfl (by repeat constructor) (by repeat constructor) ?_)
 refine o_ (h:=?_)
 refine Az 9 rfl (Aw rfl rfl rfl rfl rfl rfl (by repeat constructor) (by repeat constructor) ?_)
 refine o_ (h:=z_ (h:=t_ (A4 (?_))))
 refine Ai (r:=JJ (Bh s pid c)) none (h5:=?_) (h6:=⟨rfl,rfl,rfl⟩)
 rw[hrun.1,JJ,Di,hrun.2]
 exact(by repeat (first|exact LeA.refl _|exact LeA.nil _|exact LeL.refl _|refine LeA.agg ?_|refine LeA.tup ?_|exact LeL.nil|refine LeL.cons ?_ ?_|exact LeA.any _))
theorem N1(s:Syst)(pid:Int)(c:Cal)(hv:SpcV s.spc)(hm:s.spc.mounts.length≤1000)(ht:TabB s.tab)(htn:Cx s.tab)(hcp:c.paths.length≤1000)(hca:c.args.length≤1000):AFn Tryz.prog 35 [.agg (BZ s), .v (.int .i64 pid), .agg (DA c)] (fun r=>r=JJ (Bh s pid c)):=by
 rcases iE c.num with h|h
 ·exact iJ s pid c hv hm ht hcp hca h
 exact iL s pid c hv hm ht htn hcp hca h
end
structure Wch where
 kind:Int
 dir:A9
 name:AG
 file:A9
deriving DecidableEq
def FO:Wch:=⟨0,(0,0),⟨#[]⟩,(0,0)⟩
def CM(w:Wch):List AV:=[.v (.int .i64 w.kind), .v (.int .i64 w.dir.1), .v (.int .i64 w.dir.2), .v (.string w.name), .v (.int .i64 w.file.1), .v (.int .i64 w.file.2)]
def KX(s:Spc)(a:A9):Bool:=AY s.files a&&By s a.1
def GB(s:Spc)(k:Int)(p:AG):Wch×Int:=
 if(k≠1∧k≠2)∨Dp p.data.toList=false then(FO,22)
 else if(Bi s (0,0) p (decide (k=2))).2≠0 then(FO,(Bi s (0,0) p (decide (k=2))).2)
 else if k=2 then
  (if(Bi s (0,0) p true).1.ex=false then(FO,2)else if AY s.files (Bi s (0,0) p true).1.file=false then(FO,20)
  else(⟨k,(0,0),⟨#[]⟩,(Bi s (0,0) p true).1.file⟩,0))
 else if(Bi s (0,0) p false).1.name=⟨#[]⟩then(FO,22)
 else(⟨k,(Bi s (0,0) p false).1.dir,(Bi s (0,0) p false).1.name,(AM s.files (Bi s (0,0) p false).1.dir (Bi s (0,0) p false).1.name).1⟩,0)
def DZ(s:Spc)(a b:A9):Bool:=decide (a∈BH s (BQ s.files) b)
def Bz(s:Spc)(w:Wch)(dir:A9)(name:AG)(file:A9):Bool:=
 if w.kind=1 then(decide (w.file≠(0,0))&&decide (file=w.file))||(decide (name≠⟨#[]⟩)&&decide (dir=w.dir)&&decide (name=w.name))
 else if w.kind=2 then DZ s w.file dir||DZ s w.file file else false
def DP(w:Wch):A9:=if w.kind=2 then w.file else w.dir
def LR(s:Spc)(w:Wch):Wch×Bool:=
 if(w.kind≠1∧w.kind≠2)∨KX s (DP w)=false then(FO,false)
 else if w.kind=1 then({w with file:=(AM s.files w.dir w.name).1},true)else(w,true)
def Rb(w:Wch)(l:List Dm):Wch:=if w.kind=1 then{w with file:=l.foldl (fun a c=>if c.1=w.dir∧c.2.1=w.name then c.2.2.2 else a) w.file}else w
def Og(w:Wch)(gone:Int)(l:List Dm):Wch×Bool:=
 if(w.kind≠1∧w.kind≠2)∨(gone≠0∧gone=(DP w).1)∨((l.any fun c=>decide (c.2.2.1=DP w))=true∧(l.any fun c=>decide (c.2.2.2=DP w))=false)then(FO,false)
 else(Rb w l,true)
theorem Jo(a b:A9)(w:World):(binOp .eql 36 (.agg #[.int .i64 a.1, .int .i64 a.2]) (.agg #[.int .i64 b.1, .int .i64 b.2])).run Tryz.prog w= .ok (.bool (decide (a=b))) w:=KC a.1 a.2 b.1 b.2 w
theorem WS(a b:A9)(w:World):(binOp .neq 36 (.agg #[.int .i64 a.1, .int .i64 a.2]) (.agg #[.int .i64 b.1, .int .i64 b.2])).run Tryz.prog w= .ok (.bool (!decide (a=b))) w:=Pg a.1 a.2 b.1 b.2 w
def Rc(R:Wch×Int):AV:= .tup [.agg (CM R.1), .v (.int .i64 R.2)]
def Oh(R:Wch×Bool):AV:= .tup [.agg (CM R.1), .v (.bool R.2)]
theorem WT(s:Spc)(k:Int)(p:AG)(F:Fnd×Int)(hF:Bi s (0,0) p (decide (k=2))=F):GB s k p=if(k≠1∧k≠2)∨Dp p.data.toList=false then(FO,22)else if F.2≠0 then(FO,F.2)
    else if k=2 then(if F.1.ex=false then(FO,2)else if AY s.files F.1.file=false then(FO,20)else(⟨k,(0,0),⟨#[]⟩,F.1.file⟩,0))
    else if F.1.name=⟨#[]⟩then(FO,22)else(⟨k,F.1.dir,F.1.name,(AM s.files F.1.dir F.1.name).1⟩,0):=by
 unfold GB
 rw[hF]
 by_cases h:k=2
 ·rw[decide_eq_true h]at hF
  simp only[if_pos h,hF]
 rw[decide_eq_false h]at hF
 simp only[if_neg h,hF]
theorem iM{f:AZ}{dir:A9}{name:AG}(h:(AM f dir name).2≠0):(AM f dir name).1=(0,0):=by
 unfold AM at h ⊢
 split
 ·rfl
 rename_i n e
 rw[e]at h
 simp only at h
 split at h
 ·rename_i c
  rw[if_pos c]
  split
  ·rfl
  rename_i e2;rw[e2]at h;exact absurd rfl h
 rename_i c;rw[if_neg c]
section
theorem WU(s:AG)(hs:s.size≤60000):AFn Tryz.prog 51 [.v (.string s)] (fun r=>r= .v (.bool (Dp s.data.toList))):=Ng (us:=[.string s]) fun w=>eV s w (by omega)
theorem Rd(s:Spc)(a:A9)(hs:SpcB s):AFn Tryz.prog 54 [.agg (Ah s), .agg (AA a)] (fun r=>r= .v (.bool (AY s.files a))):=by
 refine enter Tryz.func54 rfl rfl rfl rfl rfl 0 rfl ?_
 refine w_ (b_ (h:=b_ (h:=a_ (h:=e_ (w_ (f_ (h:=l_ (h:=l_ (h:=?_)))))))))
 refine A6 rfl (AK (Hb s.files a hs.files) ?_)
 rintro r rfl
 refine m_ (h:=x_ (h:=x_ (h:=AW (h:=s_ (h:=a_ (h:=e_ (w_ (m_ (h:=m_ (h:=?_))))))))))
 refine Ay true rfl rfl (fun hb1=>?_) (fun hb1=>?_)
 ·have hc1:=bp hb1
  refine f_ (h:=l_ (h:=AQ (h:=Af (h:=a_ (h:=e_ (A4 (?_)))))))
  refine AB ?_
  first|(exfalso;first|contradiction|omega)|(exact vb (by simp[Fv, *]))
 have hc1:=bp hb1
 refine A3 (h:=A3 (h:=A3 (h:=Ak (h:=a_ (h:=e_ (A4 (?_)))))))
 refine AB ?_
 first|(exfalso;first|contradiction|omega)|(exact vb (by simp[Fv, *]))
theorem WV(s:Spc)(a:A9)(hs:SpcB s):AFn Tryz.prog 58 [.agg (Ah s), .agg (AA a)] (fun r=>r= .v (.bool (KX s a))):=by
 refine enter Tryz.func58 rfl rfl rfl rfl rfl 0 rfl ?_
 refine w_ (b_ (h:=b_ (h:=a_ (h:=e_ (w_ (l_ (h:=l_ (h:=?_))))))))
 refine A6 rfl (AK (Rd s a hs) ?_)
 rintro r rfl
 refine m_ (h:=?_)
 refine Ay true rfl rfl (fun hb1=>?_) (fun hb1=>?_)
 ·have hc1:=bp hb1
  refine l_ (h:=f_ (h:=l_ (h:=?_)))
  refine B4 (AK (T4 s a.1 hs) ?_)
  rintro r rfl
  refine Af (h:=a_ (h:=e_ (A4 (?_))))
  refine AB ?_
  first|(exfalso;first|contradiction|omega)|(exact vb (by simp[KX, *]))
 have hc1:=bp hb1
 refine A3 (h:=A3 (h:=A3 (h:=A3 (h:=Ak (h:=a_ (h:=e_ (A4 (?_))))))))
 refine AB ?_
 first|(exfalso;first|contradiction|omega)|(exact vb (by simp[KX, *]))
theorem WW(s:Spc)(a:A9)(name:AG)(hs:SpcB s):AFn Tryz.prog 53 [.agg (Ah s), .agg (AA a), .v (.string name)] (fun r=>r= .agg (AA (AM s.files a name).1)):=by
 refine enter Tryz.func53 rfl rfl rfl rfl rfl 0 rfl ?_
 refine w_ (b_ (h:=b_ (h:=AW (h:=e_ (w_ (f_ (h:=l_ (h:=l_ (h:=m_ (h:=?_))))))))))
 refine A6 rfl (AK (RJ s.files a name hs.files) ?_)
 rintro r rfl
 refine m_ (h:=x_ (h:=x_ (h:=AW (h:=s_ (h:=a_ (h:=e_ (q_ (w_ (m_ (h:=BK (h:=e_ (?_))))))))))))
 refine A8 rfl (fun hb1=>?_) (fun hb1=>?_)
 ·have hc1:=bp hb1
  refine w_ (AT (h:=s_ (h:=e_ (A4 (A7 (?_))))))
  refine AB ?_
  rw[iM (by simpa using hc1)]
  rfl
 have hc1:=bp hb1
 refine AJ (w_ (l_ (h:=s_ (h:=e_ (A4 (?_))))))
 refine AB ?_
 rfl
theorem Re(w:Wch)(hk:w.kind=1∨w.kind=2):AFn Tryz.prog 59 [.agg (CM w)] (fun r=>r= .agg (AA (DP w))):=by
 refine enter Tryz.func59 rfl rfl rfl rfl rfl 0 rfl ?_
 refine w_ (b_ (h:=AW (h:=e_ (q_ (w_ (f_ (h:=l_ (h:=AQ (h:=e_ (?_))))))))))
 refine A8 rfl (fun hb1=>?_) (fun hb1=>?_)
 ·have hc1:=bp hb1
  refine w_ (f_ (h:=l_ (h:=s_ (h:=e_ (A4 (A7 (?_)))))))
  refine AB ?_
  rw[DP,if_neg (by omega)]
  rfl
 have hc1:=bp hb1
 refine AJ (w_ (f_ (h:=l_ (h:=s_ (h:=e_ (A4 (?_)))))))
 refine AB ?_
 rw[DP,if_pos (by omega)]
 rfl
theorem Rf(s:Spc)(k:Int)(p:AG)(hv:SpcV s)(hm:s.mounts.length≤1000)(hp:p.size≤50000):AFn Tryz.prog 18 [.agg (Ah s), .v (.int .i64 k), .v (.string p)] (fun r=>r=Rc (GB s k p)):=by
 have hsb:=hv.b hm
 obtain⟨F,hF⟩:∃F,Bi s (0,0) p (decide (k=2))=F:=⟨_,rfl⟩
 have hw:=WT s k p F hF
 have hfind:AFn Tryz.prog 56 [.agg (Ah s), .agg (AA (0,0)), .v (.string p), .v (.bool (decide (k=2)))] (fun r=>r= .tup [.agg (Al F.1), .v (.int .i64 F.2)]):=by rw[←hF];exact Vj s (0,0) p _ (hv.n hm) hv (by omega)
 refine enter Tryz.func18 rfl rfl rfl rfl rfl 0 rfl ?_
 refine w_ (b_ (h:=AW (h:=a_ (h:=e_ (q_ (?_))))))
 refine B5 (fun S=>S=⟨look [(1, .v (.int .i64 k)),(2, .v (.string p)),(3, .bp 0 0),(6, .bp 1 0),(22, .v (.bool ((!decide (k=1)&& !decide (k=2))|| !Dp p.data.toList)))],⟨[Ah s,[.v (.int .i64 0), .v (.int .i64 0), .v (.int .i64 0), .v (.string ⟨#[]⟩), .v (.int .i64 0), .v (.int .i64 0)]],[]⟩⟩) ?_ ?_
 ·skip
  refine AP (m_ (h:=BK (h:=m_ (h:=?_))))
  refine Ay true rfl rfl (fun hb1=>?_) (fun hb1=>?_)
  ·have hc1:=bp hb1
   refine m_ (h:=BK (h:=Af (h:=m_ (h:=?_))))
   refine Ay false rfl rfl (fun hb2=>?_) (fun hb2=>?_)
   ·have hc2:=bp hb2
    refine A3 (h:=A3 (h:=A3 (h:=Af (h:=AO (?_)))))
    refine AF ?_
    exact⟨_,rfl,C5 2 0 rfl⟩
   have hc2:=bp hb2
   refine m_ (h:=?_)
   refine B4 (AK (Uq p hp) ?_)
   rintro r rfl
   refine BC (h:=Ak (h:=AO (?_)))
   refine AF ?_
   exact⟨_,rfl,C5 2 0 rfl⟩
  have hc1:=bp hb1
  refine A3 (h:=A3 (h:=Ak (h:=m_ (h:=m_ (h:=?_)))))
  refine B4 (AK (Uq p hp) ?_)
  rintro r rfl
  refine BC (h:=Ak (h:=AO (?_)))
  refine AF ?_
  exact⟨_,rfl,C5 2 0 rfl⟩
 rintro S rfl
 refine A8 rfl (fun hb3=>?_) (fun hb3=>?_)
 ·have hc3:=bp hb3
  have k1:(k≠1∧k≠2)∨Dp p.data.toList=false:=by simpa using hc3
  refine w_ (AT (h:=s_ (h:=a_ (h:=e_ (A4 (A7 (?_)))))))
  refine AB ?_
  rw[hw,if_pos k1]
  rfl
 have hc3:=bp hb3
 have k1:¬((k≠1∧k≠2)∨Dp p.data.toList=false):=by simpa using hc3
 refine AJ (w_ (l_ (h:=AT (h:=m_ (h:=m_ (h:=AQ (h:=?_)))))))
 refine A6 rfl (AK (hfind) ?_)
 rintro r rfl
 refine m_ (h:=x_ (h:=x_ (h:=AW (h:=s_ (h:=a_ (h:=e_ (q_ (w_ (m_ (h:=BK (h:=e_ (?_))))))))))))
 refine A8 rfl (fun hb4=>?_) (fun hb4=>?_)
 ·have hc4:=bp hb4
  have k2:F.2≠0:=by simpa using hc4
  refine w_ (AT (h:=m_ (h:=s_ (h:=a_ (h:=e_ (A4 (A7 (?_))))))))
  refine AB ?_
  rw[hw,if_neg k1,if_pos k2]
  rfl
 have hc4:=bp hb4
 have k2:¬F.2≠0:=by simpa using hc4
 refine AJ (q_ (w_ (m_ (h:=AQ (h:=e_ (?_))))))
 refine A8 rfl (fun hb5=>?_) (fun hb5=>?_)
 ·have hc5:=bp hb5
  have k3:k=2:=hc5
  refine q_ (w_ (f_ (h:=l_ (h:=BC (h:=e_ (?_))))))
  refine A8 rfl (fun hb6=>?_) (fun hb6=>?_)
  ·have hc6:=bp hb6
   have k4:F.1.ex=false:=by simpa using hc6
   refine w_ (AT (h:=s_ (h:=a_ (h:=e_ (A4 (A7 (A7 (?_))))))))
   refine AB ?_
   rw[hw,if_neg k1,if_neg k2,if_pos k3,if_pos k4]
   rfl
  have hc6:=bp hb6
  have k4:¬F.1.ex=false:=by simpa using hc6
  refine AJ (q_ (w_ (f_ (h:=l_ (h:=f_ (h:=l_ (h:=?_)))))))
  refine A6 rfl (AK (Gl s.files F.1.file hsb.files) ?_)
  rintro r rfl
  refine BC (h:=e_ (?_))
  refine A8 rfl (fun hb7=>?_) (fun hb7=>?_)
  ·have hc7:=bp hb7
   have k5:AY s.files F.1.file=false:=by simpa using hc7
   refine w_ (AT (h:=s_ (h:=a_ (h:=e_ (A4 (A7 (A7 (?_))))))))
   refine AB ?_
   rw[hw,if_neg k1,if_neg k2,if_pos k3,if_neg k4,if_pos k5]
   rfl
  have hc7:=bp hb7
  have k5:¬AY s.files F.1.file=false:=by simpa using hc7
  refine AJ (w_ (m_ (h:=f_ (h:=l_ (h:=AT (h:=s_ (h:=a_ (h:=e_ (A4 (A7 (?_)))))))))))
  refine AB ?_
  rw[hw,if_neg k1,if_neg k2,if_pos k3,if_neg k4,if_neg k5]
  rfl
 have hc5:=bp hb5
 have k3:¬k=2:=hc5
 refine AJ (q_ (w_ (f_ (h:=l_ (h:=AQ (h:=e_ (?_)))))))
 refine A8 rfl (fun hb8=>?_) (fun hb8=>?_)
 ·have hc8:=bp hb8
  have k6:F.1.name=⟨#[]⟩:=hc8
  refine w_ (AT (h:=s_ (h:=a_ (h:=e_ (A4 (A7 (?_)))))))
  refine AB ?_
  rw[hw,if_neg k1,if_neg k2,if_neg k3,if_pos k6]
  rfl
 have hc8:=bp hb8
 have k6:¬F.1.name=⟨#[]⟩:=hc8
 refine AJ (w_ (f_ (h:=l_ (h:=f_ (h:=l_ (h:=f_ (h:=l_ (h:=?_))))))))
 refine A6 rfl (AK (Gm s.files F.1.dir F.1.name hsb.files) ?_)
 rintro r rfl
 refine m_ (h:=x_ (h:=x_ (h:=AW (h:=s_ (h:=a_ (h:=e_ (w_ (m_ (h:=f_ (h:=l_ (h:=f_ (h:=l_ (h:=l_ (h:=AT (h:=s_ (h:=a_ (h:=e_ (A4 (?_)))))))))))))))))))
 refine AB ?_
 rw[hw,if_neg k1,if_neg k2,if_neg k3,if_neg k6]
 rfl
theorem iN(s:Spc)(k:Int)(p:AG)(hv:SpcV s)(hm:s.mounts.length≤1000)(hp:p.size≤50000):AFn Tryz.prog 17 [.agg (Ah s), .v (.int .i64 k), .v (.string p)] (fun r=>r=Rc (GB s k p)):=by
 have hsb:=hv.b hm
 obtain⟨F,hF⟩:∃F,Bi s (0,0) p (decide (k=2))=F:=⟨_,rfl⟩
 have hw:=WT s k p F hF
 have hfind:AFn Tryz.prog 52 [.agg (Ah s), .agg (AA (0,0)), .v (.string p), .v (.bool (decide (k=2)))] (fun r=>r= .tup [.agg (Al F.1), .v (.int .i64 F.2)]):=by rw[←hF];exact fW s (0,0) p _ (hv.n hm) hv (by omega)
 refine enter Tryz.func17 rfl rfl rfl rfl rfl 0 rfl ?_
 refine w_ (b_ (h:=AW (h:=a_ (h:=e_ (q_ (?_))))))
 refine B5 (fun S=>S=⟨look [(1, .v (.int .i64 k)),(2, .v (.string p)),(3, .bp 0 0),(6, .bp 1 0),(20, .v (.bool ((!decide (k=1)&& !decide (k=2))|| !Dp p.data.toList)))],⟨[Ah s,[.v (.int .i64 0), .v (.int .i64 0), .v (.int .i64 0), .v (.string ⟨#[]⟩), .v (.int .i64 0), .v (.int .i64 0)]],[]⟩⟩) ?_ ?_
 ·skip
  refine AP (m_ (h:=BK (h:=m_ (h:=?_))))
  refine Ay true rfl rfl (fun hb1=>?_) (fun hb1=>?_)
  ·have hc1:=bp hb1
   refine m_ (h:=BK (h:=Af (h:=m_ (h:=?_))))
   refine Ay false rfl rfl (fun hb2=>?_) (fun hb2=>?_)
   ·have hc2:=bp hb2
    refine A3 (h:=A3 (h:=A3 (h:=Af (h:=AO (?_)))))
    refine AF ?_
    exact⟨_,rfl,C5 2 0 rfl⟩
   have hc2:=bp hb2
   refine m_ (h:=?_)
   refine B4 (AK (WU p (by omega)) ?_)
   rintro r rfl
   refine BC (h:=Ak (h:=AO (?_)))
   refine AF ?_
   exact⟨_,rfl,C5 2 0 rfl⟩
  have hc1:=bp hb1
  refine A3 (h:=A3 (h:=Ak (h:=m_ (h:=m_ (h:=?_)))))
  refine B4 (AK (WU p (by omega)) ?_)
  rintro r rfl
  refine BC (h:=Ak (h:=AO (?_)))
  refine AF ?_
  exact⟨_,rfl,C5 2 0 rfl⟩
 rintro S rfl
 refine A8 rfl (fun hb3=>?_) (fun hb3=>?_)
 ·have hc3:=bp hb3
  have k1:(k≠1∧k≠2)∨Dp p.data.toList=false:=by simpa using hc3
  refine w_ (AT (h:=s_ (h:=a_ (h:=e_ (A4 (A7 (?_)))))))
  refine AB ?_
  rw[hw,if_pos k1]
  rfl
 have hc3:=bp hb3
 have k1:¬((k≠1∧k≠2)∨Dp p.data.toList=false):=by simpa using hc3
 refine AJ (w_ (l_ (h:=AT (h:=m_ (h:=m_ (h:=AQ (h:=?_)))))))
 refine A6 rfl (AK (hfind) ?_)
 rintro r rfl
 refine m_ (h:=x_ (h:=x_ (h:=AW (h:=s_ (h:=a_ (h:=e_ (q_ (w_ (m_ (h:=BK (h:=e_ (?_))))))))))))
 refine A8 rfl (fun hb4=>?_) (fun hb4=>?_)
 ·have hc4:=bp hb4
  have k2:F.2≠0:=by simpa using hc4
  refine w_ (AT (h:=m_ (h:=s_ (h:=a_ (h:=e_ (A4 (A7 (?_))))))))
  refine AB ?_
  rw[hw,if_neg k1,if_pos k2]
  rfl
 have hc4:=bp hb4
 have k2:¬F.2≠0:=by simpa using hc4
 refine AJ (q_ (w_ (m_ (h:=AQ (h:=e_ (?_))))))
 refine A8 rfl (fun hb5=>?_) (fun hb5=>?_)
 ·have hc5:=bp hb5
  have k3:¬k=2:=by omega
  refine q_ (w_ (f_ (h:=l_ (h:=AQ (h:=e_ (?_))))))
  refine A8 rfl (fun hb6=>?_) (fun hb6=>?_)
  ·have hc6:=bp hb6
   have k6:F.1.name=⟨#[]⟩:=hc6
   refine w_ (AT (h:=s_ (h:=a_ (h:=e_ (A4 (A7 (A7 (?_))))))))
   refine AB ?_
   rw[hw,if_neg k1,if_neg k2,if_neg k3,if_pos k6]
   rfl
  have hc6:=bp hb6
  have k6:¬F.1.name=⟨#[]⟩:=hc6
  refine AJ (q_ (BF ([(0,Ah s),(2,Al F.1)]) 14 (h:=AN 0 (h:=AE 1 (h:=?_)))))
  refine AD 2 (h:=?_)
  refine AE 3 (h:=?_)
  refine AD 4 (h:=?_)
  refine AD 5 (h:=?_)
  refine AE 6 (h:=?_)
  refine AD 7 (h:=?_)
  refine AE 8 (h:=?_)
  refine AD 9 (h:=?_)
  refine c_ 10 rfl (AK (WW s F.1.dir F.1.name hsb) ?_)
  rintro r rfl
  refine o_ (h:=Gk 11 (h:=?_))
  refine Az 12 rfl (Aw rfl rfl rfl rfl rfl rfl (by repeat constructor) (by repeat constructor) ?_)
  refine o_ (h:=BB 13 (h:=z_ (h:=t_ (A4 (A7 (?_))))))
  refine AB ?_
  rw[hw,if_neg k1,if_neg k2,if_neg k3,if_neg k6]
  rfl
 have hc5:=bp hb5
 have k3:k=2:=by simp at k1;omega
 refine AJ (q_ (w_ (f_ (h:=l_ (h:=BC (h:=e_ (?_)))))))
 refine A8 rfl (fun hb7=>?_) (fun hb7=>?_)
 ·have hc7:=bp hb7
  have k4:F.1.ex=false:=by simpa using hc7
  refine w_ (AT (h:=s_ (h:=a_ (h:=e_ (A4 (A7 (?_)))))))
  refine AB ?_
  rw[hw,if_neg k1,if_neg k2,if_pos k3,if_pos k4]
  rfl
 have hc7:=bp hb7
 have k4:¬F.1.ex=false:=by simpa using hc7
 refine AJ (q_ (w_ (l_ (h:=f_ (h:=l_ (h:=?_))))))
 refine A6 rfl (AK (Rd s F.1.file hsb) ?_)
 rintro r rfl
 refine BC (h:=e_ (?_))
 refine A8 rfl (fun hb8=>?_) (fun hb8=>?_)
 ·have hc8:=bp hb8
  have k5:AY s.files F.1.file=false:=by simpa using hc8
  refine w_ (AT (h:=s_ (h:=a_ (h:=e_ (A4 (A7 (?_)))))))
  refine AB ?_
  rw[hw,if_neg k1,if_neg k2,if_pos k3,if_neg k4,if_pos k5]
  rfl
 have hc8:=bp hb8
 have k5:¬AY s.files F.1.file=false:=by simpa using hc8
 refine AJ (w_ (m_ (h:=f_ (h:=l_ (h:=AT (h:=s_ (h:=a_ (h:=e_ (A4 (?_))))))))))
 refine AB ?_
 rw[hw,if_neg k1,if_neg k2,if_pos k3,if_neg k4,if_neg k5]
 rfl
end
def H3:List AV:=[.v (.int .i64 0), .v (.int .i64 0), .v (.int .i64 0), .v (.string ⟨#[]⟩), .v (.int .i64 0), .v (.int .i64 0)]
theorem WX{α:Type}{l:List α}{j:Nat}{x:α}(h:l[j]?=some x)(p:α→Bool):(l.take (j+1)).any p=((l.take j).any p||p x):=by
 rw[List.take_add_one,h,List.any_append]
 simp
def KY(w:Wch)(l:List Dm):A9:=l.foldl (fun a c=>if c.1=w.dir∧c.2.1=w.name then c.2.2.2 else a) w.file
theorem WY{w:Wch}{l:List Dm}{j:Nat}{c:Dm}(h:l[j]?=some c):KY w (l.take (j+1))=if(decide (c.1=w.dir)&&decide (c.2.1=w.name))=true then c.2.2.2 else KY w (l.take j):=by
 unfold KY
 rw[List.take_add_one,h,List.foldl_append]
 simp
def N2(w:Wch)(l:List Dm):A9:=if w.kind=1 then KY w l else w.file
theorem iO(w:Wch)(l:List Dm):Rb w l={w with file:=N2 w l}:=by
 unfold Rb N2 KY
 split<;>rfl
def Hs(w:Wch)(g:Int):Bool:=(!decide (w.kind=1)&& !decide (w.kind=2))||(!decide (g=0)&&decide (g=(DP w).1))
def H4(w:Wch)(l:List Dm):Bool:=l.any fun c=>decide (c.2.2.1=DP w)
def H5(w:Wch)(l:List Dm):Bool:=l.any fun c=>decide (c.2.2.2=DP w)
theorem WZ{w:Wch}{l:List Dm}{j:Nat}{c:Dm}(h:l[j]?=some c):H4 w (l.take (j+1))=(H4 w (l.take j)||decide (c.2.2.1=DP w)):=WX h _
theorem Wa{w:Wch}{l:List Dm}{j:Nat}{c:Dm}(h:l[j]?=some c):H5 w (l.take (j+1))=(H5 w (l.take j)||decide (c.2.2.2=DP w)):=WX h _
theorem iP(w:Wch)(g:Int)(l:List Dm):Og w g l=if(Hs w g||(H4 w l&& !H5 w l))=true then(FO,false)else({w with file:=N2 w l},true):=by
 rw[←iO]
 unfold Og
 have:((w.kind≠1∧w.kind≠2)∨(g≠0∧g=(DP w).1)∨((l.any fun c=>decide (c.2.2.1=DP w))=true∧(l.any fun c=>decide (c.2.2.2=DP w))=false))↔(Hs w g||(H4 w l&& !H5 w l))=true:=by
  unfold Hs H4 H5
  simp[or_assoc]
 by_cases h:(Hs w g||(H4 w l&& !H5 w l))=true
 ·rw[if_pos h,if_pos (this.2 h)]
 rw[if_neg h,if_neg (fun k=>h (this.1 k))]
section
theorem iQ(s:Spc)(w:Wch)(hs:SpcB s):AFn Tryz.prog 24 [.agg (Ah s), .agg (CM w)] (fun r=>r=Oh (LR s w)):=by
 refine enter Tryz.func24 rfl rfl rfl rfl rfl 0 rfl ?_
 refine w_ (b_ (h:=b_ (h:=AW (h:=a_ (h:=e_ (q_ (?_)))))))
 refine B5 (fun S=>S=⟨look [(2, .bp 0 0),(3, .bp 1 0),(4, .bp 2 0),(20, .v (.bool ((!decide (w.kind=1)&& !decide (w.kind=2))|| !KX s (DP w))))],⟨[Ah s,CM w,H3],[]⟩⟩) ?_ ?_
 ·skip
  refine DU 15 (h:=AE 0 (h:=AD 1 (h:=Kr 2 (h:=AN 3 (h:=?_)))))
  refine H8 (j:=3) rfl (fun hb1=>?_) (fun hb1=>?_)
  ·have hc1:=bp hb1
   refine AE 4 (h:=AD 5 (h:=Kr 6 (h:=HQ 7 (h:=AN 8 (h:=?_)))))
   refine H8 (j:=8) rfl (fun hb2=>?_) (fun hb2=>?_)
   ·have hc2:=bp hb2
    refine BE 9 (h:=BE 10 (h:=BE 11 (h:=BE 12 (h:=BE 13 (h:=HQ 14 (h:=z_ (h:=?_)))))))
    refine AF ?_
    exact⟨_,rfl,C5 3 0 rfl⟩
   have hc2:=bp hb2
   refine AD 9 (h:=AD 10 (h:=?_))
   refine c_ 11 rfl (AK (Re w (by omega)) ?_)
   rintro r rfl
   refine o_ (h:=?_)
   refine c_ 12 rfl (AK (WV s (DP w) hs) ?_)
   rintro r rfl
   refine o_ (h:=PX 13 (h:=FW 14 (h:=z_ (h:=?_))))
   refine AF ?_
   exact⟨_,rfl,C5 3 0 rfl⟩
  have hc1:=bp hb1
  refine BE 4 (h:=BE 5 (h:=BE 6 (h:=FW 7 (h:=AN 8 (h:=AD 9 (h:=AD 10 (h:=?_)))))))
  refine c_ 11 rfl (AK (Re w (by omega)) ?_)
  rintro r rfl
  refine o_ (h:=?_)
  refine c_ 12 rfl (AK (WV s (DP w) hs) ?_)
  rintro r rfl
  refine o_ (h:=PX 13 (h:=FW 14 (h:=z_ (h:=?_))))
  refine AF ?_
  exact⟨_,rfl,C5 3 0 rfl⟩
 rintro S rfl
 refine A8 rfl (fun hb3=>?_) (fun hb3=>?_)
 ·have hc3:=bp hb3
  have k1:(w.kind≠1∧w.kind≠2)∨KX s (DP w)=false:=by simpa using hc3
  refine w_ (AT (h:=s_ (h:=a_ (h:=e_ (A4 (A7 (?_)))))))
  refine AB ?_
  rw[LR,if_pos k1]
  rfl
 have hc3:=bp hb3
 have k1:¬((w.kind≠1∧w.kind≠2)∨KX s (DP w)=false):=by simpa using hc3
 refine AJ (q_ (w_ (f_ (h:=l_ (h:=AQ (h:=e_ (?_)))))))
 refine A8 rfl (fun hb4=>?_) (fun hb4=>?_)
 ·have hc4:=bp hb4
  have k2:w.kind=1:=hc4
  refine AP (l_ (h:=f_ (h:=l_ (h:=f_ (h:=l_ (h:=?_))))))
  refine A6 rfl (AK (WW s w.dir w.name hs) ?_)
  rintro r rfl
  refine f_ (h:=s_ (h:=e_ (w_ (l_ (h:=s_ (h:=a_ (h:=e_ (A4 (?_)))))))))
  refine AB ?_
  rw[LR,if_neg k1,if_pos k2]
  rfl
 have hc4:=bp hb4
 have k2:¬w.kind=1:=hc4
 refine AJ (w_ (l_ (h:=s_ (h:=a_ (h:=e_ (A4 (?_)))))))
 refine AB ?_
 rw[LR,if_neg k1,if_neg k2]
 rfl
theorem iR(w:Wch)(r:Res)(hl:r.changes.length≤1000):AFn Tryz.prog 33 [.agg (CM w), .agg (Di r)] (fun x=>x=Oh (Og w r.gone r.changes)):=by
 rw[iP]
 refine enter Tryz.func33 rfl rfl rfl rfl rfl 0 rfl ?_
 refine w_ (b_ (h:=b_ (h:=AW (h:=a_ (h:=e_ (q_ (?_)))))))
 refine B5 (fun S=>S=⟨look [(2, .bp 0 0),(3, .bp 1 0),(4, .bp 2 0),(20, .v (.bool (!decide (w.kind=1)&& !decide (w.kind=2))))],⟨[CM w,Di r,H3],[]⟩⟩) ?_ ?_
 ·skip
  refine AP (f_ (h:=l_ (h:=BK (h:=m_ (h:=?_)))))
  refine Ay true rfl rfl (fun hb1=>?_) (fun hb1=>?_)
  ·have hc1:=bp hb1
   refine f_ (h:=l_ (h:=BK (h:=Af (h:=AO (?_)))))
   refine AF ?_
   exact⟨_,rfl,C5 3 0 rfl⟩
  have hc1:=bp hb1
  refine A3 (h:=A3 (h:=A3 (h:=Ak (h:=AO (?_)))))
  refine AF ?_
  exact⟨_,rfl,C5 3 0 rfl⟩
 rintro S rfl
 refine A8 rfl (fun hb2=>?_) (fun hb2=>?_)
 ·have hc2:=bp hb2
  have k1:(Hs w r.gone||(H4 w r.changes&& !H5 w r.changes))=true:=by simp[Hs]at hc2 ⊢;simp[hc2]
  refine w_ (AT (h:=s_ (h:=a_ (h:=e_ (A4 (A7 (?_)))))))
  refine AB ?_
  rw[if_pos k1]
  rfl
 have hc2:=bp hb2
 have k0:w.kind=1∨w.kind=2:=by simp at hc2;omega
 refine AJ (w_ (l_ (h:=?_)))
 refine A6 rfl (AK (Re w k0) ?_)
 rintro r rfl
 refine AW (h:=s_ (h:=e_ (q_ (?_))))
 refine B5 (fun S=>S=⟨look [(2, .bp 0 0),(3, .bp 1 0),(4, .bp 2 0),(6, .bp 3 0),(33, .v (.bool (!decide (r.gone=0)&&decide (r.gone=(DP w).1))))],⟨[CM w,Di r,H3,AA (DP w)],[]⟩⟩) ?_ ?_
 ·skip
  refine AP (f_ (h:=l_ (h:=BK (h:=m_ (h:=?_)))))
  refine Ay true rfl rfl (fun hb3=>?_) (fun hb3=>?_)
  ·have hc3:=bp hb3
   refine f_ (h:=l_ (h:=f_ (h:=l_ (h:=AQ (h:=Af (h:=AO (?_)))))))
   refine AF ?_
   exact⟨_,rfl,C5 4 0 rfl⟩
  have hc3:=bp hb3
  refine A3 (h:=A3 (h:=A3 (h:=A3 (h:=A3 (h:=Ak (h:=AO (?_)))))))
  refine AF ?_
  exact⟨_,rfl,C5 4 0 rfl⟩
 rintro S rfl
 refine A8 rfl (fun hb4=>?_) (fun hb4=>?_)
 ·have hc4:=bp hb4
  have k1:(Hs w r.gone||(H4 w r.changes&& !H5 w r.changes))=true:=by unfold Hs;rw[hb4];simp
  refine w_ (AT (h:=s_ (h:=a_ (h:=e_ (A4 (A7 (?_)))))))
  refine AB ?_
  rw[if_pos k1]
  rfl
 have hc4:=bp hb4
 have k1:Hs w r.gone=false:=by unfold Hs;rw[hb4];rcases k0 with h|h<;>simp[h]
 refine AJ (w_ (a_ (h:=a_ (h:=e_ (q_ (w_ (f_ (h:=l_ (h:=n_ (h:=m_ (h:=e_ (Am (?_)))))))))))))
 refine Ba (fun m S=>∃j:Nat,j≤r.changes.length∧m=r.changes.length - j∧S=⟨look [(2, .bp 0 0),(3, .bp 1 0),(4, .bp 2 0),(6, .bp 3 0),(7, .v (.bool (H4 w (r.changes.take j)))),(8, .v (.bool (H5 w (r.changes.take j)))),(36, .sl 7 (r.changes.map CN) none),(37, .v (.int .i64 ((r.changes.map CN).length:Int))),(38, .v (.int .i64 (j:Int)))],⟨[CM w,Di r,H3,AA (DP w)],[]⟩⟩) (r.changes.length) ((wk 4 0)) (⟨0,Nat.zero_le _,rfl,rfl⟩) ?_
 rintro m S ⟨j,hj,rfl,rfl⟩
 refine w_ (BG (h:=e_ (q_ (?_))))
 refine A8 rfl (fun hb5=>?_) (fun hb5=>?_)
 ·have hc5:=bp hb5
  obtain⟨hlt,c,hy,hrow, -⟩:=CZ CN hc5
  refine AJ (q_ (Am (w_ (i_ (h:=l_ (h:=AW (h:=s_ (h:=e_ (?_)))))))))
  refine B5 (fun S=>S=⟨look [(2, .bp 0 0),(3, .bp 1 0),(4, .bp 2 0),(6, .bp 3 0),(7, .v (.bool (H4 w (r.changes.take j)||decide (c.2.2.1=DP w)))),(8, .v (.bool (H5 w (r.changes.take j)))),(10, .bp 4 0),(36, .sl 7 (r.changes.map CN) none),(37, .v (.int .i64 ((r.changes.map CN).length:Int))),(38, .v (.int .i64 (j:Int)))],⟨[CM w,Di r,H3,AA (DP w),CN c],[]⟩⟩) ?_ ?_
  ·skip
   refine AP (m_ (h:=m_ (h:=?_)))
   refine Ay false rfl rfl (fun hb6=>?_) (fun hb6=>?_)
   ·have hc6:=bp hb6
    refine A3 (h:=A3 (h:=A3 (h:=A3 (h:=Af (h:=a_ (h:=AO (?_)))))))
    refine AF ?_
    exact⟨_,rfl,C5 5 0 rfl⟩
   have hc6:=bp hb6
   refine f_ (h:=l_ (h:=l_ (h:=?_)))
   refine B4 (ER rfl rfl (by repeat constructor) (by repeat constructor) (fun W=>Jo c.2.2.1 (DP w) W) (by kernel_rfl) ?_)
   refine Ak (h:=a_ (h:=AO (?_)))
   refine AF ?_
   exact⟨_,rfl,C5 5 0 rfl⟩
  rintro S rfl
  refine AP (m_ (h:=m_ (h:=?_)))
  refine Ay false rfl rfl (fun hb7=>?_) (fun hb7=>?_)
  ·have hc7:=bp hb7
   refine A3 (h:=A3 (h:=A3 (h:=A3 (h:=Af (h:=a_ (h:=AO (Ax (t_ (AP (B8 (h:=m_ (h:=AO (?_)))))))))))))
   refine AF ?_
   refine⟨_,_,?_,⟨j+1,by omega,rfl,rfl⟩,?_⟩
   ·omega
   rw[WZ hy,Wa hy]
   exact C5 4 0 rfl
  have hc7:=bp hb7
  refine f_ (h:=l_ (h:=l_ (h:=?_)))
  refine B4 (ER rfl rfl (by repeat constructor) (by repeat constructor) (fun W=>Jo c.2.2.2 (DP w) W) (by kernel_rfl) ?_)
  refine Ak (h:=a_ (h:=AO (Ax (t_ (AP (B8 (h:=m_ (h:=AO (?_)))))))))
  refine AF ?_
  refine⟨_,_,?_,⟨j+1,by omega,rfl,rfl⟩,?_⟩
  ·omega
  rw[WZ hy,Wa hy]
  exact C5 4 0 rfl
 have hc5:=bp hb5
 have e:=Ck CN hj hc5
 subst e
 rw[List.take_length]
 refine BR (Aq (Aq (BS (t_ (q_ (?_))))))
 refine B5 (fun S=>S=⟨look [(2, .bp 0 0),(3, .bp 1 0),(4, .bp 2 0),(61, .v (.bool (H4 w r.changes&& !H5 w r.changes)))],⟨[CM w,Di r,H3],[]⟩⟩) ?_ ?_
 ·skip
  refine AP (m_ (h:=m_ (h:=?_)))
  refine Ay true rfl rfl (fun hb8=>?_) (fun hb8=>?_)
  ·have hc8:=bp hb8
   refine m_ (h:=BC (h:=Af (h:=AO (?_))))
   refine AF ?_
   exact⟨_,rfl,C5 3 0 rfl⟩
  have hc8:=bp hb8
  refine A3 (h:=A3 (h:=Ak (h:=AO (?_))))
  refine AF ?_
  exact⟨_,rfl,C5 3 0 rfl⟩
 rintro S rfl
 refine A8 rfl (fun hb9=>?_) (fun hb9=>?_)
 ·have hc9:=bp hb9
  refine w_ (AT (h:=s_ (h:=a_ (h:=e_ (A4 (A7 (?_)))))))
  refine AB ?_
  rw[if_pos (by simp[*])]
  rfl
 have hc9:=bp hb9
 refine AJ (q_ (w_ (f_ (h:=l_ (h:=AQ (h:=e_ (?_)))))))
 refine A8 rfl (fun hb10=>?_) (fun hb10=>?_)
 ·have hc10:=bp hb10
  have k3:w.kind=1:=hc10
  refine w_ (f_ (h:=l_ (h:=n_ (h:=m_ (h:=e_ (Am (?_)))))))
  refine Ba (fun m S=>∃j:Nat,j≤r.changes.length∧m=r.changes.length - j∧S=⟨look [(2, .bp 0 0),(3, .bp 1 0),(4, .bp 2 0),(67, .sl 7 (r.changes.map CN) none),(68, .v (.int .i64 ((r.changes.map CN).length:Int))),(69, .v (.int .i64 (j:Int)))],⟨[CM {w with file:=KY w (r.changes.take j)},Di r,H3],[]⟩⟩) (r.changes.length) ((wk 3 0)) (⟨0,Nat.zero_le _,rfl,rfl⟩) ?_
  rintro m S ⟨j,hj,rfl,rfl⟩
  refine w_ (BG (h:=e_ (q_ (?_))))
  refine A8 rfl (fun hb11=>?_) (fun hb11=>?_)
  ·have hc11:=bp hb11
   obtain⟨hlt,c,hy,hrow, -⟩:=CZ CN hc11
   refine AJ (q_ (Am (w_ (i_ (h:=l_ (h:=AW (h:=s_ (h:=e_ (?_)))))))))
   refine B5 (fun S=>S=⟨look [(2, .bp 0 0),(3, .bp 1 0),(4, .bp 2 0),(12, .bp 3 0),(67, .sl 7 (r.changes.map CN) none),(68, .v (.int .i64 ((r.changes.map CN).length:Int))),(69, .v (.int .i64 (j:Int))),(84, .v (.bool (decide (c.1=w.dir)&&decide (c.2.1=w.name))))],⟨[CM {w with file:=KY w (r.changes.take j)},Di r,H3,CN c],[]⟩⟩) ?_ ?_
   ·skip
    refine AP (f_ (h:=l_ (h:=f_ (h:=l_ (h:=?_)))))
    refine A6 rfl (ER rfl rfl (by repeat constructor) (by repeat constructor) (fun W=>Jo c.1 w.dir W) (by kernel_rfl) ?_)
    refine m_ (h:=?_)
    refine Ay true rfl rfl (fun hb12=>?_) (fun hb12=>?_)
    ·have hc12:=bp hb12
     refine f_ (h:=l_ (h:=f_ (h:=l_ (h:=AQ (h:=Af (h:=AO (?_)))))))
     refine AF ?_
     exact⟨_,rfl,C5 4 0 rfl⟩
    have hc12:=bp hb12
    refine A3 (h:=A3 (h:=A3 (h:=A3 (h:=A3 (h:=Ak (h:=AO (?_)))))))
    refine AF ?_
    exact⟨_,rfl,C5 4 0 rfl⟩
   rintro S rfl
   refine A8 rfl (fun hb13=>?_) (fun hb13=>?_)
   ·have hc13:=bp hb13
    refine AP (f_ (h:=l_ (h:=f_ (h:=s_ (h:=AO (Ax (t_ (AP (B8 (h:=m_ (h:=AO (?_))))))))))))
    refine AF ?_
    refine⟨_,_,?_,⟨j+1,by omega,rfl,rfl⟩,?_⟩
    ·omega
    rw[WY hy]
    (rw[if_pos ‹(decide (c.1=w.dir)&&decide (c.2.1=w.name))=true›];exact B1 3 0 rfl rfl rfl rfl ((by repeat (first|exact Sub.nil|refine Sub.cons _ _ _ rfl rfl ?_|refine Sub.any _ _ ?_|refine Sub.sl _ _ _ _ _ rfl ?_|refine Sub.slnil _ _ _ rfl ?_))))
   have hc13:=bp hb13
   refine BA (Ax (t_ (AP (B8 (h:=m_ (h:=AO (?_)))))))
   refine AF ?_
   refine⟨_,_,?_,⟨j+1,by omega,rfl,rfl⟩,?_⟩
   ·omega
   rw[WY hy]
   first|(rw[if_pos ‹(decide (c.1=w.dir)&&decide (c.2.1=w.name))=true›];exact B1 3 0 rfl rfl rfl rfl ((by repeat (first|exact Sub.nil|refine Sub.cons _ _ _ rfl rfl ?_|refine Sub.any _ _ ?_|refine Sub.sl _ _ _ _ _ rfl ?_|refine Sub.slnil _ _ _ rfl ?_))))|(rw[if_neg (by simp[*])];exact B1 3 0 rfl rfl rfl rfl ((by repeat (first|exact Sub.nil|refine Sub.cons _ _ _ rfl rfl ?_|refine Sub.any _ _ ?_|refine Sub.sl _ _ _ _ _ rfl ?_|refine Sub.slnil _ _ _ rfl ?_))))
  have hc11:=bp hb11
  have e:=Ck CN hj hc11
  subst e
  rw[List.take_length]
  refine BR (Aq (Aq (BS (t_ (w_ (l_ (h:=s_ (h:=a_ (h:=e_ (A4 (?_)))))))))))
  refine AB ?_
  rw[if_neg (by simp[*]),N2,if_pos k3]
  rfl
 have hc10:=bp hb10
 have k3:¬w.kind=1:=hc10
 refine AJ (w_ (l_ (h:=s_ (h:=a_ (h:=e_ (A4 (?_)))))))
 refine AB ?_
 rw[if_neg (by simp[*]),N2,if_neg k3]
 rfl
end
section
theorem Wc(l:List Int)(a:Nat)(ha:a≤100000000000):FT Tryz.prog 15 l a [] 4 (fun r=>∃s:ByteArray,r= .v (.string s)∧s.size≤60):=by
 refine enter Tryz.func15 rfl rfl rfl rfl rfl 1 rfl ?_
 refine w_ (a_ (h:=e_ (w_ (a_ (h:=e_ (q_ (w_ (m_ (h:=Bk (h:=?_))))))))))
 refine A6 rfl (BU 0 (hc:=Hj l _ _ (fun z=>decide (1≤z∧z≤3)) (by omega) (by rfl) (by rfl) (by rfl)) (hR:=?_))
 rintro r a1 ha1 ⟨k1,rfl,p1⟩
 refine⟨rfl,_,(by repeat constructor),?_⟩
 obtain⟨hz1,hz2⟩:=of_decide_eq_true p1
 obtain⟨m,rfl⟩:=Int.eq_ofNat_of_zero_le (show 0≤k1 by omega)
 refine a_ (h:=e_ (Am (?_)))
 refine Ba (fun n s=>∃(j a1:Nat) (t:ByteArray),j≤m∧n=j∧a1≤a+1+(m - j)∧t.size≤2 * (m - j)∧s=⟨look [(0, .bp 0 0),(3, .v (.string t)),(4, .v (.int .i64 (j:Int)))],⟨[DQ l a1],[]⟩⟩) (m) ((wk 1 0)) (⟨m,a1,⟨#[]⟩,by omega,rfl,by omega,by rw[Nat.sub_self];exact Nat.le_refl 0,rfl⟩) ?_
 rintro n s ⟨j,b1,t,hj,hn,hb1,ht,rfl⟩
 subst n
 refine q_ (w_ (m_ (h:=CW (h:=e_ (?_)))))
 refine A8 rfl (fun hb1=>?_) (fun hb1=>?_)
 ·have hc1:=bp hb1
  refine AJ (q_ (Am (AP (m_ (h:=m_ (h:=Bk (h:=?_)))))))
  refine A6 rfl (BU 0 (hc:=L8 l _ _ (fun s=>decide (s.size≤1)) (by omega) (by rfl) (by rfl) (by rfl)) (hR:=?_))
  rintro r a2 ha2 ⟨k2,rfl,p2⟩
  refine⟨rfl,_,(by repeat constructor),?_⟩
  have hw:=of_decide_eq_true p2
  refine A6 rfl (Em rfl rfl (by show 1+k2.size≤_;omega) ?_)
  refine A6 rfl (Em rfl rfl (by have e:=ByteArray.size_append (a:=⟨#[47]⟩) (b:=k2);have:(⟨#[47]⟩:ByteArray).size=1:=rfl;omega) ?_)
  refine a_ (h:=AO (Ax (t_ (AP (m_ (h:=Nr (h:=a_ (h:=AO (?_)))))))))
  refine AF ?_
  obtain⟨j,rfl⟩:∃i,j=i+1:=⟨j - 1,by omega⟩
  refine⟨_,_,?_,⟨j,_,_,by omega,rfl,?_,?_,rfl⟩,B1 1 0 rfl rfl rfl rfl (by repeat (first|exact Sub.nil|refine Sub.cons _ _ _ rfl rfl ?_|(apply Sub.of;(focus exact rfl);(focus exact LeA.of_eq (vi (by omega)));(focus exact rfl))))⟩
  ·omega
  ·omega
  have e:=ByteArray.size_append (a:=⟨#[47]⟩) (b:=k2)
  have e2:=ByteArray.size_append (a:=t) (b:=⟨#[47]⟩++k2)
  have:(⟨#[47]⟩:ByteArray).size=1:=rfl
  omega
 have hc1:=bp hb1
 refine BR (Aq (Aq (BS (t_ (w_ (m_ (h:=a_ (h:=e_ (A4 (?_))))))))))
 refine Ai none (h5:=(LeA.refl _)) (h6:=⟨_,rfl,rfl,b1,by omega,rfl,t,rfl,by omega⟩)
end
def Bare(s:Spc):Prop:=FlsV s.files∧0<s.files.length∧s.mounts=[]
theorem Bare.v{s:Spc}(h:Bare s):SpcV s:=⟨h.1,h.2.1,fun i m hm=>by rw[h.2.2]at hm;cases hm⟩
theorem Bare.m{s:Spc}(h:Bare s):s.mounts.length≤1000:=by rw[h.2.2];exact Nat.zero_le _
theorem Wd{w:Wrk}{R:DR}(h:Bare w.s.spc)(hR:JD w.s.spc.files R):Bare (BO w R).1.s.spc:=by
 unfold BO
 split
 ·rename_i h0
  obtain⟨k1,k2⟩:=hR h0
  exact⟨k1,by show 0<R.1.length;rw[k2];exact h.2.1,h.2.2⟩
 exact h
theorem GC:TabB DH:=⟨Nat.zero_le _,(fun p hp=>by cases hp),by decide,by decide⟩
theorem We{t:Tab}(ht:TabB t)(pid:Int)(a:A9)(fl:Int):TabB (EZ t pid a fl).1:=by
 unfold EZ
 split
 ·exact GC
 split
 ·exact GC
 rename_i h8
 refine⟨by simpa[FM]using ht.few,fun p hp=>?_,ht.next,ht.nextS⟩
 simp only[FM,List.mem_map]at hp
 obtain⟨x,hx,rfl⟩:=hp
 split
 ·simp[LF]
  omega
 exact ht.opens x hx
theorem Rg{w:Wrk}{R:Tab×Int}(h:TabB w.s.tab)(hR:TabB R.1):TabB (C4 w R).1.s.tab:=by
 unfold C4
 split
 ·exact hR
 exact h
theorem Wf(w:Wrk)(R:DR):(BO w R).1.s.tab=w.s.tab:=by
 unfold BO
 split<;>rfl
theorem Oi(w:Wrk)(R:Tab×Int):(C4 w R).1.s.spc=w.s.spc:=by
 unfold C4
 split<;>rfl
def Ej(s:Syst):Prop:=Bare s.spc∧TabB s.tab
theorem Wg{w:Wrk}{i:Nat}{n:Nod}(h:Ej w.s):Ej (CR w i n).1.s:=by
 unfold CR
 split
 ·exact⟨Wd h.1 (Qd h.1.1 _ _ _),by show TabB (BO w _).1.s.tab;rw[Wf];exact h.2⟩
 exact h
theorem Wh{w:Wrk}(h:Ej w.s)(a:A9):Ej (G7 w a).1.s:=by
 unfold G7
 exact⟨by rw[Oi];exact h.1,Rg h.2 (We h.2 _ _ _)⟩
theorem iS{w:Wrk}(h:Ej w.s):Ej (C9 w).1.s:=by
 unfold C9
 repeat' split
 all_goals first|with_reducible exact Wg h|with_reducible exact Wh h _|with_reducible exact Wh (Wg h) _|exact h
theorem iT{w:Wrk}{R:DR}{x:A9}(h:Ej w.s)(hR:JD w.s.spc.files R):Ej (GZ w R x).1.s:=by
 have hf:Ej (BO w R).1.s:=⟨Wd h.1 hR,by rw[Wf];exact h.2⟩
 unfold GZ
 repeat' split
 all_goals first|exact h|exact hf
theorem iU{w:Wrk}(h:Ej w.s):Ej (Dg w).1.s:=by
 have hf:FlsV w.s.spc.files:=h.1.1
 unfold Dg
 repeat' split
 all_goals first|with_reducible exact iT h (Qe hf _ _ _ _)|exact h
theorem Rh{s:Syst}{pid:Int}{c:Cal}(h:Ej s)(h6:c.num=6∨c.num=13):Ej (Bh s pid c).1:=by
 have ha:Ej (B9 (EC s pid c)).1.s:=by
  rcases h6 with h6|h6
  ·rw[B9,if_pos (show(EC s pid c).c.num=6 from h6)];exact iS h
  have h13:(EC s pid c).c.num=13:=h6
  rw[B9,if_neg (show¬(EC s pid c).c.num=6 by omega),if_neg (show¬(EC s pid c).c.num=8 by omega),if_neg (show¬((EC s pid c).c.num=10∨(EC s pid c).c.num=12) by omega),if_pos h13];exact iU h
 unfold Bh
 repeat' split
 all_goals first|exact h|exact ha
theorem Oj:Ej (Ga 1).1:=by
 have h:=UJ (k:=1) (by decide) (by decide)
 have e:(Ga 1).1=⟨⟨(EU 1).1,[]⟩,LD (0,1)⟩:=by
  unfold Ga
  rw[if_neg (by decide)]
 rw[e]
 exact⟨⟨h.1,h.2,rfl⟩,⟨by decide,by decide,by decide,by decide⟩⟩
def LS(a:UInt8):AG:=⟨#[47,a]⟩
def Ht(a:UInt8):Cal:=⟨6,6,420,0,0,[LS a],[]⟩
def Ok:Cal:=⟨13,0,0,0,0,[LS 98,LS 97],[]⟩
def LT:Syst:=(Ga 1).1
def KZ:Syst:=(Bh LT 1 (Ht 97)).1
def JK:Syst:=(Bh KZ 1 (Ht 98)).1
def LU:Syst:=(Bh JK 1 Ok).1
def LV:Res:=(Bh JK 1 Ok).2
def JL:Wch:=(GB JK.spc 1 (LS 97)).1
def N3:Wch:=(LR LU.spc JL).1
set_option maxRecDepth 100000 in
theorem iV:(GB JK.spc 1 (LS 97)).2=0∧JL.file.2=2∧(LR LU.spc JL).2=true∧Og JL LV.gone LV.changes=(N3,true)∧N3.file.2=3∧LV.changes.length≤1000∧JL.name.size≤100∧(Ga 1).2=0:=by decide+kernel
theorem Ol:Ej KZ:=Rh Oj (.inl rfl)
theorem LW:Ej JK:=Rh Ol (.inl rfl)
theorem Wi:Ej LU:=Rh LW (.inr rfl)
theorem iW(s:Spc)(k:Int)(p:AG):(GB s k p).1.name.size≤12:=by
 unfold GB
 repeat' split
 all_goals first|exact Nat.zero_le 12|exact RQ _ _ _ _
def LX(x:Wch):List Value:=[.int .i64 x.kind, .int .i64 x.dir.1, .int .i64 x.dir.2, .string x.name, .int .i64 x.file.1, .int .i64 x.file.2]
set_option maxRecDepth 10000 in
set_option maxHeartbeats 1000000 in
theorem iX(op:BinOp)(x:Wch)(w:World)(h:op= .eql∨op= .neq):(binOp op 38 (.agg (LX x).toArray) (.agg (LX x).toArray)).run Tryz.prog w= .ok (.bool (decide (op= .eql))) w:=by
 have u3:=Tryz.underlying3
 have a3:=Tryz.isAgg3
 have z3:=Tryz.sizeOf3
 have u9:=Tryz.underlying9
 have a9:=Tryz.isAgg9
 have z9:=Tryz.sizeOf9
 have u5:=Tryz.underlying36
 have a5:=Tryz.isAgg36
 have z5:=Tryz.sizeOf36
 have hS:Tryz.prog.underlying 38=some (.struct (Tryz.prog.fieldsOf 38)):=by kernel_rfl
 have hp:Tryz.prog.stoodInHeld 38=false:=by kernel_rfl
 have hSF:Tryz.prog.underlying 36=some (.struct (Tryz.prog.fieldsOf 36)):=by kernel_rfl
 have hpF:Tryz.prog.stoodInHeld 36=false:=by kernel_rfl
 have eF:∀(d:Nat) (a b:Int) (w:World),(Op.equalIn (d+2) 36 (.agg #[.int .i64 a, .int .i64 b]) (.agg #[.int .i64 a, .int .i64 b])).run Tryz.prog w= .ok true w:=by
  intro d a b w
  rw[run_equalIn_agg w (d+1) 36 _ _ hSF hpF]
  simp only[Program.fieldsOf,Tryz.underlying36]
  go_simp
 have e:∀w,(Op.equalIn 10000 38 (.agg (LX x).toArray) (.agg (LX x).toArray)).run Tryz.prog w= .ok true w:=by
  intro w
  rw[show(10000:Nat)=9999+1 from rfl,run_equalIn_agg w 9999 38 _ _ hS hp]
  simp only[Program.fieldsOf,Tryz.underlying38,LX]
  go_simp
 rcases h with rfl|rfl
 ·rw[run_eql_struct,e]
  rfl
 rw[run_neq_struct,e]
 rfl
theorem Wj(x:Wch):AllV (CM x) (LX x):=by repeat constructor
theorem iY{ev:Operand→Option AV}{h:AH}{R:AV→AH→Prop}{d:Option Tmp}{ty:TypeId}{pos:String}{af:Array Edge}{gd:Option (Nat×Bool)}{yT:TypeId}{x y:Operand}(z:Wch)(hx:ev x=some (.agg (CM z)))(hy:ev y=some (.agg (CM z)))(hR:R (.v (.bool true)) h):AStep Tryz.prog ⟨d, .binOp .eql 38 x y yT,ty,pos,af,gd⟩ ev h R:=
 ER hx hy (Wj z) (Wj z) (fun w=>iX .eql z w (.inl rfl)) (by kernel_rfl) hR
section
theorem Wl:AFn Tryz.prog 11 [] (fun r=>r= .v (.bool true)):=by
 obtain⟨y1,y2,y3,y4,y5,y6,y7,y8⟩:=iV
 have hnew:AFn Tryz.prog 44 [.v (.int .i64 1)] (fun r=>r= .tup [.agg (BZ LT), .v (.int .i64 0)]):=(Vo 1).mono fun r hr=>by rw[hr,Oc,y8];rfl
 have hr1:AFn Tryz.prog 35 [.agg (BZ LT), .v (.int .i64 1), .agg (DA (Ht 97))] (fun r=>r= .tup [.agg (BZ KZ), .agg (Di (Bh LT 1 (Ht 97)).2)]):=RY _ _ _ Oj.1.v Oj.1.m Oj.2 (by decide) (by decide) (.inl rfl)
 have hr2:AFn Tryz.prog 35 [.agg (BZ KZ), .v (.int .i64 1), .agg (DA (Ht 98))] (fun r=>r= .tup [.agg (BZ JK), .agg (Di (Bh KZ 1 (Ht 98)).2)]):=RY _ _ _ Ol.1.v Ol.1.m Ol.2 (by decide) (by decide) (.inl rfl)
 have hr3:AFn Tryz.prog 35 [.agg (BZ JK), .v (.int .i64 1), .agg (DA Ok)] (fun r=>r= .tup [.agg (BZ LU), .agg (Di LV)]):=RY _ _ _ LW.1.v LW.1.m LW.2 (by decide) (by decide) (.inr rfl)
 have hpl:AFn Tryz.prog 17 [.agg (Ah JK.spc), .v (.int .i64 1), .v (.string (LS 97))] (fun r=>r= .tup [.agg (CM JL), .v (.int .i64 0)]):=(iN _ _ _ LW.1.v LW.1.m (by decide)).mono fun r hr=>by rw[hr,Rc,y1];rfl
 have hfo:AFn Tryz.prog 24 [.agg (Ah LU.spc), .agg (CM JL)] (fun r=>r= .tup [.agg (CM N3), .v (.bool true)]):=(iQ _ _ (Wi.1.v.b Wi.1.m)).mono fun r hr=>by rw[hr,Oh,y3];rfl
 have hch:AFn Tryz.prog 33 [.agg (CM JL), .agg (Di LV)] (fun r=>r= .tup [.agg (CM N3), .v (.bool true)]):=(iR _ _ y6).mono fun r hr=>by rw[hr,y4];rfl
 obtain⟨W,hW⟩:∃W,W=JL:=⟨_,rfl⟩
 obtain⟨U,hU⟩:∃U,U=N3:=⟨_,rfl⟩
 obtain⟨S0,hS0⟩:∃S,S=LT:=⟨_,rfl⟩
 obtain⟨S1,hS1⟩:∃S,S=KZ:=⟨_,rfl⟩
 obtain⟨S2,hS2⟩:∃S,S=JK:=⟨_,rfl⟩
 obtain⟨S3,hS3⟩:∃S,S=LU:=⟨_,rfl⟩
 obtain⟨R1,hR1⟩:∃R,R=(Bh LT 1 (Ht 97)).2:=⟨_,rfl⟩
 obtain⟨R2,hR2⟩:∃R,R=(Bh KZ 1 (Ht 98)).2:=⟨_,rfl⟩
 obtain⟨R3,hR3⟩:∃R,R=LV:=⟨_,rfl⟩
 rw[←hS0]at hnew
 rw[←hR1,←hS1,←hS0]at hr1
 rw[←hR2,←hS2,←hS1]at hr2
 rw[←hR3,←hS3,←hS2]at hr3
 rw[←hW,←hS2]at hpl
 rw[←hU,←hW,←hS3]at hfo
 rw[←hU,←hW,←hR3]at hch
 rw[←hW]at y2
 rw[←hU]at y5
 clear hW hU hS0 hS1 hS2 hS3 hR1 hR2 hR3 y1 y3 y4 y6 y7 y8
 refine enter Tryz.func11 rfl rfl rfl rfl rfl 0 rfl ?_
 refine w_ (a_ (h:=e_ (w_ (?_))))
 refine A6 rfl (AK (hnew) ?_)
 rintro r rfl
 refine m_ (h:=x_ (h:=x_ (h:=AW (h:=s_ (h:=a_ (h:=e_ (w_ (l_ (h:=AT (h:=Bk (h:=?_)))))))))))
 refine A6 rfl (ET (y:= .agg (DA (Ht 97))) (Co ⟨rfl,rfl⟩) ?_)
 refine A6 rfl (AK (hr1) ?_)
 rintro r rfl
 refine m_ (h:=x_ (h:=x_ (h:=s_ (h:=e_ (w_ (l_ (h:=AT (h:=Bk (h:=?_)))))))))
 refine A6 rfl (ET (y:= .agg (DA (Ht 98))) (Co ⟨rfl,rfl⟩) ?_)
 refine A6 rfl (AK (hr2) ?_)
 rintro r rfl
 refine m_ (h:=x_ (h:=x_ (h:=s_ (h:=e_ (w_ (f_ (h:=l_ (h:=?_))))))))
 refine A6 rfl (AK (hpl) ?_)
 rintro r rfl
 refine m_ (h:=x_ (h:=x_ (h:=AW (h:=s_ (h:=a_ (h:=e_ (w_ (l_ (h:=Bk (h:=?_))))))))))
 refine A6 rfl (ET (y:= .agg (DA Ok)) (Co ⟨rfl,rfl⟩) ?_)
 refine A6 rfl (AK (hr3) ?_)
 rintro r rfl
 refine m_ (h:=x_ (h:=x_ (h:=AW (h:=AW (h:=s_ (h:=s_ (h:=e_ (w_ (f_ (h:=l_ (h:=l_ (h:=?_))))))))))))
 refine A6 rfl (AK (hfo) ?_)
 rintro r rfl
 refine m_ (h:=x_ (h:=x_ (h:=AW (h:=s_ (h:=a_ (h:=e_ (w_ (l_ (h:=l_ (h:=?_))))))))))
 refine A6 rfl (AK (hch) ?_)
 rintro r rfl
 refine m_ (h:=x_ (h:=x_ (h:=AW (h:=s_ (h:=a_ (h:=e_ (w_ (m_ (h:=AQ (h:=m_ (h:=?_)))))))))))
 refine Ay true rfl rfl (fun hb1=>?_) (fun hb1=>?_)
 ·have hc1:=bp hb1
  refine f_ (h:=f_ (h:=l_ (h:=AQ (h:=Af (h:=m_ (h:=?_))))))
  refine Ay true rfl rfl (fun hb2=>?_) (fun hb2=>?_)
  ·have hc2:=bp hb2
   refine m_ (h:=Af (h:=m_ (h:=?_)))
   refine Ay true rfl rfl (fun hb3=>?_) (fun hb3=>?_)
   ·have hc3:=bp hb3
    refine m_ (h:=Af (h:=m_ (h:=?_)))
    refine Ay true rfl rfl (fun hb4=>?_) (fun hb4=>?_)
    ·have hc4:=bp hb4
     refine l_ (h:=l_ (h:=?_))
     refine B4 (iY U rfl rfl ?_)
     refine Af (h:=m_ (h:=?_))
     refine Ay true rfl rfl (fun hb5=>?_) (fun hb5=>?_)
     ·have hc5:=bp hb5
      refine f_ (h:=f_ (h:=l_ (h:=AQ (h:=Af (h:=a_ (h:=e_ (A4 (?_))))))))
      refine AB ?_
      first|rfl|(exfalso;first|contradiction|omega)|exact vb (by simp[y5])
     have hc5:=bp hb5
     refine A3 (h:=A3 (h:=A3 (h:=A3 (h:=Ak (h:=a_ (h:=e_ (A4 (?_))))))))
     refine AB ?_
     first|rfl|(exfalso;first|contradiction|omega)
    have hc4:=bp hb4
    refine A3 (h:=A3 (h:=A3 (h:=Ak (h:=m_ (h:=A3 (h:=A3 (h:=A3 (h:=A3 (h:=Ak (h:=a_ (h:=e_ (A4 (?_)))))))))))))
    refine AB ?_
    first|rfl|(exfalso;first|contradiction|omega)
   have hc3:=bp hb3
   refine A3 (h:=Ak (h:=m_ (h:=A3 (h:=A3 (h:=A3 (h:=Ak (h:=m_ (h:=A3 (h:=A3 (h:=A3 (h:=A3 (h:=Ak (h:=a_ (h:=e_ (A4 (?_))))))))))))))))
   refine AB ?_
   first|rfl|(exfalso;first|contradiction|omega)
  have hc2:=bp hb2
  refine A3 (h:=Ak (h:=m_ (h:=A3 (h:=Ak (h:=m_ (h:=A3 (h:=A3 (h:=A3 (h:=Ak (h:=m_ (h:=A3 (h:=A3 (h:=A3 (h:=A3 (h:=Ak (h:=a_ (h:=e_ (A4 (?_)))))))))))))))))))
  refine AB ?_
  first|rfl|(exfalso;first|contradiction|omega)
 have hc1:=bp hb1
 refine A3 (h:=A3 (h:=A3 (h:=A3 (h:=Ak (h:=m_ (h:=A3 (h:=Ak (h:=m_ (h:=A3 (h:=Ak (h:=m_ (h:=A3 (h:=A3 (h:=A3 (h:=Ak (h:=m_ (h:=A3 (h:=A3 (h:=A3 (h:=A3 (h:=Ak (h:=a_ (h:=e_ (?_))))))))))))))))))))))))
 refine A4 (?_)
 refine AB ?_
 first|rfl|(exfalso;first|contradiction|omega)
theorem iZ(l:List Int)(a:Nat)(s:Spc)(ha:a≤100000000)(hv:SpcV s)(hm:s.mounts.length≤1000):FT Tryz.prog 20 l a [.agg (Ah s)] 60 (fun r=>∃(w:Wch) (b:Bool),r=Oh (w,b)∧w.name.size≤100∧(b=true→∃k p,GB s k p=(w,0))∧(b=false→w=FO)):=by
 refine enter Tryz.func20 rfl rfl rfl rfl rfl 1 rfl ?_
 refine w_ (b_ (h:=AW (h:=a_ (h:=e_ (q_ (w_ (a_ (h:=e_ (Am (?_))))))))))
 refine Ba (fun n S=>∃(j b:Nat),j≤6∧n=6 - j∧b≤a+10 * j∧S=⟨look [(0, .bp 0 0),(3, .bp 1 0),(4, .bp 2 0),(6, .v (.int .i64 (j:Int)))],⟨[DQ l b,Ah s,H3],[]⟩⟩) (6) ((wk 3 0)) (⟨0,a,by omega,rfl,by omega,rfl⟩) ?_
 rintro n S ⟨j,b0,hj,rfl,hb0,rfl⟩
 refine q_ (w_ (m_ (h:=BG (h:=e_ (?_)))))
 refine A8 rfl (fun hb1=>?_) (fun hb1=>?_)
 ·have hc1:=bp hb1
  refine AJ (q_ (Am (w_ (m_ (h:=?_)))))
  refine A6 rfl (BU 0 (hc:=Wc l _ (by omega)) (hR:=?_))
  rintro r a1 ha1 ⟨p,rfl,hp⟩
  refine⟨rfl,_,(by repeat constructor),?_⟩
  refine a_ (h:=e_ (?_))
  refine B5 (fun S=>∃(q:AG) (b:Nat),q.size≤60∧b≤a+10 * j+5∧S=⟨look [(0, .bp 0 0),(3, .bp 1 0),(4, .bp 2 0),(6, .v (.int .i64 (j:Int))),(7, .v (.string q))],⟨[DQ l b,Ah s,H3],[]⟩⟩) ?_ ?_
  ·skip
   refine w_ (m_ (h:=?_))
   refine A6 rfl (BU 0 (hc:=Gn l _ (8) (by omega) (by omega)) (hR:=?_))
   rintro r a2 ha2 ⟨k2,rfl,p2,q2,o2⟩
   refine⟨rfl,_,(by repeat constructor),?_⟩
   refine AQ (h:=e_ (?_))
   refine A8 rfl (fun hb2=>?_) (fun hb2=>?_)
   ·have hc2:=bp hb2
    refine AP (a_ (h:=AO (?_)))
    refine AF ?_
    (have h7:k2=7:=‹k2=7›;exact⟨_,⟨⟨#[47]⟩,_,(by decide),(by omega),rfl⟩,B1 3 0 rfl rfl rfl rfl ((by repeat (first|exact Sub.nil|refine Sub.cons _ _ _ rfl rfl ?_|refine Sub.any _ _ ?_|refine Sub.sl _ _ _ _ _ rfl ?_|refine Sub.slnil _ _ _ rfl ?_)))⟩)
   have hc2:=bp hb2
   refine BA (?_)
   refine AF ?_
   first|(have h7:k2=7:=‹k2=7›;exact⟨_,⟨⟨#[47]⟩,_,(by decide),(by omega),rfl⟩,B1 3 0 rfl rfl rfl rfl ((by repeat (first|exact Sub.nil|refine Sub.cons _ _ _ rfl rfl ?_|refine Sub.any _ _ ?_|refine Sub.sl _ _ _ _ _ rfl ?_|refine Sub.slnil _ _ _ rfl ?_)))⟩)|exact⟨_,⟨p,_,hp,(by omega),rfl⟩,B1 3 0 rfl rfl rfl rfl ((by repeat (first|exact Sub.nil|refine Sub.cons _ _ _ rfl rfl ?_|refine Sub.any _ _ ?_|refine Sub.sl _ _ _ _ _ rfl ?_|refine Sub.slnil _ _ _ rfl ?_)))⟩
  rintro S ⟨q,b,hq,hb,rfl⟩
  refine B5 (fun S=>∃(k:Int) (b:Nat),b≤a+10 * (j+1)∧S=⟨look [(0, .bp 0 0),(3, .bp 1 0),(4, .bp 2 0),(6, .v (.int .i64 (j:Int))),(8, .bp 3 0),(9, .v (.int .i64 (GB s k q).2))],⟨[DQ l b,Ah s,H3,CM (GB s k q).1],[]⟩⟩) ?_ ?_
  ·skip
   refine BF ([(1,Ah s)]) 11 (h:=?_)
   refine AD 0 (h:=?_)
   refine AN 1 (h:=AN 3 (h:=?_))
   refine E0 2 8 rfl rfl ?_ ?_
   ·refine BU 0 (hc:=Hi l _ (1) (2) (by omega) (by omega) (by omega) (by omega)) (hR:=?_)
    rintro r a3 ha3 ⟨k3,rfl,p3,q3⟩
    refine⟨rfl,_,(by repeat constructor),?_⟩
    refine o_ (h:=?_)
    refine E0 4 8 rfl rfl ?_ ?_
    ·refine AK (Rf s _ q hv hm (by omega)) ?_
     rintro r rfl
     refine o_ (h:=?_)
     refine AN 5 (h:=B6 6 (h:=B6 7 (h:=?_)))
     refine c_ 8 rfl (Bw (by repeat constructor) ?_)
     refine o_ (h:=?_)
     refine Az 9 rfl (Aw rfl rfl rfl rfl rfl rfl (by repeat constructor) (by repeat constructor) ?_)
     refine o_ (h:=BB 10 (h:=z_ (h:=?_)))
     refine AF ?_
     exact⟨_,⟨_,_,(by omega),rfl⟩,B1 4 0 rfl rfl rfl rfl ((by repeat (first|exact Sub.nil|refine Sub.cons _ _ _ rfl rfl ?_|refine Sub.any _ _ ?_|refine Sub.sl _ _ _ _ _ rfl ?_|refine Sub.slnil _ _ _ rfl ?_)))⟩
    refine Bw (by repeat constructor) ?_
    refine o_ (h:=?_)
    refine c_ 4 rfl (AK (Rf s _ q hv hm (by omega)) ?_)
    rintro r rfl
    refine o_ (h:=AN 5 (h:=B6 6 (h:=B6 7 (h:=?_))))
    refine Az 9 rfl (Aw rfl rfl rfl rfl rfl rfl (by repeat constructor) (by repeat constructor) ?_)
    refine o_ (h:=BB 10 (h:=z_ (h:=?_)))
    refine AF ?_
    exact⟨_,⟨_,_,(by omega),rfl⟩,B1 4 0 rfl rfl rfl rfl ((by repeat (first|exact Sub.nil|refine Sub.cons _ _ _ rfl rfl ?_|refine Sub.any _ _ ?_|refine Sub.sl _ _ _ _ _ rfl ?_|refine Sub.slnil _ _ _ rfl ?_)))⟩
   refine Bw (by repeat constructor) ?_
   refine o_ (h:=?_)
   refine c_ 2 rfl (BU 0 (hc:=Hi l _ (1) (2) (by omega) (by omega) (by omega) (by omega)) (hR:=?_))
   rintro r a4 ha4 ⟨k4,rfl,p4,q4⟩
   refine⟨rfl,_,(by repeat constructor),?_⟩
   refine o_ (h:=?_)
   refine c_ 4 rfl (AK (Rf s _ q hv hm (by omega)) ?_)
   rintro r rfl
   refine o_ (h:=AN 5 (h:=B6 6 (h:=B6 7 (h:=?_))))
   refine Az 9 rfl (Aw rfl rfl rfl rfl rfl rfl (by repeat constructor) (by repeat constructor) ?_)
   refine o_ (h:=BB 10 (h:=z_ (h:=?_)))
   refine AF ?_
   exact⟨_,⟨_,_,(by omega),rfl⟩,B1 4 0 rfl rfl rfl rfl ((by repeat (first|exact Sub.nil|refine Sub.cons _ _ _ rfl rfl ?_|refine Sub.any _ _ ?_|refine Sub.sl _ _ _ _ _ rfl ?_|refine Sub.slnil _ _ _ rfl ?_)))⟩
  rintro S ⟨kk,b1,hb1,rfl⟩
  refine w_ (m_ (h:=AQ (h:=e_ (?_))))
  refine A8 rfl (fun hb3=>?_) (fun hb3=>?_)
  ·have hc3:=bp hb3
   have h0:(GB s kk q).2=0:=hc3
   refine w_ (l_ (h:=s_ (h:=a_ (h:=e_ (A4 (AR (A7 (A7 (AR (A7 (?_)))))))))))
   refine Ai none (h5:=(LeA.refl _)) (h6:=⟨_,rfl,rfl,b1,by omega,rfl,(GB s kk q).1,true,rfl,Nat.le_trans (iW s kk q) (by decide),fun _=>⟨kk,q,Prod.ext rfl h0⟩,fun h=>(by cases h)⟩)
  have hc3:=bp hb3
  refine BA (Ax (t_ (AP (m_ (h:=B8 (h:=a_ (h:=AO (?_))))))))
  refine AF ?_
  refine⟨_,_,?_,⟨j+1,_,by omega,rfl,?_,rfl⟩,B1 3 0 rfl rfl rfl rfl ((by repeat (first|exact Sub.nil|refine Sub.cons _ _ _ rfl rfl ?_|refine Sub.any _ _ ?_|refine Sub.sl _ _ _ _ _ rfl ?_|refine Sub.slnil _ _ _ rfl ?_)))⟩<;>omega
 have hc1:=bp hb1
 refine BR (Aq (Aq (BS (t_ (w_ (AT (h:=s_ (h:=a_ (h:=e_ (A4 (?_)))))))))))
 refine Ai none (h5:=(LeA.refl _)) (h6:=⟨_,rfl,rfl,b0,by omega,rfl,FO,false,rfl,Nat.zero_le _,fun h=>(by cases h),fun _=>rfl⟩)
end
def Ek(ns:List Nod)(i:Int):Option Int:=(ns.find? fun n:Nod=>n.ino==i).map (·.kind)
def JM(f:AZ)(a:A9):Option Int:=match EG f a.1 with
 |none=>none
 |some d=>Ek d.nodes a.2
theorem j0(f:AZ)(a:A9):AY f a=decide (JM f a=some 2):=by
 have key:∀o:Option Nod,(match o with|none=>false|some n=>n.kind==2)=decide (o.map (·.kind)=some 2):=by
  intro o
  cases o with
  |none=>rfl
  |some n=>by_cases h:n.kind=2<;>simp[h]
 unfold AY JM Bl
 cases EG f a.1 with
 |none=>rfl
 |some d=>exact key _
theorem Om{j:Int}{g:Nod→Nod}(hi:∀n,(g n).ino=n.ino)(hk:∀n,(g n).kind=n.kind)(i:Int):∀ns:List Nod,Ek (Ca ns j g) i=Ek ns i
 |[]=>rfl
 |n::ns=>by
   have ih:=Om hi hk (j:=j) i ns
   unfold Ek Ca at ih ⊢
   rw[List.map_cons,List.find?_cons,List.find?_cons]
   have e1:(if n.ino=j then g n else n).ino=n.ino:=by split<;>simp[hi]
   have e2:(if n.ino=j then g n else n).kind=n.kind:=by split<;>simp[hk]
   rw[e1]
   cases n.ino==i with
   |true=>simp[e2]
   |false=>exact ih
theorem Wm{ns:List Nod}{i j:Int}(h:i≠j):Ek (Br ns j) i=Ek ns i:=by
 unfold Ek Br
 rw[List.find?_filter]
 congr 2
 funext n
 by_cases e:n.ino=i
 ·subst e;simp[h]
 simp[e]
theorem Ka(ns:List Nod)(p:Int)(name:AG)(ino i:Int):Ek (BX ns p name ino) i=Ek ns i:=Om (g:=L3 name ino) (j:=p) (fun _=>rfl) (fun _=>rfl) i ns
theorem j1(ns:List Nod)(a p:Int)(b:Bool)(i:Int):Ek (Hh ns a p b) i=Ek ns i:=by
 unfold Hh
 split
 ·exact Om (g:=fun n=>{n with parent:=p}) (j:=a) (fun _=>rfl) (fun _=>rfl) i ns
 rfl
theorem j2{ns:List Nod}{i k:Int}(h:Ek ns i=some k)(m:Nod):Ek (ns++[m]) i=some k:=by
 unfold Ek at h ⊢
 rw[List.find?_append]
 cases e:ns.find? fun n:Nod=>n.ino==i with
 |none=>rw[e]at h;simp at h
 |some n=>rw[e]at h;simpa using h
theorem Wn{f:AZ}{q:Nat}{d d':Dvc}(hq:f[q]?=some d){a:A9}{k:Int}(h:JM f a=some k)(hd:a.1=(q:Int)→Ek d.nodes a.2=some k→Ek d'.nodes a.2=some k):JM (f.set q d') a=some k:=by
 unfold JM at h ⊢
 unfold EG at h ⊢
 by_cases c:a.1<0
 ·rw[if_pos c]at h;cases h
 rw[if_neg c]at h ⊢
 rw[List.getElem?_set]
 by_cases e:q=a.1.toNat
 ·subst e
  have hl:=(Ar.1 hq).1
  rw[if_pos rfl,if_pos hl]
  rw[hq]at h
  exact hd (by omega) h
 rw[if_neg e];exact h
theorem On{f:AZ}{q:Nat}{g:List Nod→List Nod}{a:A9}{k:Int}(h:JM f a=some k)(hd:∀ns,a.1=(q:Int)→Ek ns a.2=some k→Ek (g ns) a.2=some k):JM (Fa f q g) a=some k:=by
 cases e:f[q]? with
 |none=>
   have:Fa f q g=f:=by
    unfold Fa
    apply List.ext_getElem?
    intro i
    rw[List.getElem?_modify]
    by_cases c:q=i
    ·subst c;rw[e];rfl
    cases f[i]?<;>simp[c]
   rw[this];exact h
 |some d=>
   rw[Fz e]
   exact Wn e h (hd d.nodes)
theorem N4{f g:AZ}{a:A9}(h:AY f a=true)(hk:JM f a=some 2→JM g a=some 2):AY g a=true:=by
 rw[j0,decide_eq_true_iff]at h ⊢
 exact hk h
theorem j4{f:AZ}{dir:A9}{name:AG}{n:Nod}(h0:(Dr f dir name n).2.2=0){a:A9}(h:AY f a=true):AY (Dr f dir name n).1 a=true:=by
 unfold Dr at h0 ⊢
 split at h0
 ·rename_i c;exact absurd h0 c
 rename_i c1
 rw[if_neg c1]
 split at h0
 ·exact absurd h0 (by decide)
 rename_i c2
 rw[if_neg c2]
 split at h0
 ·exact absurd h0 (by decide)
 rename_i c3
 rw[if_neg c3]
 cases e:EG f dir.1 with
 |none=>rw[e]at h0;exact absurd h0 (by simp)
 |some d=>
   rw[e]at h0
   simp only at h0 ⊢
   split at h0
   ·exact absurd h0 (by decide)
   rename_i c4
   rw[if_neg c4]
   have hq:f[dir.1.toNat]?=some d:=by
    unfold EG at e
    split at e
    ·cases e
    exact e
   refine N4 h fun hk=>Wn hq hk fun _ hk=>j2 ?_ _
   rw[Ka];exact hk
theorem j5{f:AZ}{dir:A9}{name:AG}{b:A9}(h0:(Dd f dir name b).2.2=0){a:A9}(h:AY f a=true):AY (Dd f dir name b).1 a=true:=by
 revert h0
 unfold Dd
 repeat' split
 all_goals first|exact fun h0=>absurd h0 (by assumption)|exact fun h0=>absurd h0 (by decide)|skip
 exact fun _=>N4 h fun hk=>On hk fun ns _ hn=>(Ka ns dir.2 name b.2 a.2).trans hn
theorem Wo{f:AZ}{dir:A9}{name:AG}{o:A9}(ho:o.1=dir.1){a:A9}(h:AY f a=true)(hne:a≠o)(h0:0≤dir.1):AY (Fa f dir.1.toNat fun ns=>Br (BX ns dir.2 name 0) o.2) a=true:=
 N4 h fun hk=>On hk fun ns ha hn=>by
  rw[Wm (fun e=>hne (Prod.ext (by rw[ha,ho];omega) e)),Ka];exact hn
theorem Ri{f:AZ}{dir:A9}{name:AG}(h:(AM f dir name).2=0):(AM f dir name).1.1=dir.1:=by
 unfold AM at h ⊢
 split
 ·rename_i e;rw[e]at h;exact absurd h (by simp)
 rename_i n e
 rw[e]at h
 simp only at h
 split at h
 ·rename_i c
  rw[if_pos c]
  split
  ·rename_i e2;rw[e2]at h;exact absurd h (by simp)
  rfl
 exact absurd h (by decide)
theorem Rj{f:AZ}{dir:A9}{name:AG}(h:CH f dir name=0):0≤dir.1:=by
 unfold CH Bl EG at h
 by_cases c:dir.1<0
 ·rw[if_pos c]at h;exact absurd h (by simp)
 omega
theorem j6{f:AZ}{dir:A9}{name:AG}(h0:(FC f dir name).2.2=0){a:A9}(h:AY f a=true):AY (FC f dir name).1 a=true:=by
 unfold FC at h0 ⊢
 split at h0
 ·rename_i c;exact absurd h0 c
 rename_i c1
 rw[if_neg c1]
 split at h0
 ·rename_i c;exact absurd h0 c
 rename_i c2
 rw[if_neg c2]
 split at h0
 ·exact absurd h0 (by decide)
 rename_i c3
 rw[if_neg c3]
 exact Wo (Ri (by omega)) h (fun e=>c3 (by rw[←e];exact h)) (Rj (f:=f) (name:=name) (by omega))
theorem j7{f:AZ}{dir:A9}{name:AG}(h0:(Ed f dir name).2.2=0){a:A9}(h:AY f a=true)(hne:a≠(AM f dir name).1):AY (Ed f dir name).1 a=true:=by
 unfold Ed at h0 ⊢
 split at h0
 ·rename_i c;exact absurd h0 c
 rename_i c1
 rw[if_neg c1]
 split at h0
 ·rename_i c;exact absurd h0 c
 rename_i c2
 rw[if_neg c2]
 split at h0
 ·exact absurd h0 (by decide)
 rename_i c3
 rw[if_neg c3]
 split at h0
 ·exact absurd h0 (by decide)
 rename_i c4
 rw[if_neg c4]
 exact Wo (Ri (by omega)) h hne (Rj (f:=f) (name:=name) (by omega))
theorem j8{f:AZ}{b:A9}{m u g:Int}(h0:(EL f b m u g).2=0){a:A9}(h:AY f a=true):AY (EL f b m u g).1 a=true:=by
 unfold EL at h0 ⊢
 split at h0
 ·exact absurd h0 (by decide)
 rename_i c1
 rw[if_neg c1]
 split at h0
 ·exact absurd h0 (by decide)
 rename_i c2
 rw[if_neg c2]
 exact N4 h fun hk=>On hk fun ns _ hn=>(Om (g:=EW m u g) (j:=b.2) (fun _=>rfl) (fun _=>rfl) a.2 ns).trans hn
theorem j9{f:AZ}{src to:A9}{name name2:AG}(h0:(EM f src name to name2).2.2=0){a:A9}(h:AY f a=true)
    (hne:(AM f to name2).2=0→(AM f to name2).1≠(AM f src name).1→a≠(AM f to name2).1):AY (EM f src name to name2).1 a=true:=by
 unfold EM at h0 ⊢
 split at h0
 ·rename_i c;exact absurd h0 c
 rename_i c1
 rw[if_neg c1]
 split at h0
 ·rename_i c;exact absurd h0 c
 rename_i c2
 rw[if_neg c2]
 split at h0
 ·exact absurd h0 (by decide)
 rename_i c3
 rw[if_neg c3]
 split at h0
 ·exact absurd h0 (by decide)
 rename_i c4
 rw[if_neg c4]
 split at h0
 ·rename_i c5;rw[if_pos c5];exact h
 rename_i c5
 rw[if_neg c5]
 split at h0
 ·rename_i c;exact absurd h0 c
 rename_i c6
 rw[if_neg c6]
 refine N4 h fun hk=>?_
 dsimp only
 refine On hk fun ns ha hn=>?_
 rw[j1]
 unfold KP
 split
 ·rename_i e0
  have hd:=Ri e0
  have hne':=hne e0 fun e=>c5 ⟨e0,e⟩
  have hto:=Rj (QY (f:=f) (x:=src) (y:=to) (name:=name) (name2:=name2) (by omega)).2
  have hk2:a.2≠(AM f to name2).1.2:=fun e=>hne' (Prod.ext (by rw[ha,hd];omega) e)
  rw[Wm hk2,Ka,Ka]
  exact hn
 rw[Ka,Ka];exact hn
theorem SpcV.keep{s:Spc}(hs:SpcV s){g:AZ}(hv:FlsV g)(hl:g.length=s.files.length)(hd:∀a,(Bo s a).isSome=true→AY s.files a=true→AY g a=true):SpcV ⟨g,s.mounts⟩:=by
 refine⟨hv,by show 0<g.length;rw[hl];exact hs.pos,fun i m hm=>?_⟩
 have h:=hs.mnt i m hm
 refine⟨h.dev1,by rw[hl];exact h.dev2,h.fresh,hd _ ?_ h.dir,h.there,h.free⟩
 unfold Bo
 rw[Option.isSome_map,List.find?_isSome]
 exact⟨m,Au hm,by simp⟩
end Go.Proofs.YtbglbmnhgbgelaaGreatDoor
