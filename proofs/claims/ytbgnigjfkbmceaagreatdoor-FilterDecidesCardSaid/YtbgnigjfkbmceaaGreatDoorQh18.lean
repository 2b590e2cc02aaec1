/-
  Part 18 of the proof of FilterDecidesP: what the statement's proof uses of the texts in wip/tpl.
-/
import Derived.Test.YtbgnigjfkbmceaaGreatDoorQh17
open Go.Proofs.Tryz (prog)
set_option maxRecDepth 10000
set_option maxHeartbeats 4000000
set_option linter.unusedVariables false
set_option linter.unusedSimpArgs false
namespace Go.Proofs.YtbgnigjfkbmceaaGreatDoor
open Go.RowKit
theorem qN(w:Wrk):(G8 w).1.r.items.length=w.r.items.length:=by
 unfold G8
 repeat' split
 all_goals first|rfl|exact(UW _ _ _).trans (Oa _ _)
theorem qO(w:Wrk)(R:FH):(KG w R).1.r.items.length=w.r.items.length:=by
 unfold KG;split
 ·rfl
 exact(Z8 _ _ _).trans (Oa _ _)
theorem qP(w:Wrk):(Ey w).1.r.items.length=w.r.items.length:=by
 unfold Ey
 repeat' split
 all_goals first|rfl|exact qO _ _
theorem qQ(w:Wrk):(GX w).1.r.items.length=w.r.items.length:=by
 unfold GX Lf
 repeat' split
 all_goals first|rfl|exact Oa _ _
theorem qR(w:Wrk)(R:Spc×Int):(Lg w R).1.r.items.length=w.r.items.length:=by
 unfold Lg;split<;>rfl
theorem qT(w:Wrk):(Dz w).1.r.items.length=w.r.items.length:=by
 unfold Dz
 repeat' split
 all_goals first|rfl|exact Rm _ _|exact qR _ _
theorem qU(w:Wrk):(GY w).1.r.items.length=w.r.items.length:=by
 unfold GY
 repeat' split
 all_goals first|rfl|exact UX _ _ _
theorem qV(w:Wrk)(R:Spc×Int):(Lh w R).1.r.items.length=w.r.items.length:=by
 unfold Lh;split<;>rfl
theorem qW(w:Wrk):(He w).1.r.items.length=w.r.items.length:=by
 unfold He
 repeat' split
 all_goals first|rfl|exact qV _ _
theorem qX(w:Wrk):(FQ w).1.r.items.length=w.r.items.length:=by
 unfold FQ
 repeat' split
 all_goals first|rfl|exact qW _|exact Rm _ _|exact Rm (OW w _) _
theorem Uj(w:Wrk):(BT w).1.r.items.length=w.r.items.length:=by
 unfold BT
 repeat' split
 all_goals first|exact mT _|exact qN _|exact qP _|exact mV _|exact qQ _|exact qT _|exact qU _|exact qX _
theorem Zs{n:Int}(h:0<(C3 n).2.2.1):(n=1∨n=6∨n=8∨n=9∨n=10∨n=11∨n=12∨n=13∨n=14∨n=15∨n=16∨n=17∨n=21)∧((n=8∨n=13)→(C3 n).2.2.1=2)∧(¬(n=8∨n=13)→(C3 n).2.2.1=1):=by
 unfold C3 at h ⊢;split at h
 ·exact absurd h (by decide)
 rename_i c;rw[if_neg c];obtain⟨m,rfl⟩:=Int.eq_ofNat_of_zero_le (show 0≤n by omega);have hm:m<22:=by omega
 have k1:∀m,m<22→0<((Fr[m]?).getD (⟨#[]⟩,0,0,0,0)).2.2.1→m∈[1,6,8,9,10,11,12,13,14,15,16,17,21]:=by decide
 have k2:∀m,m<22→m∈[8,13]→((Fr[m]?).getD (⟨#[]⟩,0,0,0,0)).2.2.1=2:=by decide
 have k3:∀m,m<22→0<((Fr[m]?).getD (⟨#[]⟩,0,0,0,0)).2.2.1→m∉[8,13]→((Fr[m]?).getD (⟨#[]⟩,0,0,0,0)).2.2.1=1:=by decide
 have k1:=k1 m hm h;have k2:=k2 m hm;have k3:=k3 m hm h;simp only[List.mem_cons,List.not_mem_nil,or_false]at k1 k2 k3;exact⟨by omega,fun q=>k2 (by omega),fun q=>k3 (by omega)⟩
theorem Zt{n:Int}(h:(C3 n).2.2.1=0):n≠1∧n≠6∧n≠8∧n≠9∧n≠10∧n≠11∧n≠12∧n≠13∧n≠14∧n≠15∧n≠16∧n≠17∧n≠21:=by
 refine⟨?_,?_,?_,?_,?_,?_,?_,?_,?_,?_,?_,?_,?_⟩<;>(rintro rfl;revert h;decide)
theorem qY(n:Int):0<(C3 n).2.2.1∨(C3 n).2.2.1=0:=by
 unfold C3;split
 ·exact .inr rfl
 rename_i c;obtain⟨m,rfl⟩:=Int.eq_ofNat_of_zero_le (show 0≤n by omega);have hm:m<22:=by omega
 have key:∀m,m<22→0<((Fr[m]?).getD (⟨#[]⟩,0,0,0,0)).2.2.1∨((Fr[m]?).getD (⟨#[]⟩,0,0,0,0)).2.2.1=0:=by decide
 exact key m hm
theorem qZ{c:Cal}(h:0<(C3 c.num).2.2.1):((DD c).length:Int)=(C3 c.num).2.2.1:=by
 obtain⟨k1,k2,k3⟩:=Zs h;by_cases c2:c.num=8∨c.num=13
 ·rw[k2 c2];rcases c2 with q|q<;>simp[DD,q]
 rw[k3 c2];rcases k1 with q|q|q|q|q|q|q|q|q|q|q|q|q<;>first|(exfalso;omega)|simp[DD,q]
theorem r8{c0 c1 c2 c3 c4 c5:List AV}(w:Wrk):Back [c0,c1,c2,c3,c4,c5] [5] [WN w] [c0,c1,c2,c3,c4,WN w]:=by
 have:=Pj (bx:=[c0,c1,c2,c3,c4,c5]) (is:=[5]) (bc:=[WN w]) (by simp) (by simp) (by simp)
 have hb:E0 [c0,c1,c2,c3,c4,c5] (Er [5] [c0,c1,c2,c3,c4,c5].length) [5] [WN w]=[c0,c1,c2,c3,c4,WN w]:=by
  unfold E0;unfold E0;rfl
 rw[hb]at this;exact this
section
theorem r9(w:Wrk)(cap:Nat)(hv:SpcV w.s.spc)(hm:w.s.spc.mounts.length≤1000)(htb:TabB w.s.tab)(hnm:∀f∈w.found,f.name.size≤12)(h1:1≤w.found.length)(h1i:1≤w.r.items.length)(h2:w.c.num=8∨w.c.num=13→2≤w.found.length∧2≤w.r.items.length)(hin:w.c.num=1∨w.c.num=6∨w.c.num=8∨w.c.num=9∨w.c.num=10∨w.c.num=11∨w.c.num=12∨w.c.num=13∨w.c.num=14∨w.c.num=15∨w.c.num=16∨w.c.num=17∨w.c.num=21)(h9:w.c.num=9→0<w.c.args.length)(hsz:∀p∈w.c.args,p.size≤1000):ACall prog 98 [.bp 0 0] [WA w cap,IB w cap] (fun r b t=>t=[]∧r= .v (.int .i64 (BT w).2)∧b=[WA (BT w).1 cap,IB (BT w).1 cap]):=by
 have hps:w.s.tab.ps.length≤1000:=by have:=htb.few;omega
 refine enter Tryz.func98 rfl rfl rfl rfl rfl 2 rfl ?_;refine w_ (Bo (h:=Dj (h:=e_ (BF (Ak (h:=?_))))));refine A4 rfl (fun hb1 hc1=>?_) (fun hb1 hc1=>?_)
 ·obtain⟨f,hf⟩:∃f,w.found[0]?=some f:=⟨_,B6 (by omega)⟩;obtain⟨x,hx⟩:∃x,w.r.items[0]?=some x:=⟨_,B6 (by omega)⟩;have hact:BT w=Cp w:=by simp[BT,hc1]
  refine Aa (h:=?_);refine A3 rfl (Bj [0,1] rfl (.cons _ _ _ _ _ rfl (A7 _) .nil) (by decide) (.cons _ _ _ _ _ rfl rfl (.cons _ _ _ _ _ rfl (Dg B5 _ _ _) .nil)) (mK w cap f x hv hm htb hf hx (by have:=hnm f (Am hf);omega)) ?_);rintro r bc tc ⟨rfl,rfl,rfl⟩;refine⟨rfl,_,E8 rfl ((Cp w).1) cap,?_⟩;refine Ax (h:=?_);refine BU (r:= .v (.int .i64 (BT w).2)) none (h5:=(by rw[hact];exact A7 _)) (h6:=⟨rfl,rfl,?_⟩);rw[hact];rfl
 refine Ak (h:=?_);refine A4 rfl (fun hb2 hc2=>?_) (fun hb2 hc2=>?_)
 ·obtain⟨f,hf⟩:∃f,w.found[0]?=some f:=⟨_,B6 (by omega)⟩;obtain⟨x,hx⟩:∃x,w.r.items[0]?=some x:=⟨_,B6 (by omega)⟩;obtain⟨g,hg⟩:∃f,w.found[1]?=some f:=⟨_,B6 (h2 (by omega)).1⟩;obtain⟨x1,hx1⟩:∃x,w.r.items[1]?=some x:=⟨_,B6 (h2 (by omega)).2⟩;have hact:BT w=G8 w:=by simp[BT,hc2]
  refine Aa (h:=?_);refine A3 rfl (Bj [0,1] rfl (.cons _ _ _ _ _ rfl (A7 _) .nil) (by decide) (.cons _ _ _ _ _ rfl rfl (.cons _ _ _ _ _ rfl (Dg B5 _ _ _) .nil)) (pV w cap f g x1 hv hm hf hg hx1 (by have:=hnm g (Am hg);omega)) ?_);rintro r bc tc ⟨rfl,rfl,rfl⟩;refine⟨rfl,_,E8 rfl ((G8 w).1) cap,?_⟩;refine Ax (h:=?_);refine BU (r:= .v (.int .i64 (BT w).2)) none (h5:=(by rw[hact];exact A7 _)) (h6:=⟨rfl,rfl,?_⟩);rw[hact];rfl
 refine q_ (Ak (h:=?_));refine A4 rfl (fun hb3 hc3=>?_) (fun hb3 hc3=>?_)
 ·obtain⟨f,hf⟩:∃f,w.found[0]?=some f:=⟨_,B6 (by omega)⟩;obtain⟨x,hx⟩:∃x,w.r.items[0]?=some x:=⟨_,B6 (by omega)⟩;have hact:BT w=Ey w:=by simp[BT,hc3]
  refine AG (JL (h:=?_));refine A3 rfl (Bj [0,1] rfl (.cons _ _ _ _ _ rfl (A7 _) .nil) (by decide) (.cons _ _ _ _ _ rfl rfl (.cons _ _ _ _ _ rfl (Dg B5 _ _ _) .nil)) (Zn w cap f x hv hm hps hf hx (by have:=hnm f (Am hf);omega)) ?_);rintro r bc tc ⟨rfl,rfl,rfl⟩;refine⟨rfl,_,E8 rfl ((Ey w).1) cap,?_⟩;refine Ax (h:=?_);refine BU (r:= .v (.int .i64 (BT w).2)) none (h5:=(by rw[hact];exact A7 _)) (h6:=⟨rfl,rfl,?_⟩);rw[hact];rfl
 refine Aw (EU (h:=?_));refine A4 rfl (fun hb4 hc4=>?_) (fun hb4 hc4=>?_)
 ·obtain⟨f,hf⟩:∃f,w.found[0]?=some f:=⟨_,B6 (by omega)⟩;obtain⟨x,hx⟩:∃x,w.r.items[0]?=some x:=⟨_,B6 (by omega)⟩;have hact:BT w=Ey w:=by simp[BT,hc4]
  refine Aa (h:=?_);refine A3 rfl (Bj [0,1] rfl (.cons _ _ _ _ _ rfl (A7 _) .nil) (by decide) (.cons _ _ _ _ _ rfl rfl (.cons _ _ _ _ _ rfl (Dg B5 _ _ _) .nil)) (Zn w cap f x hv hm hps hf hx (by have:=hnm f (Am hf);omega)) ?_);rintro r bc tc ⟨rfl,rfl,rfl⟩;refine⟨rfl,_,E8 rfl ((Ey w).1) cap,?_⟩;refine Ax (h:=?_);refine BU (r:= .v (.int .i64 (BT w).2)) none (h5:=(by rw[hact];exact A7 _)) (h6:=⟨rfl,rfl,?_⟩);rw[hact];rfl
 refine Ak (h:=?_);refine A4 rfl (fun hb5 hc5=>?_) (fun hb5 hc5=>?_)
 ·obtain⟨f,hf⟩:∃f,w.found[0]?=some f:=⟨_,B6 (by omega)⟩;obtain⟨x,hx⟩:∃x,w.r.items[0]?=some x:=⟨_,B6 (by omega)⟩;obtain⟨g,hg⟩:∃f,w.found[1]?=some f:=⟨_,B6 (h2 (by omega)).1⟩;obtain⟨x1,hx1⟩:∃x,w.r.items[1]?=some x:=⟨_,B6 (h2 (by omega)).2⟩;have hact:BT w=G9 w:=by simp[BT,hc5]
  refine Aa (h:=?_);refine A3 rfl (Bj [0,1] rfl (.cons _ _ _ _ _ rfl (A7 _) .nil) (by decide) (.cons _ _ _ _ _ rfl rfl (.cons _ _ _ _ _ rfl (Dg B5 _ _ _) .nil)) (mL w cap f g x x1 hv hm hps hf hg hx hx1 (by have:=hnm f (Am hf);omega) (by have:=hnm g (Am hg);omega)) ?_);rintro r bc tc ⟨rfl,rfl,rfl⟩;refine⟨rfl,_,E8 rfl ((G9 w).1) cap,?_⟩;refine Ax (h:=?_);refine BU (r:= .v (.int .i64 (BT w).2)) none (h5:=(by rw[hact];exact A7 _)) (h6:=⟨rfl,rfl,?_⟩);rw[hact];rfl
 refine q_ (Ak (h:=?_));refine A4 rfl (fun hb6 hc6=>?_) (fun hb6 hc6=>?_)
 ·obtain⟨f,hf⟩:∃f,w.found[0]?=some f:=⟨_,B6 (by omega)⟩;obtain⟨x,hx⟩:∃x,w.r.items[0]?=some x:=⟨_,B6 (by omega)⟩;have hact:BT w=GX w:=by simp[BT,hc6]
  refine AG (JL (h:=?_));refine A3 rfl (Bj [0,1] rfl (.cons _ _ _ _ _ rfl (A7 _) .nil) (by decide) (.cons _ _ _ _ _ rfl rfl (.cons _ _ _ _ _ rfl (Dg B5 _ _ _) .nil)) (Zo w cap f hv hm hf) ?_);rintro r bc tc ⟨rfl,rfl,rfl⟩;refine⟨rfl,_,E8 rfl ((GX w).1) cap,?_⟩;refine Ax (h:=?_);refine BU (r:= .v (.int .i64 (BT w).2)) none (h5:=(by rw[hact];exact A7 _)) (h6:=⟨rfl,rfl,?_⟩);rw[hact];rfl
 refine Aw (EU (h:=?_));refine A4 rfl (fun hb7 hc7=>?_) (fun hb7 hc7=>?_)
 ·obtain⟨f,hf⟩:∃f,w.found[0]?=some f:=⟨_,B6 (by omega)⟩;obtain⟨x,hx⟩:∃x,w.r.items[0]?=some x:=⟨_,B6 (by omega)⟩;have hact:BT w=GX w:=by simp[BT,hc7]
  refine Aa (h:=?_);refine A3 rfl (Bj [0,1] rfl (.cons _ _ _ _ _ rfl (A7 _) .nil) (by decide) (.cons _ _ _ _ _ rfl rfl (.cons _ _ _ _ _ rfl (Dg B5 _ _ _) .nil)) (Zo w cap f hv hm hf) ?_);rintro r bc tc ⟨rfl,rfl,rfl⟩;refine⟨rfl,_,E8 rfl ((GX w).1) cap,?_⟩;refine Ax (h:=?_);refine BU (r:= .v (.int .i64 (BT w).2)) none (h5:=(by rw[hact];exact A7 _)) (h6:=⟨rfl,rfl,?_⟩);rw[hact];rfl
 refine q_ (Ak (h:=?_));refine A4 rfl (fun hb8 hc8=>?_) (fun hb8 hc8=>?_)
 ·obtain⟨f,hf⟩:∃f,w.found[0]?=some f:=⟨_,B6 (by omega)⟩;obtain⟨x,hx⟩:∃x,w.r.items[0]?=some x:=⟨_,B6 (by omega)⟩;have hact:BT w=Dz w:=by simp[BT,hc8]
  refine AG (JL (h:=?_));refine A3 rfl (Bj [0,1] rfl (.cons _ _ _ _ _ rfl (A7 _) .nil) (by decide) (.cons _ _ _ _ _ rfl rfl (.cons _ _ _ _ _ rfl (Dg B5 _ _ _) .nil)) (Rz w cap f hv hm htb hf) ?_);rintro r bc tc ⟨rfl,rfl,rfl⟩;refine⟨rfl,_,E8 rfl ((Dz w).1) cap,?_⟩;refine Ax (h:=?_);refine BU (r:= .v (.int .i64 (BT w).2)) none (h5:=(by rw[hact];exact A7 _)) (h6:=⟨rfl,rfl,?_⟩);rw[hact];rfl
 refine Ak (h:=?_);refine A4 rfl (fun hb9 hc9=>?_) (fun hb9 hc9=>?_)
 ·obtain⟨f,hf⟩:∃f,w.found[0]?=some f:=⟨_,B6 (by omega)⟩;obtain⟨x,hx⟩:∃x,w.r.items[0]?=some x:=⟨_,B6 (by omega)⟩;have hact:BT w=Dz w:=by simp[BT,hc9]
  refine AG (JL (h:=?_));refine A3 rfl (Bj [0,1] rfl (.cons _ _ _ _ _ rfl (A7 _) .nil) (by decide) (.cons _ _ _ _ _ rfl rfl (.cons _ _ _ _ _ rfl (Dg B5 _ _ _) .nil)) (Rz w cap f hv hm htb hf) ?_);rintro r bc tc ⟨rfl,rfl,rfl⟩;refine⟨rfl,_,E8 rfl ((Dz w).1) cap,?_⟩;refine Ax (h:=?_);refine BU (r:= .v (.int .i64 (BT w).2)) none (h5:=(by rw[hact];exact A7 _)) (h6:=⟨rfl,rfl,?_⟩);rw[hact];rfl
 refine Ak (h:=?_);refine A4 rfl (fun hb10 hc10=>?_) (fun hb10 hc10=>?_)
 ·obtain⟨f,hf⟩:∃f,w.found[0]?=some f:=⟨_,B6 (by omega)⟩;obtain⟨x,hx⟩:∃x,w.r.items[0]?=some x:=⟨_,B6 (by omega)⟩;have hact:BT w=Dz w:=by simp[BT,hc10]
  refine AG (JL (h:=?_));refine A3 rfl (Bj [0,1] rfl (.cons _ _ _ _ _ rfl (A7 _) .nil) (by decide) (.cons _ _ _ _ _ rfl rfl (.cons _ _ _ _ _ rfl (Dg B5 _ _ _) .nil)) (Rz w cap f hv hm htb hf) ?_);rintro r bc tc ⟨rfl,rfl,rfl⟩;refine⟨rfl,_,E8 rfl ((Dz w).1) cap,?_⟩;refine Ax (h:=?_);refine BU (r:= .v (.int .i64 (BT w).2)) none (h5:=(by rw[hact];exact A7 _)) (h6:=⟨rfl,rfl,?_⟩);rw[hact];rfl
 refine Aw (EU (h:=?_));refine A4 rfl (fun hb11 hc11=>?_) (fun hb11 hc11=>?_)
 ·obtain⟨f,hf⟩:∃f,w.found[0]?=some f:=⟨_,B6 (by omega)⟩;obtain⟨x,hx⟩:∃x,w.r.items[0]?=some x:=⟨_,B6 (by omega)⟩;have hact:BT w=Dz w:=by simp[BT,hc11]
  refine Aa (h:=?_);refine A3 rfl (Bj [0,1] rfl (.cons _ _ _ _ _ rfl (A7 _) .nil) (by decide) (.cons _ _ _ _ _ rfl rfl (.cons _ _ _ _ _ rfl (Dg B5 _ _ _) .nil)) (Rz w cap f hv hm htb hf) ?_);rintro r bc tc ⟨rfl,rfl,rfl⟩;refine⟨rfl,_,E8 rfl ((Dz w).1) cap,?_⟩;refine Ax (h:=?_);refine BU (r:= .v (.int .i64 (BT w).2)) none (h5:=(by rw[hact];exact A7 _)) (h6:=⟨rfl,rfl,?_⟩);rw[hact];rfl
 refine q_ (Ak (h:=?_));refine A4 rfl (fun hb12 hc12=>?_) (fun hb12 hc12=>?_)
 ·obtain⟨f,hf⟩:∃f,w.found[0]?=some f:=⟨_,B6 (by omega)⟩;obtain⟨x,hx⟩:∃x,w.r.items[0]?=some x:=⟨_,B6 (by omega)⟩;have hact:BT w=GY w:=by simp[BT,hc12]
  refine AG (JL (h:=?_));refine A3 rfl (Bj [0,1] rfl (.cons _ _ _ _ _ rfl (A7 _) .nil) (by decide) (.cons _ _ _ _ _ rfl rfl (.cons _ _ _ _ _ rfl (Dg B5 _ _ _) .nil)) (Zr w cap f x hv hm hf hx (by have:=hnm f (Am hf);omega) h9 hsz) ?_);rintro r bc tc ⟨rfl,rfl,rfl⟩;refine⟨rfl,_,E8 rfl ((GY w).1) cap,?_⟩;refine Ax (h:=?_);refine BU (r:= .v (.int .i64 (BT w).2)) none (h5:=(by rw[hact];exact A7 _)) (h6:=⟨rfl,rfl,?_⟩);rw[hact];rfl
 refine Aw (EU (h:=?_));refine A4 rfl (fun hb13 hc13=>?_) (fun hb13 hc13=>?_)
 ·obtain⟨f,hf⟩:∃f,w.found[0]?=some f:=⟨_,B6 (by omega)⟩;obtain⟨x,hx⟩:∃x,w.r.items[0]?=some x:=⟨_,B6 (by omega)⟩;have hact:BT w=GY w:=by simp[BT,hc13]
  refine Aa (h:=?_);refine A3 rfl (Bj [0,1] rfl (.cons _ _ _ _ _ rfl (A7 _) .nil) (by decide) (.cons _ _ _ _ _ rfl rfl (.cons _ _ _ _ _ rfl (Dg B5 _ _ _) .nil)) (Zr w cap f x hv hm hf hx (by have:=hnm f (Am hf);omega) h9 hsz) ?_);rintro r bc tc ⟨rfl,rfl,rfl⟩;refine⟨rfl,_,E8 rfl ((GY w).1) cap,?_⟩;refine Ax (h:=?_);refine BU (r:= .v (.int .i64 (BT w).2)) none (h5:=(by rw[hact];exact A7 _)) (h6:=⟨rfl,rfl,?_⟩);rw[hact];rfl
 exact ET
theorem rA(s:Syst)(pid:Int)(c:Cal)(hv:SpcV s.spc)(hm:s.spc.mounts.length≤1000)(ht:TabB s.tab)(hcp:c.paths.length≤1000)(hca:c.args.length≤1000)(h6:0<(C3 c.num).2.2.1):AFn prog 49 [.agg (CW s), .v (.int .i64 pid), .agg (Fe c)] (fun r=>r=Ni (D5 s pid c)):=by
 have hsb:=hv.b hm;obtain⟨W1,hW1⟩:∃W,W=KH s pid c:=⟨_,rfl⟩;have hwf:=Z5 s pid c;rw[←hW1]at hwf;have hWs:W1.s=s:=by rw[hW1];rfl
 have hWc:W1.c=c:=by rw[hW1];rfl
 refine enter Tryz.func49 rfl rfl rfl rfl rfl 0 rfl ?_;refine FU (h:=CU (h:=e_ (Ay (h:=m_ (h:=?_)))));refine A3 rfl (A8 (KK s.tab pid ht) ?_);rintro r rfl;refine H8 (h:=?_);refine A4 rfl (fun hb1 hc1=>?_) (fun hb1 hc1=>?_)
 ·have hno:CS s.tab pid=false:=by simpa using hc1
  refine C4 (h:=?_);refine A3 rfl (A8 (Mw s hsb ht) ?_);rintro r rfl;refine A3 rfl (H5 (y:= .agg (Kr {Gq with exit:= -4})) (Du ⟨rfl,rfl⟩) ?_);refine s_ (h:=Ei (h:=B3 (BN (?_))));refine A6 ?_;rw[D5,if_pos hno];rfl
 have hno:¬CS s.tab pid=false:=by simpa using hc1
 refine Eh (h:=C4 (h:=?_));refine A3 rfl (A8 (Ya c hcp hca) ?_);rintro r rfl;refine Bl (h:=?_);refine A4 rfl (fun hb2 hc2=>?_) (fun hb2 hc2=>?_)
 ·have hck:Bp c≠0:=by simpa using hc2
  refine C4 (h:=?_);refine A3 rfl (A8 (Mw s hsb ht) ?_);rintro r rfl;refine A3 rfl (H5 (y:= .agg (Kr {Gq with exit:= -22})) (Du ⟨rfl,rfl⟩) ?_);refine s_ (h:=Ei (h:=B3 (BN (?_))));refine A6 ?_;rw[D5,if_neg hno,if_pos hck];rfl
 have hck:Bp c=0:=by simpa using hc2
 obtain⟨hk1,hk2,hk3,hk4,hk5⟩:=Z4 hck;have hargs:∀p∈(Dp s pid c).c.args,p.size≤1000:=fun p hp=>by have:=hk5 p hp;omega
 have hpaths:∀p∈(Dp s pid c).c.paths,p.size≤100000:=fun p hp=>by have:=hk4 p hp;omega
 obtain⟨hp1,hp2,hp3⟩:=Zs h6;have hp4:=qZ h6;have h9:c.num=9→0<c.args.length:=fun q=>by rw[q]at hk2;have:(C3 9).2.2.2.1=1:=rfl;omega
 have hpp:(Dp s pid c).c.paths.length=(DD (Dp s pid c).c).length:=by show c.paths.length=(DD c).length;omega
 have hp0:0<(Dp s pid c).c.paths.length:=by show 0<c.paths.length;omega
 have hzl:(c.paths.zip (DD c)).length=c.paths.length:=by rw[List.length_zip];omega
 have hil0:0<W1.r.items.length:=by rw[hwf.2.2,hzl];omega
 refine AG (q_ (BR ([(0,CW s),(1,Fe c),(4,Av (AP s.tab pid))]) 7 (h:=?_)));refine A9 0 (h:=?_);refine A9 2 (h:=?_);refine A9 3 (h:=?_);refine c_ 1 rfl (A8 (Mw s hsb ht) ?_);rintro r rfl;refine o_ (h:=?_);refine C5 4 rfl (fun _ hS=>Hf (y:= .agg (Df (Dp s pid c) (.v (.slice none 0 0)) (.v (.slice none 0 0)))) (Du ⟨rfl,rfl⟩) (Z7 s pid c) ⟨rfl,rfl⟩) ?_;refine c_ 5 rfl (Qb rfl rfl (by repeat constructor) ?_);refine o_ (h:=B9 6 (h:=z_ (h:=t_ (?_))));refine BC (fun S=>∃cap,W1.r.items.length≤cap∧S=⟨look [(3, .bp 2 0),(6, .bp 3 0),(7, .bp 4 0),(10, .bp 0 0),(11, .v (.int .i64 (Gt s (AP s.tab pid) c).2.2))],⟨[WA W1 cap,IB W1 cap,CW s,KL,LH],[]⟩⟩) ?_ ?_
 ·skip
  refine EK (h:=?_);refine A3 rfl (Ds 1 rfl (.cons _ _ _ _ _ rfl (LeA.of_eq rfl) .nil) (Z6 (Dp s pid c) (.v (.slice none 0 0)) (.v (.slice none 0 0)) h9 hargs) ?_);rintro r rfl;refine⟨rfl,?_⟩;refine A3 rfl (Bj [5] rfl (.cons _ _ _ _ _ rfl (A7 _) (.cons _ _ _ _ _ rfl (A7 _) .nil)) (by decide) (.cons _ _ _ _ _ rfl rfl .nil) (mF (Dp s pid c) (DG (AP s.tab pid) c) hv hm hpp (by show c.paths.length≤1000;omega) hp0 hpaths) ?_);rintro r bc tc ⟨rfl,cap,hcap,rfl,rfl⟩;refine⟨rfl,_,mQ (Dp s pid c) _ _ cap _,?_⟩;refine Cw (h:=?_);rw[hW1];exact⟨_,⟨cap,hcap,rfl⟩,Ga [5,6,0,2,3] (fun i hi=>absurd hi (Nat.not_lt_zero i)) (by decide) (.cons _ _ _ _ _ rfl rfl (.cons _ _ _ _ _ rfl (MD B5 _ _ _) (.cons _ _ _ _ _ rfl rfl (.cons _ _ _ _ _ rfl rfl (.cons _ _ _ _ _ rfl rfl .nil))))) (by repeat (first|exact SubK.nil|refine SubK.cons _ _ _ _ rfl (A7 _) ?_))⟩
 rintro S ⟨cap,hcap,rfl⟩;refine Aa (h:=Dj (h:=?_));refine A3 rfl (Qu rfl rfl (SrcA.bs 1 0 _ cap _ rfl (by rw[show IB W1 cap=LB 13 CZ W1.r.items cap from rfl,Ri B5 hcap];omega)) hil0 (by rw[hwf.2.2,hzl];omega) ?_);rintro cap2 k bx2 hcp2 hs;rw[show((IB W1 cap).drop 0).take (W1.r.items.length * 13)++List.replicate ((cap2 - W1.r.items.length) * 13) AV.any=LB 13 CZ W1.r.items cap2 from mR B5 _ cap cap2]at hs;obtain⟨rfl,rfl⟩:k=5∧bx2=[_,_,_,_,_,_]:=hs.eq;refine BO (h:=?_);refine BC (fun S=>∃(W2:Wrk) (E2:Int),((¬(Gt s (AP s.tab pid) c).2.2=0∧E2=(Gt s (AP s.tab pid) c).2.2)∨((Gt s (AP s.tab pid) c).2.2=0∧W2=(BT W1).1∧E2=(BT W1).2))∧S=⟨look [(3, .bp 2 0),(6, .bp 3 0),(7, .bp 4 0),(10, .bp 0 0),(11, .v (.int .i64 E2)),(12, .bs 5 0 13 W1.r.items.length cap2)],⟨[WA W2 cap,IB W2 cap,CW s,KL,LH,LB 13 CZ W1.r.items cap2],[]⟩⟩) ?_ ?_
 ·skip
  refine Aa (h:=Bd (h:=?_));refine A4 rfl (fun hb3 hc3=>?_) (fun hb3 hc3=>?_)
  ·have he1:(Gt s (AP s.tab pid) c).2.2=0:=by simpa using hc3
   refine C2 (h:=?_);refine A3 rfl (Bj [0,1] rfl (.cons _ _ _ _ _ rfl (A7 _) .nil) (by decide) (.cons _ _ _ _ _ rfl rfl (.cons _ _ _ _ _ rfl (Dg B5 _ _ _) .nil)) (r9 W1 cap (by rw[hWs];exact hv) (by rw[hWs];exact hm) (by rw[hWs];exact ht) hwf.1 (by rw[hwf.2.1,hzl];omega) (by rw[hwf.2.2,hzl];omega) (by rw[hWc,hwf.2.1,hwf.2.2,hzl];omega) (by rw[hWc];exact hp1) (by rw[hWc];exact h9) (by rw[hWc];exact hargs)) ?_);rintro r bc tc ⟨rfl,rfl,rfl⟩;refine⟨rfl,_,E8 rfl (BT W1).1 cap,?_⟩;refine Cw (h:=?_);exact⟨_,⟨(BT W1).1,(BT W1).2, .inr ⟨he1,rfl,rfl⟩,rfl⟩,Ah 6 0 rfl rfl rfl (by simp[AY,AT,AQ,Bq B5,BD,WA,IB,Cq,CW,KL,LH]) ((by repeat (first|exact Sub.nil|refine Ai rfl rfl ?_|refine Ap ?_|refine Aq rfl ?_|refine Ar rfl ?_)))⟩
  have he1:¬(Gt s (AP s.tab pid) c).2.2=0:=by simpa using hc3
  refine BG (AR (?_))
  first|exact⟨_,⟨(BT W1).1,(BT W1).2, .inr ⟨he1,rfl,rfl⟩,rfl⟩,Ah 6 0 rfl rfl rfl (by simp[AY,AT,AQ,Bq B5,BD,WA,IB,Cq,CW,KL,LH]) ((by repeat (first|exact Sub.nil|refine Ai rfl rfl ?_|refine Ap ?_|refine Aq rfl ?_|refine Ar rfl ?_)))⟩|exact⟨_,⟨W1,_, .inl ⟨he1,rfl⟩,rfl⟩,Ah 6 0 rfl rfl rfl (by simp[AY,AT,AQ,Bq B5,BD,WA,IB,Cq,CW,KL,LH]) ((by repeat (first|exact Sub.nil|refine Ai rfl rfl ?_|refine Ap ?_|refine Aq rfl ?_|refine Ar rfl ?_)))⟩
 rintro S ⟨W2,E2,hQ,rfl⟩;refine Bf (h:=Bl (h:=?_));refine A4 rfl (fun hb4 hc4=>?_) (fun hb4 hc4=>?_)
 ·have he2:E2≠0:=by simpa using hc4
  have hrun:D5 s pid c=(s,{Gq with exit:=Ks E2,items:=W1.r.items}):=by
   rw[D5,if_neg hno,if_neg (by simp[hck])];rcases hQ with⟨q1,q2⟩|⟨q1,q2,q3⟩
   ·rw[if_pos q1,←q2,hW1];rfl
   rw[if_neg (by simp[q1]),←hW1,←q3,if_pos he2,hW1];rfl
  refine BC (fun S=>S=⟨look [(6, .bp 0 0),(7, .bp 1 0)],⟨[CW s,Nj {Gq with exit:=Ks E2} (.sl 13 (W1.r.items.map CZ) none)],[]⟩⟩) ?_ ?_
  ·skip
   refine Aw (l_ (h:=?_));refine A3 rfl (A8 (Mw s hsb ht) ?_);rintro r rfl;refine m_ (h:=?_);refine A3 rfl (ZA rfl ?_);refine m_ (h:=?_);refine A3 rfl (H5 (y:= .agg (Nj {Gq with exit:=Ks E2} (.bs 5 0 13 W1.r.items.length cap2))) (Du ⟨rfl,rfl⟩) ?_);refine s_ (h:=s_ (h:=GH (h:=?_)));refine⟨_,rfl,(Ga [3,4,5] (rows:=[CW s,Nj {Gq with exit:=Ks E2} (.bs 2 0 13 W1.r.items.length cap2),LB 13 CZ W1.r.items cap2]) (l:=[(6, .bp 0 0),(7, .bp 1 0)]) (fun i hi=>absurd hi (Nat.not_lt_zero i)) (by decide) (.cons _ _ _ _ _ rfl rfl (.cons _ _ _ _ _ rfl rfl (.cons _ _ _ _ _ rfl (MD B5 _ _ _) .nil))) (by repeat (first|exact SubK.nil|refine SubK.cons _ _ _ _ rfl (A7 _) ?_))).trans (Hg 2 1 rfl (congrArg (fun x=>[CW s,Nj {Gq with exit:=Ks E2} x]) (OX B5 rfl rfl hcp2)) (.cons _ _ _ _ rfl (A7 _) (.cons _ _ _ _ rfl (A7 _) .nil)))⟩
  rintro S rfl;refine B3 (BN (?_));refine AX (r:=Ni (D5 s pid c)) none (h5:=(by rw[hrun];exact(by repeat (first|exact A7 _|exact LeA.nil _|exact LeL.refl _|refine LeA.agg ?_|refine LeA.tup ?_|exact LeL.nil|refine LeL.cons ?_ ?_|exact LeA.any _)))) (h6:=⟨rfl,rfl,rfl⟩)
 have he2:E2=0:=by simpa using hc4
 have hlen2:W2.r.items.length≤cap:=by
  rcases hQ with⟨q1,q2⟩|⟨q1,q2,q3⟩
  ·exact absurd (q2.symm.trans he2) q1
  rw[q2,Uj];exact hcap
 have hrun:D5 s pid c=(W2.s,W2.r):=by
  rcases hQ with⟨q1,q2⟩|⟨q1,q2,q3⟩
  ·exact absurd (q2.symm.trans he2) q1
  rw[D5,if_neg hno,if_neg (by simp[hck]),if_neg (by simp[q1]),←hW1,←q3,if_neg (by simp[he2]),q2]
 refine AG (?_);refine BC (fun S=>S=⟨look [(6, .bp 0 0),(7, .bp 1 0)],⟨[CW W2.s,Nj W2.r (.sl 13 (W2.r.items.map CZ) none)],[]⟩⟩) ?_ ?_
 ·skip
  refine BR ([(0,WA W2 cap)]) 10 (h:=AE 0 (h:=BL 1 (h:=AA 2 (h:=A9 3 (h:=AE 4 (h:=BL 5 (h:=AA 6 (h:=A9 7 (h:=?_)))))))));refine B8 8 (h:=?_);refine B8 9 (h:=z_ (h:=?_));refine AR ?_;refine⟨_,rfl,(Ga [3,4,1] (rows:=[CW W2.s,Nj W2.r (.bs 2 0 13 W2.r.items.length cap),LB 13 CZ W2.r.items cap]) (l:=[(6, .bp 0 0),(7, .bp 1 0)]) (fun i hi=>absurd hi (Nat.not_lt_zero i)) (by decide) (.cons _ _ _ _ _ rfl rfl (.cons _ _ _ _ _ rfl rfl (.cons _ _ _ _ _ rfl (MD B5 _ _ _) .nil))) (by repeat (first|exact SubK.nil|refine SubK.cons _ _ _ _ rfl (A7 _) ?_))).trans (Hg 2 1 rfl (congrArg (fun x=>[CW W2.s,Nj W2.r x]) (OX B5 rfl rfl hlen2)) (.cons _ _ _ _ rfl (A7 _) (.cons _ _ _ _ rfl (A7 _) .nil)))⟩
 rintro S rfl;refine B3 (?_);refine A6 ?_;rw[hrun];rfl
theorem rB{s:Syst}{p:Prc}{c:Cal}(h:c.paths=[]):Gt s p c=([],[],DG p c):=by
 unfold Gt Ld;rw[h];rfl
theorem rC(s:Syst)(pid:Int)(c:Cal)(hv:SpcV s.spc)(hm:s.spc.mounts.length≤1000)(ht:TabB s.tab)(htn:Db s.tab)(hcp:c.paths.length≤1000)(hca:c.args.length≤1000)(h6:(C3 c.num).2.2.1=0):AFn prog 49 [.agg (CW s), .v (.int .i64 pid), .agg (Fe c)] (fun r=>r=Ni (D5 s pid c)):=by
 have hsb:=hv.b hm;have hwl:KH s pid c=⟨s,AP s.tab pid,c,(Gt s (AP s.tab pid) c).2.1,{Gq with items:=(Gt s (AP s.tab pid) c).1}⟩:=rfl;refine enter Tryz.func49 rfl rfl rfl rfl rfl 0 rfl ?_;refine FU (h:=CU (h:=e_ (Ay (h:=m_ (h:=?_)))));refine A3 rfl (A8 (KK s.tab pid ht) ?_);rintro r rfl;refine H8 (h:=?_);refine A4 rfl (fun hb1 hc1=>?_) (fun hb1 hc1=>?_)
 ·have hno:CS s.tab pid=false:=by simpa using hc1
  refine C4 (h:=?_);refine A3 rfl (A8 (Mw s hsb ht) ?_);rintro r rfl;refine A3 rfl (H5 (y:= .agg (Kr {Gq with exit:= -4})) (Du ⟨rfl,rfl⟩) ?_);refine s_ (h:=Ei (h:=B3 (BN (?_))));refine A6 ?_;rw[D5,if_pos hno];rfl
 have hno:¬CS s.tab pid=false:=by simpa using hc1
 refine Eh (h:=C4 (h:=?_));refine A3 rfl (A8 (Ya c hcp hca) ?_);rintro r rfl;refine Bl (h:=?_);refine A4 rfl (fun hb2 hc2=>?_) (fun hb2 hc2=>?_)
 ·have hck:Bp c≠0:=by simpa using hc2
  refine C4 (h:=?_);refine A3 rfl (A8 (Mw s hsb ht) ?_);rintro r rfl;refine A3 rfl (H5 (y:= .agg (Kr {Gq with exit:= -22})) (Du ⟨rfl,rfl⟩) ?_);refine s_ (h:=Ei (h:=B3 (BN (?_))));refine A6 ?_;rw[D5,if_neg hno,if_pos hck];rfl
 have hck:Bp c=0:=by simpa using hc2
 obtain⟨hk1,hk2,hk3,hk4,hk5⟩:=Z4 hck;have hargs:∀p∈(Dp s pid c).c.args,p.size≤1000:=fun p hp=>by have:=hk5 p hp;omega
 have hp0:c.paths=[]:=by rw[h6]at hk1;exact List.length_eq_zero_iff.1 (by omega)
 have hpz:(Dp s pid c).c.paths=[]:=hp0;have h9:(Dp s pid c).c.num=9→0<(Dp s pid c).c.args.length:=fun q=>absurd q (Zt h6).2.2.2.1;have h19:(Dp s pid c).c.num=19→0<(Dp s pid c).c.args.length:=fun q=>by have q2:c.num=19:=q;rw[q2]at hk2;have:(C3 19).2.2.2.1=1:=rfl;show 0<c.args.length;omega
 have hlok:=rB (s:=s) (p:=AP s.tab pid) hp0;have hwk:KH s pid c=Dp s pid c:=by rw[hwl,hlok];rfl
 refine AG (q_ (BR ([(0,CW s),(1,Fe c),(4,Av (AP s.tab pid))]) 7 (h:=?_)));refine A9 0 (h:=?_);refine A9 2 (h:=?_);refine A9 3 (h:=?_);refine c_ 1 rfl (A8 (Mw s hsb ht) ?_);rintro r rfl;refine o_ (h:=?_);refine C5 4 rfl (fun _ hS=>Hf (y:= .agg (Df (Dp s pid c) (.v (.slice none 0 0)) (.v (.slice none 0 0)))) (Du ⟨rfl,rfl⟩) (Z7 s pid c) ⟨rfl,rfl⟩) ?_;refine c_ 5 rfl (Qb rfl rfl (by repeat constructor) ?_);refine o_ (h:=B9 6 (h:=z_ (h:=t_ (?_))));refine BC (fun S=>S=⟨look [(3, .bp 2 0),(6, .bp 3 0),(7, .bp 4 0),(10, .bp 0 0),(11, .v (.int .i64 (DG (AP s.tab pid) c)))],⟨[WN (Dp s pid c),Fe c,CW s,KL,LH],[]⟩⟩) ?_ ?_
 ·skip
  refine EK (h:=?_);refine A3 rfl (Ds 1 rfl (.cons _ _ _ _ _ rfl (LeA.of_eq rfl) .nil) (Z6 (Dp s pid c) (.v (.slice none 0 0)) (.v (.slice none 0 0)) h9 hargs) ?_);rintro r rfl;refine⟨rfl,?_⟩;refine A3 rfl (Bj [5] rfl (.cons _ _ _ _ _ rfl (A7 _) (.cons _ _ _ _ _ rfl (A7 _) .nil)) (by decide) (.cons _ _ _ _ _ rfl rfl .nil) (qL (Dp s pid c) (DG (AP s.tab pid) c) hpz) ?_);rintro r bc tc ⟨rfl,rfl,rfl⟩;refine⟨rfl,_,r8 (Dp s pid c),?_⟩;refine Cw (h:=?_);exact⟨_,rfl,Ga [5,1,0,2,3] (fun i hi=>absurd hi (Nat.not_lt_zero i)) (by decide) (.cons _ _ _ _ _ rfl rfl (.cons _ _ _ _ _ rfl rfl (.cons _ _ _ _ _ rfl rfl (.cons _ _ _ _ _ rfl rfl (.cons _ _ _ _ _ rfl rfl .nil))))) (by repeat (first|exact SubK.nil|refine SubK.cons _ _ _ _ rfl (A7 _) ?_))⟩
 rintro S rfl;refine Aa (h:=Dj (h:=?_));refine A3 rfl (qG rfl rfl ?_);refine BO (h:=?_);refine BC (fun S=>∃(W2:Wrk) (E2:Int),((¬DG (AP s.tab pid) c=0∧E2=DG (AP s.tab pid) c)∨(DG (AP s.tab pid) c=0∧W2=(BT (Dp s pid c)).1∧E2=(BT (Dp s pid c)).2))∧S=⟨look [(3, .bp 2 0),(6, .bp 3 0),(7, .bp 4 0),(10, .bp 0 0),(11, .v (.int .i64 E2)),(12, .v (.slice none 0 0))],⟨[WN W2,Fe c,CW s,KL,LH],[]⟩⟩) ?_ ?_
 ·skip
  refine Aa (h:=Bd (h:=?_));refine A4 rfl (fun hb3 hc3=>?_) (fun hb3 hc3=>?_)
  ·have he1:DG (AP s.tab pid) c=0:=by simpa using hc3
   refine C2 (h:=?_);refine A3 rfl (Bj [0] rfl (.cons _ _ _ _ _ rfl (A7 _) .nil) (by decide) (.cons _ _ _ _ _ rfl rfl .nil) (qM (Dp s pid c) hsb ht htn h19 (Zt h6)) ?_);rintro r bc tc ⟨rfl,rfl,rfl⟩;refine⟨rfl,_,Ln ((BT (Dp s pid c)).1),?_⟩;refine Cw (h:=?_);exact⟨_,⟨(BT (Dp s pid c)).1,(BT (Dp s pid c)).2, .inr ⟨he1,rfl,rfl⟩,rfl⟩,Ah 5 0 rfl rfl rfl (by simp[AY,AT,AQ,BD,WN,CW,KL,LH,Fe]) ((by repeat (first|exact Sub.nil|refine Ai rfl rfl ?_|refine Ap ?_|refine Aq rfl ?_|refine Ar rfl ?_)))⟩
  have he1:¬DG (AP s.tab pid) c=0:=by simpa using hc3
  refine BG (AR (?_))
  first|exact⟨_,⟨(BT (Dp s pid c)).1,(BT (Dp s pid c)).2, .inr ⟨he1,rfl,rfl⟩,rfl⟩,Ah 5 0 rfl rfl rfl (by simp[AY,AT,AQ,BD,WN,CW,KL,LH,Fe]) ((by repeat (first|exact Sub.nil|refine Ai rfl rfl ?_|refine Ap ?_|refine Aq rfl ?_|refine Ar rfl ?_)))⟩|exact⟨_,⟨Dp s pid c,_, .inl ⟨he1,rfl⟩,rfl⟩,Ah 5 0 rfl rfl rfl (by simp[AY,AT,AQ,BD,WN,CW,KL,LH,Fe]) ((by repeat (first|exact Sub.nil|refine Ai rfl rfl ?_|refine Ap ?_|refine Aq rfl ?_|refine Ar rfl ?_)))⟩
 rintro S ⟨W2,E2,hQ,rfl⟩;refine Bf (h:=Bl (h:=?_));refine A4 rfl (fun hb4 hc4=>?_) (fun hb4 hc4=>?_)
 ·have he2:E2≠0:=by simpa using hc4
  have hrun:D5 s pid c=(s,{Gq with exit:=Ks E2}):=by
   rw[D5,if_neg hno,if_neg (by simp[hck]),hlok];rcases hQ with⟨q1,q2⟩|⟨q1,q2,q3⟩
   ·rw[if_pos q1,←q2];rfl
   rw[if_neg (by simp[q1]),hwk,←q3,if_pos he2];rfl
  refine C4 (h:=?_);refine A3 rfl (A8 (Mw s hsb ht) ?_);rintro r rfl;refine m_ (h:=?_);refine A3 rfl (ZA rfl ?_);refine m_ (h:=?_);refine A3 rfl (H5 (y:= .agg (Kr {Gq with exit:=Ks E2})) (Du ⟨rfl,rfl⟩) ?_);refine s_ (h:=Ei (h:=B3 (BN (?_))));refine AX (r:=Ni (D5 s pid c)) none (h5:=(by rw[hrun];exact(by repeat (first|exact A7 _|exact LeA.nil _|exact LeL.refl _|refine LeA.agg ?_|refine LeA.tup ?_|exact LeL.nil|refine LeL.cons ?_ ?_|exact LeA.any _)))) (h6:=⟨rfl,rfl,rfl⟩)
 have he2:E2=0:=by simpa using hc4
 have hrun:D5 s pid c=(W2.s,W2.r)∧W2.r.items=[]:=by
  rcases hQ with⟨q1,q2⟩|⟨q1,q2,q3⟩
  ·exact absurd (q2.symm.trans he2) q1
  refine⟨?_,?_⟩
  ·rw[D5,if_neg hno,if_neg (by simp[hck]),hlok,if_neg (by simp[q1]),hwk,←q3,if_neg (by simp[he2]),q2]
  refine List.length_eq_zero_iff.1 ?_;rw[q2,Uj];rfl
 refine AG (q_ (BR ([(0,WN W2)]) 10 (h:=AE 0 (h:=BL 1 (h:=AA 2 (h:=A9 3 (h:=AE 4 (h:=BL 5 (h:=AA 6 (h:=A9 7 (h:=?_)))))))))));refine B8 8 (h:=?_);refine B8 9 (h:=z_ (h:=t_ (B3 (?_))));refine AX (r:=Ni (D5 s pid c)) none (h5:=?_) (h6:=⟨rfl,rfl,rfl⟩);rw[hrun.1,Ni,Kr,hrun.2];exact(by repeat (first|exact A7 _|exact LeA.nil _|exact LeL.refl _|refine LeA.agg ?_|refine LeA.tup ?_|exact LeL.nil|refine LeL.cons ?_ ?_|exact LeA.any _))
theorem Pt(s:Syst)(pid:Int)(c:Cal)(hv:SpcV s.spc)(hm:s.spc.mounts.length≤1000)(ht:TabB s.tab)(htn:Db s.tab)(hcp:c.paths.length≤1000)(hca:c.args.length≤1000):AFn prog 49 [.agg (CW s), .v (.int .i64 pid), .agg (Fe c)] (fun r=>r=Ni (D5 s pid c)):=by
 rcases qY c.num with h|h
 ·exact rA s pid c hv hm ht hcp hca h
 exact rC s pid c hv hm ht htn hcp hca h
end
def Gx(ns:List Nod)(i:Int):Option Int:=(ns.find? fun n:Nod=>n.ino==i).map (·.kind)
def MM(f:AU)(a:AD):Option Int:=match G0 f a.1 with
 |none=>none
 |some d=>Gx d.nodes a.2
theorem rD(f:AU)(a:AD):Ac f a=decide (MM f a=some 2):=by
 have key:∀o:Option Nod,(match o with|none=>false|some n=>n.kind==2)=decide (o.map (·.kind)=some 2):=by
  intro o
  cases o with
  |none=>rfl
  |some n=>by_cases h:n.kind=2<;>simp[h]
 unfold Ac MM CQ
 cases G0 f a.1 with
 |none=>rfl
 |some d=>exact key _
theorem S1{j:Int}{g:Nod→Nod}(hi:∀n,(g n).ino=n.ino)(hk:∀n,(g n).kind=n.kind)(i:Int):∀ns:List Nod,Gx (D3 ns j g) i=Gx ns i
 |[]=>rfl
 |n::ns=>by
   have ih:=S1 hi hk (j:=j) i ns;unfold Gx D3 at ih ⊢;rw[List.map_cons,List.find?_cons,List.find?_cons];have e1:(if n.ino=j then g n else n).ino=n.ino:=by split<;>simp[hi]
   have e2:(if n.ino=j then g n else n).kind=n.kind:=by split<;>simp[hk]
   rw[e1]
   cases n.ino==i with
   |true=>simp[e2]
   |false=>exact ih
theorem Zu{ns:List Nod}{i j:Int}(h:i≠j):Gx (CC ns j) i=Gx ns i:=by
 unfold Gx CC;rw[List.find?_filter]
 congr 2
 funext n
 by_cases e:n.ino=i
 ·subst e;simp[h]
 simp[e]
theorem Np(ns:List Nod)(p:Int)(name:AF)(ino i:Int):Gx (Bb ns p name ino) i=Gx ns i:=S1 (g:=OF name ino) (j:=p) (fun _=>rfl) (fun _=>rfl) i ns
theorem rE(ns:List Nod)(a p:Int)(b:Bool)(i:Int):Gx (Lb ns a p b) i=Gx ns i:=by
 unfold Lb;split
 ·exact S1 (g:=fun n=>{n with parent:=p}) (j:=a) (fun _=>rfl) (fun _=>rfl) i ns
 rfl
theorem rF{ns:List Nod}{i k:Int}(h:Gx ns i=some k)(m:Nod):Gx (ns++[m]) i=some k:=by
 unfold Gx at h ⊢;rw[List.find?_append]
 cases e:ns.find? fun n:Nod=>n.ino==i with
 |none=>rw[e]at h;simp at h
 |some n=>rw[e]at h;simpa using h
theorem Zv{f:AU}{q:Nat}{d d':Dvc}(hq:f[q]?=some d){a:AD}{k:Int}(h:MM f a=some k)(hd:a.1=(q:Int)→Gx d.nodes a.2=some k→Gx d'.nodes a.2=some k):MM (f.set q d') a=some k:=by
 unfold MM at h ⊢;unfold G0 at h ⊢;by_cases c:a.1<0
 ·rw[if_pos c]at h;cases h
 rw[if_neg c]at h ⊢;rw[List.getElem?_set];by_cases e:q=a.1.toNat
 ·subst e;have hl:=(Af.1 hq).1;rw[if_pos rfl,if_pos hl];rw[hq]at h;exact hd (by omega) h
 rw[if_neg e];exact h
theorem S2{f:AU}{q:Nat}{g:List Nod→List Nod}{a:AD}{k:Int}(h:MM f a=some k)(hd:∀ns,a.1=(q:Int)→Gx ns a.2=some k→Gx (g ns) a.2=some k):MM (Jj f q g) a=some k:=by
 cases e:f[q]? with
 |none=>
   have:Jj f q g=f:=by
    unfold Jj;apply List.ext_getElem?;intro i;rw[List.getElem?_modify];by_cases c:q=i
    ·subst c;rw[e];rfl
    cases f[i]?<;>simp[c]
   rw[this];exact h
 |some d=>
   rw[KD e];exact Zv e h (hd d.nodes)
theorem Pu{f g:AU}{a:AD}(h:Ac f a=true)(hk:MM f a=some 2→MM g a=some 2):Ac g a=true:=by
 rw[rD,decide_eq_true_iff]at h ⊢;exact hk h
theorem rG{f:AU}{dir:AD}{name:AF}{n:Nod}(h0:(FN f dir name n).2.2=0){a:AD}(h:Ac f a=true):Ac (FN f dir name n).1 a=true:=by
 unfold FN at h0 ⊢;split at h0
 ·rename_i c;exact absurd h0 c
 rename_i c1;rw[if_neg c1];split at h0
 ·exact absurd h0 (by decide)
 rename_i c2;rw[if_neg c2];split at h0
 ·exact absurd h0 (by decide)
 rename_i c3;rw[if_neg c3]
 cases e:G0 f dir.1 with
 |none=>rw[e]at h0;exact absurd h0 (by simp)
 |some d=>
   rw[e]at h0;simp only at h0 ⊢;split at h0
   ·exact absurd h0 (by decide)
   rename_i c4;rw[if_neg c4]
   have hq:f[dir.1.toNat]?=some d:=by
    unfold G0 at e;split at e
    ·cases e
    exact e
   refine Pu h fun hk=>Zv hq hk fun _ hk=>rF ?_ _;rw[Np];exact hk
theorem rH{f:AU}{dir:AD}{name:AF}{b:AD}(h0:(Ex f dir name b).2.2=0){a:AD}(h:Ac f a=true):Ac (Ex f dir name b).1 a=true:=by
 revert h0;unfold Ex
 repeat' split
 all_goals first|exact fun h0=>absurd h0 (by assumption)|exact fun h0=>absurd h0 (by decide)|skip
 exact fun _=>Pu h fun hk=>S2 hk fun ns _ hn=>(Np ns dir.2 name b.2 a.2).trans hn
theorem Zw{f:AU}{dir:AD}{name:AF}{o:AD}(ho:o.1=dir.1){a:AD}(h:Ac f a=true)(hne:a≠o)(h0:0≤dir.1):Ac (Jj f dir.1.toNat fun ns=>CC (Bb ns dir.2 name 0) o.2) a=true:=
 Pu h fun hk=>S2 hk fun ns ha hn=>by
  rw[Zu (fun e=>hne (Prod.ext (by rw[ha,ho];omega) e)),Np];exact hn
theorem Uk{f:AU}{dir:AD}{name:AF}(h:(AM f dir name).2=0):(AM f dir name).1.1=dir.1:=by
 unfold AM at h ⊢;split
 ·rename_i e;rw[e]at h;exact absurd h (by simp)
 rename_i n e;rw[e]at h;simp only at h;split at h
 ·rename_i c;rw[if_pos c];split
  ·rename_i e2;rw[e2]at h;exact absurd h (by simp)
  rfl
 exact absurd h (by decide)
theorem Ul{f:AU}{dir:AD}{name:AF}(h:Cf f dir name=0):0≤dir.1:=by
 unfold Cf CQ G0 at h;by_cases c:dir.1<0
 ·rw[if_pos c]at h;exact absurd h (by simp)
 omega
theorem rJ{f:AU}{dir:AD}{name:AF}(h0:(Hy f dir name).2.2=0){a:AD}(h:Ac f a=true):Ac (Hy f dir name).1 a=true:=by
 unfold Hy at h0 ⊢;split at h0
 ·rename_i c;exact absurd h0 c
 rename_i c1;rw[if_neg c1];split at h0
 ·rename_i c;exact absurd h0 c
 rename_i c2;rw[if_neg c2];split at h0
 ·exact absurd h0 (by decide)
 rename_i c3;rw[if_neg c3];exact Zw (Uk (by omega)) h (fun e=>c3 (by rw[←e];exact h)) (Ul (f:=f) (name:=name) (by omega))
theorem rK{f:AU}{dir:AD}{name:AF}(h0:(Gk f dir name).2.2=0){a:AD}(h:Ac f a=true)(hne:a≠(AM f dir name).1):Ac (Gk f dir name).1 a=true:=by
 unfold Gk at h0 ⊢;split at h0
 ·rename_i c;exact absurd h0 c
 rename_i c1;rw[if_neg c1];split at h0
 ·rename_i c;exact absurd h0 c
 rename_i c2;rw[if_neg c2];split at h0
 ·exact absurd h0 (by decide)
 rename_i c3;rw[if_neg c3];split at h0
 ·exact absurd h0 (by decide)
 rename_i c4;rw[if_neg c4];exact Zw (Uk (by omega)) h hne (Ul (f:=f) (name:=name) (by omega))
theorem rL{f:AU}{b:AD}{m u g:Int}(h0:(G5 f b m u g).2=0){a:AD}(h:Ac f a=true):Ac (G5 f b m u g).1 a=true:=by
 unfold G5 at h0 ⊢;split at h0
 ·exact absurd h0 (by decide)
 rename_i c1;rw[if_neg c1];split at h0
 ·exact absurd h0 (by decide)
 rename_i c2;rw[if_neg c2];exact Pu h fun hk=>S2 hk fun ns _ hn=>(S1 (g:=GR m u g) (j:=b.2) (fun _=>rfl) (fun _=>rfl) a.2 ns).trans hn
theorem rM{f:AU}{src to:AD}{name name2:AF}(h0:(G6 f src name to name2).2.2=0){a:AD}(h:Ac f a=true)
    (hne:(AM f to name2).2=0→(AM f to name2).1≠(AM f src name).1→a≠(AM f to name2).1):Ac (G6 f src name to name2).1 a=true:=by
 unfold G6 at h0 ⊢;split at h0
 ·rename_i c;exact absurd h0 c
 rename_i c1;rw[if_neg c1];split at h0
 ·rename_i c;exact absurd h0 c
 rename_i c2;rw[if_neg c2];split at h0
 ·exact absurd h0 (by decide)
 rename_i c3;rw[if_neg c3];split at h0
 ·exact absurd h0 (by decide)
 rename_i c4;rw[if_neg c4];split at h0
 ·rename_i c5;rw[if_pos c5];exact h
 rename_i c5;rw[if_neg c5];split at h0
 ·rename_i c;exact absurd h0 c
 rename_i c6;rw[if_neg c6];refine Pu h fun hk=>?_;dsimp only;refine S2 hk fun ns ha hn=>?_;rw[rE];unfold Nb;split
 ·rename_i e0;have hd:=Uk e0;have hne':=hne e0 fun e=>c5 ⟨e0,e⟩;have hto:=Ul (Tx (f:=f) (x:=src) (y:=to) (name:=name) (name2:=name2) (by omega)).2;have hk2:a.2≠(AM f to name2).1.2:=fun e=>hne' (Prod.ext (by rw[ha,hd];omega) e);rw[Zu hk2,Np,Np];exact hn
 rw[Np,Np];exact hn
theorem SpcV.keep{s:Spc}(hs:SpcV s){g:AU}(hv:FlsV g)(hl:g.length=s.files.length)(hd:∀a,(Dm s a).isSome=true→Ac s.files a=true→Ac g a=true):SpcV ⟨g,s.mounts⟩:=by
 refine⟨hv,by show 0<g.length;rw[hl];exact hs.pos,fun i m hm=>?_⟩;have h:=hs.mnt i m hm;refine⟨h.dev1,by rw[hl];exact h.dev2,h.fresh,hd _ ?_ h.dir,h.there,h.free⟩;unfold Dm;rw[Option.isSome_map,List.find?_isSome];exact⟨m,Am hm,by simp⟩
structure SysV(s:Syst)(m:Nat):Prop where
 spc:SpcV s.spc
 few:s.spc.mounts.length≤m
 tab:TabB s.tab
 num:Db s.tab
theorem SysV.mono{s:Syst}{m n:Nat}(h:SysV s m)(hm:m≤n):SysV s n:=⟨h.spc,Nat.le_trans h.few hm,h.tab,h.num⟩
def FS(w w':Syst):Prop:=∀m,SysV w m→SysV w' (m+1)
theorem Of{t:Tab}(ht:TabB t){p:Prc}(hp:p.opens.length≤8):TabB (JS t p):=by
 refine⟨by simpa[JS]using ht.few,fun q hq=>?_,ht.next,ht.nextS⟩;simp only[JS,List.mem_map]at hq;obtain⟨x,hx,rfl⟩:=hq;split
 ·exact hp
 exact ht.opens x hx
theorem rN{t:Tab}(ht:TabB t)(pid:Int):TabB (Gr t pid).1:=by
 unfold Gr;split
 ·exact KM
 split
 ·exact KM
 rename_i c;refine⟨?_,fun q hq=>?_,?_,ht.nextS⟩
 ·show(t.ps++[_]).length≤16;rw[List.length_append,List.length_singleton];omega
 ·rcases List.mem_append.1 hq with hq|hq
  ·exact ht.opens q hq
  rw[List.mem_singleton]at hq;subst hq;exact Jt ht pid
 have:=ht.next;show t.next+1≤1073741824;omega
theorem Zx{t:Tab}(ht:TabB t)(pid:Int):TabB (Jm t pid).1:=by
 unfold Jm;split
 ·exact KM
 split
 ·exact KM
 refine⟨?_,fun q hq=>?_,ht.next,ht.nextS⟩
 ·show((t.ps.filter _).map _).length≤16;rw[List.length_map];exact Nat.le_trans (List.length_filter_le _ _) ht.few
 have hq:q∈(t.ps.filter fun p=>decide (p.pid≠pid)).map (Jl pid):=hq;rw[List.mem_map]at hq;obtain⟨x,hx,rfl⟩:=hq;have h8:=ht.opens x (List.mem_filter.1 hx).1;unfold Jl;split
 ·exact h8
 exact h8
theorem rO{t:Tab}(ht:TabB t)(pid u:Int):TabB (Jn t pid u).1:=by
 unfold Jn
 repeat' split
 all_goals first|exact KM|exact Of ht (Jt ht pid)
theorem rP{t:Tab}(ht:TabB t)(pid u:Int):TabB (Jo t pid u).1:=by
 unfold Jo
 repeat' split
 all_goals first|exact KM|exact Of ht (Jt ht pid)
theorem rQ{t:Tab}(ht:TabB t)(pid u:Int):TabB (GV t pid u).1:=by
 unfold GV
 repeat' split
 all_goals first|exact KM|skip
 rename_i c;have h:=Of ht (p:={AP t pid with auid:=u,ses:=t.nextS}) (Jt ht pid);refine⟨h.few,h.opens,h.next,?_⟩;have:=ht.nextS;show t.nextS+1≤1073741824;omega
theorem rR{t:Tab}(ht:TabB t)(pid fd:Int):TabB (Kl t pid fd).1:=by
 unfold Kl
 repeat' split
 all_goals first|exact KM|skip
 exact Of ht (Nat.le_trans (List.length_filter_le _ _) (Jt ht pid))
theorem rT{t:Tab}(ht:TabB t)(pid:Int)(a:AD):TabB (LC t pid a).1:=by
 unfold LC;split
 ·exact KM
 exact Of ht (Jt ht pid)
theorem rU{t:Tab}(ht:TabB t)(pid:Int)(a b:AF):TabB (LD t pid a b).1:=by
 unfold LD;split
 ·exact KM
 exact Of ht (Jt ht pid)
theorem rV{t:Tab}(ht:TabB t)(pid target:Int)(b:Bool):TabB (JT t pid target b).1:=by
 unfold JT
 repeat' split
 all_goals first|exact KM|exact Zx ht _|exact ht
theorem Lo:Db EB:=⟨Int.le_refl _,Int.le_refl _⟩
theorem rW{t:Tab}(ht:Db t)(pid:Int):Db (Gr t pid).1:=by
 unfold Gr
 repeat' split
 all_goals first|exact Lo|(have h1:=ht.1;have h2:=ht.2;exact⟨by show 0≤t.next+1;omega,h2⟩)
theorem Zy{t:Tab}(ht:Db t)(pid:Int):Db (Jm t pid).1:=by
 unfold Jm
 repeat' split
 all_goals first|exact Lo|exact ht
theorem rX{t:Tab}(ht:Db t)(pid u:Int):Db (Jn t pid u).1:=by
 unfold Jn
 repeat' split
 all_goals first|exact Lo|exact ht
theorem rY{t:Tab}(ht:Db t)(pid u:Int):Db (Jo t pid u).1:=by
 unfold Jo
 repeat' split
 all_goals first|exact Lo|exact ht
theorem rZ{t:Tab}(ht:Db t)(pid u:Int):Db (GV t pid u).1:=by
 unfold GV
 repeat' split
 all_goals first|exact Lo|(have h1:=ht.1;have h2:=ht.2;exact⟨h1,by show 0≤t.nextS+1;omega⟩)
theorem s6{t:Tab}(ht:Db t)(pid fd:Int):Db (Kl t pid fd).1:=by
 unfold Kl
 repeat' split
 all_goals first|exact Lo|exact ht
theorem s7{t:Tab}(ht:Db t)(pid:Int)(a:AD):Db (LC t pid a).1:=by
 unfold LC
 repeat' split
 all_goals first|exact Lo|exact ht
theorem s8{t:Tab}(ht:Db t)(pid:Int)(a b:AF):Db (LD t pid a b).1:=by
 unfold LD
 repeat' split
 all_goals first|exact Lo|exact ht
theorem s9{t:Tab}(ht:Db t)(pid target:Int)(b:Bool):Db (JT t pid target b).1:=by
 unfold JT
 repeat' split
 all_goals first|exact Lo|exact Zy ht _|exact ht
theorem sA{t:Tab}(ht:Db t)(pid:Int)(a:AD)(fl:Int):Db (GW t pid a fl).1:=by
 unfold GW
 repeat' split
 all_goals first|exact Lo|exact ht
theorem Zz{w:Wrk}{R:Tab×Int}(h:Db w.s.tab)(hR:Db R.1):Db (CJ w R).1.s.tab:=by
 unfold CJ;split
 ·exact hR
 exact h
theorem KP(s:Syst):FS s s:=fun _ h=>h.mono (Nat.le_succ _)
theorem MN{w:Wrk}{R:Tab×Int}(hR:∀m,SysV w.s m→TabB R.1∧Db R.1):FS w.s (CJ w R).1.s:=by
 intro m h;refine⟨by rw[Ua];exact h.spc,by rw[Ua];exact Nat.le_trans h.few (Nat.le_succ _),ZM h.tab (hR m h).1,Zz h.num (hR m h).2⟩
theorem Og{w:Wrk}{R:FH}(hO:SpcV w.s.spc→Nc w.s.spc.files R)(hd:R.2.2=0→SpcV w.s.spc→∀a,(Dm w.s.spc a).isSome=true→Ac w.s.spc.files a=true→Ac R.1 a=true):FS w.s (BZ w R).1.s:=by
 intro m h;unfold BZ;split
 ·rename_i h0;obtain⟨k1,k2⟩:=hO h.spc h0;exact⟨h.spc.keep k1 k2 (hd h0 h.spc),Nat.le_trans h.few (Nat.le_succ _),h.tab,h.num⟩
 exact h.mono (Nat.le_succ _)
theorem Um(w:Wrk)(i:Nat)(n:Nod):FS w.s (D4 w i n).1.s:=by
 unfold D4;split
 ·rename_i h0;exact Og (w:=w) (R:=Fs w i n) (fun h=>Xk h.files _ _ _) fun h0 _ a _ ha=>rG h0 ha
 exact KP _
theorem sB(w:Wrk)(i:Nat)(n:Nod):(D4 w i n).1.s.spc.mounts=w.s.spc.mounts:=by
 unfold D4;split
 ·show(BZ w _).1.s.spc.mounts=_;unfold BZ;split<;>rfl
 rfl
theorem aA{w w':Wrk}(hw:FS w'.s w.s)(hmnt:w.s.spc.mounts=w'.s.spc.mounts)(a:AD):FS w'.s (LE w a).1.s:=by
 intro m h;have h2:=hw m h;have hspc:(LE w a).1.s.spc=w.s.spc:=Ua _ _;refine⟨by rw[hspc];exact h2.spc,by rw[hspc,hmnt];exact Nat.le_trans h.few (Nat.le_succ _),?_,?_⟩
 ·unfold LE;exact ZM (w:=Rh w _) h2.tab (oF h2.tab _ _ _)
 unfold LE;exact Zz (w:=Rh w _) h2.num (sA h2.num _ _ _)
theorem sC(w:Wrk):FS w.s (Cp w).1.s:=by
 unfold Cp
 repeat' split
 all_goals first|exact KP _|exact Um w _ _|exact aA (KP _) rfl _|exact aA (Um w _ _) (sB _ _ _) _
theorem sD(w:Wrk):FS w.s (G8 w).1.s:=by
 unfold G8
 repeat' split
 all_goals first|exact KP _|skip
 exact Og (w:=w) (R:=Ex w.s.spc.files _ _ _) (fun h=>Xi h.files _ _ _) fun h0 _ a _ ha=>rH h0 ha
theorem aB{w:Wrk}{R:FH}(h:FS w.s (BZ w R).1.s):FS w.s (KG w R).1.s:=by
 unfold KG;split
 ·exact KP _
 exact h
theorem sE(w:Wrk):FS w.s (Ey w).1.s:=by
 unfold Ey
 repeat' split
 all_goals first|exact KP _|skip
 ·exact aB (Og (fun h=>iF h.files _ _) fun h0 _ a _ ha=>rJ h0 ha)
 rename_i c _;refine aB (Og (fun h=>iG h.files _ _) fun h0 _ a hc ha=>rK h0 ha ?_);rintro rfl;refine c ?_;unfold Jq;rw[hc];rfl
theorem sF{w:Wrk}{R:FH}{x:AD}(h:FS w.s (BZ w R).1.s):FS w.s (Le w R x).1.s:=by
 unfold Le
 repeat' split
 all_goals first|exact KP _|exact h
theorem sG(w:Wrk):FS w.s (G9 w).1.s:=by
 unfold G9
 repeat' split
 all_goals first|exact KP _|skip
 rename_i c;refine sF (Og (fun h=>Xm h.files _ _ _ _) fun h0 _ a hc ha=>rM h0 ha fun e1 e2 e3=>c ⟨e1,e2,?_,?_⟩)
 ·rw[←e3];exact ha
 rw[←e3];unfold Jq;rw[hc];rfl
theorem sH{w:Wrk}(b:AD)(x y z:Int):FS w.s (Lf w (G5 w.s.spc.files b x y z)).1.s:=by
 unfold Lf;exact Og (fun h=>iH h.files _ _ _ _) fun h0 _ a _ ha=>rL h0 ha
theorem sK(w:Wrk):FS w.s (GX w).1.s:=by
 unfold GX
 repeat' split
 all_goals first|exact KP _|exact sH _ _ _ _
theorem sL(w:Wrk)(dev:Int)(a:AD):FS w.s (Lg w (ER w.s.spc dev a)).1.s:=by
 intro m h;unfold Lg;split
 ·rename_i h0;obtain⟨k1,k2⟩:=iR h.spc dev a h0;refine⟨k1,?_,h.tab,h.num⟩;show(ER w.s.spc dev a).1.mounts.length≤m+1;rw[k2];have:=h.few;simp only[List.length_append,List.length_singleton];omega
 exact h.mono (Nat.le_succ _)
theorem sM(w:Wrk)(dev:Int):FS w.s (Lh w (Hz w.s.spc dev)).1.s:=by
 intro m h;unfold Lh;split
 ·rename_i h0;obtain⟨k1,k2⟩:=lP h.spc dev h0;refine⟨k1,?_,h.tab,h.num⟩;show(Hz w.s.spc dev).1.mounts.length≤m+1;rw[k2];exact Nat.le_trans (List.length_filter_le _ _) (Nat.le_trans h.few (Nat.le_succ _))
 exact h.mono (Nat.le_succ _)
theorem sN(w:Wrk):FS w.s (Dz w).1.s:=by
 unfold Dz
 repeat' split
 all_goals first|exact KP _|exact sL w _ _|exact MN (fun m h=>⟨rU h.tab _ _ _,s8 h.num _ _ _⟩)|exact MN (fun m h=>⟨rT h.tab _ _,s7 h.num _ _⟩)
theorem sO(w:Wrk):FS w.s (GY w).1.s:=by
 unfold GY
 repeat' split
 all_goals first|exact KP _|exact Um w _ _
theorem sP(w:Wrk):FS w.s (He w).1.s:=by
 unfold He
 repeat' split
 all_goals first|exact KP _|exact sM w _
theorem sQ(w:Wrk):FS w.s (FQ w).1.s:=by
 unfold FQ
 repeat' split
 all_goals first
  |exact KP _
  |exact sP w
  |exact MN (w:=OW w _) (R:=((Gr w.s.tab w.p.pid).1,(Gr w.s.tab w.p.pid).2.2)) (fun m h=>⟨rN h.tab _,rW h.num _⟩)
  |exact MN (fun m h=>⟨Zx h.tab _,Zy h.num _⟩)
  |exact MN (fun m h=>⟨rO h.tab _ _,rX h.num _ _⟩)
  |exact MN (fun m h=>⟨rP h.tab _ _,rY h.num _ _⟩)
  |exact MN (fun m h=>⟨rQ h.tab _ _,rZ h.num _ _⟩)
  |exact MN (fun m h=>⟨rR h.tab _ _,s6 h.num _ _⟩)
  |exact MN (fun m h=>⟨rV h.tab _ _ _,s9 h.num _ _ _⟩)
theorem sR(w:Wrk):FS w.s (BT w).1.s:=by
 unfold BT
 repeat' split
 all_goals first|exact sC w|exact sD w|exact sE w|exact sG w|exact sK w|exact sN w|exact sO w|exact sQ w
theorem S3{s:Syst}{m:Nat}(h:SysV s m)(pid:Int)(c:Cal):SysV (D5 s pid c).1 (m+1):=by
 have ha:=sR (KH s pid c) m h;unfold D5
 repeat' split
 all_goals first|exact h.mono (Nat.le_succ _)|exact ha
theorem sT(a:AD):TabB (OQ a):=⟨by show(1:Nat)≤16;decide,fun p hp=>by
 simp only[OQ,List.mem_singleton]at hp;subst hp
 exact BE _,by show(2:Int)≤1073741824;decide,by show(1:Int)≤1073741824;decide⟩
theorem sU(a:AD):Db (OQ a):=⟨by show(0:Int)≤2;decide,by show(0:Int)≤1;decide⟩
theorem sV{n:Int}(h1:1≤n)(h2:n≤3):SysV (KJ n).1 0:=by
 unfold KJ;have h:=Xq h1 h2;split
 ·rename_i c;exfalso;refine c ?_;unfold GO;split
  ·omega
  rfl
 exact⟨⟨h.1,h.2,fun i m hm=>by cases hm⟩,BE _,sT _,sU _⟩
theorem sW{a b:Nat}(h:a<b):Nat.blt a b=true:=by rw[Nat.blt_eq];exact h
theorem SetAt.sym{α:Type}{x:α}:∀{row:List α} {o:Nat},o<row.length→SetAt row o [x] (row.set o x)
 |[],_,h=>by simp at h
 |y::ys,0,_=>SetAt.here y x ys [] ys (SetAt.nil ys 0)
 |y::ys,o+1,h=>SetAt.there y x ys [] (ys.set o x) o (SetAt.sym (by simpa using h))
theorem sX(n:Int):0≤(C3 n).2.1∧(C3 n).2.1≤2∧0≤(C3 n).2.2.1∧(C3 n).2.2.1≤2∧0≤(C3 n).2.2.2.1∧(C3 n).2.2.2.1≤(C3 n).2.2.2.2∧(C3 n).2.2.2.2≤100:=by
 unfold C3;split
 ·decide
 rename_i h;obtain⟨m,rfl⟩:=Int.eq_ofNat_of_zero_le (show 0≤n by omega);have hm:m<22:=by omega
 have key:∀m,m<22→0≤((Fr[m]?).getD (⟨#[]⟩,0,0,0,0)).2.1∧((Fr[m]?).getD (⟨#[]⟩,0,0,0,0)).2.1≤2∧0≤((Fr[m]?).getD (⟨#[]⟩,0,0,0,0)).2.2.1∧((Fr[m]?).getD (⟨#[]⟩,0,0,0,0)).2.2.1≤2∧0≤((Fr[m]?).getD (⟨#[]⟩,0,0,0,0)).2.2.2.1∧((Fr[m]?).getD (⟨#[]⟩,0,0,0,0)).2.2.2.1≤((Fr[m]?).getD (⟨#[]⟩,0,0,0,0)).2.2.2.2∧((Fr[m]?).getD (⟨#[]⟩,0,0,0,0)).2.2.2.2≤100:=by decide
 exact key m hm
def Pv(p:Prc)(c:Cal)(r:Res):List AV:=[.v (.int .i64 2), .v (.int .i64 p.pid), .v (.int .i64 p.ppid), .v (.int .i64 p.uid), .v (.int .i64 p.euid), .v (.int .i64 p.gid), .v (.int .i64 p.egid), .v (.int .i64 p.auid), .v (.int .i64 p.ses), .v (.int .i64 p.cwd.1), .v (.int .i64 p.cwd.2), .v (.string p.comm), .v (.string p.exe), .sl 4 (p.opens.map Gu) none, .v (.bool p.audited),
 .v (.int .i64 c.num), .v (.int .i64 c.a0), .v (.int .i64 c.a1), .v (.int .i64 c.a2), .v (.int .i64 c.a3), .sl 1 (c.paths.map DH) none, .sl 1 (c.args.map DH) none, .v (.int .i64 r.exit), .sl 13 (r.items.map CZ) none, .v (.int .i64 0)]
def sY:List AV:=[.v (.int .i64 0), .v (.int .i64 0), .v (.int .i64 0), .v (.int .i64 0), .v (.int .i64 0), .v (.int .i64 0), .v (.int .i64 0), .v (.int .i64 0), .v (.int .i64 0), .v (.int .i64 0), .v (.int .i64 0), .v (.string ⟨#[]⟩), .v (.string ⟨#[]⟩), .v (.slice none 0 0), .v (.bool false), .v (.int .i64 0), .v (.int .i64 0), .v (.int .i64 0), .v (.int .i64 0), .v (.int .i64 0), .v (.slice none 0 0), .v (.slice none 0 0), .v (.int .i64 0), .v (.slice none 0 0), .v (.int .i64 0)]
theorem sZ(s:Syst)(pid:Int)(c:Cal):(D5 s pid c).2.items.length≤c.paths.length:=by
 have hw:=(Z5 s pid c).2.2;have hz:(c.paths.zip (DD c)).length≤c.paths.length:=by rw[List.length_zip];omega
 have h1:(Gt s (AP s.tab pid) c).1.length≤c.paths.length:=by
  have:(KH s pid c).r.items=(Gt s (AP s.tab pid) c).1:=rfl;rw[this]at hw;omega
 have h2:(BT (KH s pid c)).1.r.items.length≤c.paths.length:=by rw[Uj];omega
 unfold D5
 repeat' split
 all_goals first|exact BE _|exact h1|exact h2
section
theorem t6(n:Int):AFn prog 99 [.v (.int .i64 n)] (fun r=>r= .tup [.v (.int .i64 (C3 n).2.1), .v (.int .i64 (C3 n).2.2.1), .v (.int .i64 (C3 n).2.2.2.1), .v (.int .i64 (C3 n).2.2.2.2)]):=by
 refine enter Tryz.func99 rfl rfl rfl rfl rfl 0 rfl ?_;refine w_ (a_ (h:=a_ (h:=a_ (h:=Bt (h:=?_)))));refine A3 rfl (A8 (YZ n) ?_);rintro r rfl;refine CU (h:=s_ (h:=e_ (q_ (Ct 12 (h:=AA 0 (h:=A9 1 (h:=AA 2 (h:=A9 3 (h:=AA 4 (h:=A9 5 (h:=AA 6 (h:=A9 7 (h:=B9 8 (h:=B9 9 (h:=B9 10 (h:=B9 11 (h:=z_ (h:=t_ (B3 (?_))))))))))))))))))));refine A6 ?_;rfl
theorem Pw(l:List Int)(a:Nat)(ha:a≤10000000000):GenF prog 51 l a [] 300 (fun r=>∃c:Cal,c.paths.length≤1000∧c.args.length≤1000∧r= .agg (Fe c)):=by
 refine enter Tryz.func51 rfl rfl rfl rfl rfl 1 rfl ?_;refine w_ (CU (h:=e_ (Aa (h:=BX (h:=?_)))));refine A3 rfl (B1 0 (hc:=Gl l _ _ (fun _=>true) (by omega) (by rfl) (by rfl) (by rfl)) (hR:=?_));rintro r a1 ha1 ⟨k1,rfl,p1⟩;refine B2 ?_;refine Bk (h:=Dw (h:=Ay (h:=?_)));refine A3 rfl (A8 (t6 _) ?_);rintro r rfl;obtain⟨q1,q2,q3,q4,q5,q6,q7⟩:=sX k1;generalize (C3 k1).2.1=la at q1 q2 q3 q4 q5 q6 q7 ⊢;generalize (C3 k1).2.2.1=lb at q1 q2 q3 q4 q5 q6 q7 ⊢;generalize (C3 k1).2.2.2.1=lc at q1 q2 q3 q4 q5 q6 q7 ⊢;generalize (C3 k1).2.2.2.2=ld at q1 q2 q3 q4 q5 q6 q7 ⊢;obtain⟨na,rfl⟩:=Int.eq_ofNat_of_zero_le q1;obtain⟨nb,rfl⟩:=Int.eq_ofNat_of_zero_le q3;refine Ge (h:=Ky (h:=a_ (h:=a_ (h:=a_ (h:=JK (h:=?_))))));refine BM (fun n s=>∃(j b1:Nat) (n0 y0 y1 y2 y3:Int),j≤na∧n=na - j∧b1≤a+1+j∧s=⟨look [(0, .bp 0 0),(2, .bp 1 0),(3, .bp 2 0),(4, .v (.int .i64 (na:Int))),(5, .v (.int .i64 (nb:Int))),(6, .v (.int .i64 lc)),(7, .v (.int .i64 ld)),(8, .v (.int .i64 (j:Int)))],⟨[Dr l b1,[.v (.int .i64 0), .v (.int .i64 0), .v (.int .i64 0), .v (.int .i64 0), .v (.int .i64 0), .v (.slice none 0 0), .v (.slice none 0 0)],[.v (.int .i64 n0), .v (.int .i64 y0), .v (.int .i64 y1), .v (.int .i64 y2), .v (.int .i64 y3), .v (.slice none 0 0), .v (.slice none 0 0)]],[]⟩⟩) (na) ((wk 3 0)) (⟨0,_,_,_,_,_,_,by omega,rfl,by omega,rfl⟩) ?_;rintro n s ⟨j,b1,n0,y0,y1,y2,y3,hj,rfl,hb1,rfl⟩;refine De (h:=Cv (h:=?_));refine A4 rfl (fun hb1 hc1=>?_) (fun hb1 hc1=>?_)
 ·refine By (h:=EK (h:=BX (h:=?_)));refine A3 rfl (B1 0 (hc:=Gl l _ _ (fun _=>true) (by omega) (by rfl) (by rfl) (by rfl)) (hR:=?_));rintro r a2 ha2 ⟨k2,rfl,p2⟩;refine B2 ?_;refine f_ (h:=?_);refine A3 rfl (Bg (len:=4) (sz:=1) (n:=j) (by kernel_rfl) rfl rfl rfl (sW (by omega)) ?_);refine Mc (Ep rfl rfl rfl rfl rfl rfl (SetAt.sym (by simp;omega)) (by repeat constructor) ?_);refine Bw (Ef (h:=?_));have hj2:j=0∨j=1:=by omega
  rcases hj2 with rfl|rfl
  ·refine⟨_,_,?_,⟨1,_,_,_,_,_,_,by omega,rfl,?_,rfl⟩,(wk 3 0)⟩<;>omega
  refine⟨_,_,?_,⟨2,_,_,_,_,_,_,by omega,rfl,?_,rfl⟩,(wk 3 0)⟩<;>omega
 refine CP (h:=?_);refine BC (fun s=>∃(b2:Nat) (n1 x0 x1 x2 x3:Int),b2≤a+20∧s=⟨look [(0, .bp 0 0),(2, .bp 1 0),(3, .bp 2 0),(5, .v (.int .i64 (nb:Int))),(6, .v (.int .i64 lc)),(7, .v (.int .i64 ld))],⟨[Dr l b2,[.v (.int .i64 0), .v (.int .i64 0), .v (.int .i64 0), .v (.int .i64 0), .v (.int .i64 0), .v (.slice none 0 0), .v (.slice none 0 0)],[.v (.int .i64 n1), .v (.int .i64 x0), .v (.int .i64 x1), .v (.int .i64 x2), .v (.int .i64 x3), .v (.slice none 0 0), .v (.slice none 0 0)]],[]⟩⟩) ?_ ?_
 ·skip
  refine Ay (h:=e_ (BF (Ak (h:=?_))));refine A4 rfl (fun hb2 hc2=>?_) (fun hb2 hc2=>?_)
  ·refine C2 (h:=BX (h:=?_));refine A3 rfl (B1 0 (hc:=Gl l _ _ (fun _=>true) (by omega) (by rfl) (by rfl) (by rfl)) (hR:=?_));rintro r a3 ha3 ⟨k3,rfl,p3⟩;refine B2 ?_;refine m_ (h:=BX (h:=?_));refine A3 rfl (B1 0 (hc:=Gl l _ _ (fun _=>true) (by omega) (by rfl) (by rfl) (by rfl)) (hR:=?_));rintro r a4 ha4 ⟨k4,rfl,p4⟩;refine B2 ?_;refine Bk (h:=Dh (h:=Bw (BA (AR (?_)))));refine⟨_,⟨_,_,_,_,_,_,?_,rfl⟩,(wk 3 0)⟩<;>omega
  refine Ak (h:=?_);refine A4 rfl (fun hb3 hc3=>?_) (fun hb3 hc3=>?_)
  ·refine C2 (h:=BX (h:=?_));refine A3 rfl (B1 0 (hc:=Gl l _ _ (fun _=>true) (by omega) (by rfl) (by rfl) (by rfl)) (hR:=?_));rintro r a5 ha5 ⟨k5,rfl,p5⟩;refine B2 ?_;refine f_ (h:=?_);refine A3 rfl (Bg (len:=4) (sz:=1) (n:=0) (by kernel_rfl) rfl rfl rfl rfl ?_);refine s_ (h:=Bw (BA (AR (?_))));refine⟨_,⟨_,_,_,_,_,_,?_,rfl⟩,(wk 3 0)⟩<;>omega
  refine q_ (Ak (h:=?_));refine A4 rfl (fun hb4 hc4=>?_) (fun hb4 hc4=>?_)
  ·refine AG (E3 (h:=C2 (h:=?_)));refine A3 rfl (B1 0 (hc:=Gn l _ (3) (by omega) (by omega)) (hR:=?_));rintro r a6 ha6 ⟨k6,rfl,p6,q6,o6⟩;refine B2 ?_;refine f_ (h:=?_);refine A3 rfl (Bg (len:=4) (sz:=1) (n:=0) (by kernel_rfl) rfl rfl rfl rfl ?_);refine s_ (h:=Bw (BA (AR (?_))));refine⟨_,⟨_,_,_,_,_,_,?_,rfl⟩,(wk 3 0)⟩<;>omega
  refine Aw (EU (h:=?_));refine A4 rfl (fun hb5 hc5=>?_) (fun hb5 hc5=>?_)
  ·refine C2 (h:=?_);refine A3 rfl (B1 0 (hc:=Gn l _ (3) (by omega) (by omega)) (hR:=?_));rintro r a7 ha7 ⟨k7,rfl,p7,q7,o7⟩;refine B2 ?_;refine f_ (h:=?_);refine A3 rfl (Bg (len:=4) (sz:=1) (n:=0) (by kernel_rfl) rfl rfl rfl rfl ?_);refine s_ (h:=Bw (BA (AR (?_))));refine⟨_,⟨_,_,_,_,_,_,?_,rfl⟩,(wk 3 0)⟩<;>omega
  refine Ak (h:=?_);refine A4 rfl (fun hb6 hc6=>?_) (fun hb6 hc6=>?_)
  ·refine C2 (h:=?_);refine A3 rfl (B1 0 (hc:=E7 l _ (1) (4) (by omega) (by omega) (by omega) (by omega)) (hR:=?_));rintro r a8 ha8 ⟨k8,rfl,p8,q8⟩;refine B2 ?_;refine m_ (h:=BX (h:=?_));refine A3 rfl (B1 0 (hc:=Gl l _ _ (fun _=>true) (by omega) (by rfl) (by rfl) (by rfl)) (hR:=?_));rintro r a9 ha9 ⟨k9,rfl,p9⟩;refine B2 ?_;refine Bk (h:=Dh (h:=Bw (BA (AR (?_)))));refine⟨_,⟨_,_,_,_,_,_,?_,rfl⟩,(wk 3 0)⟩<;>omega
  refine BG (BA (AR (?_)));refine⟨_,⟨_,_,_,_,_,_,?_,rfl⟩,(wk 3 0)⟩<;>omega
 rintro s ⟨b2,n1,x0,x1,x2,x3,hb2,rfl⟩;refine DT (h:=?_);refine Ls 2 5 9 1 rfl rfl (by repeat constructor) (by repeat constructor) (by repeat constructor) ?_;refine BM (fun n s=>∃(j b1:Nat) (ps:List AF),j≤nb∧n=nb - j∧b1≤b2+20 * j∧ps.length=j∧s=⟨look [(0, .bp 0 0),(2, .bp 1 0),(3, .bp 2 0),(5, .v (.int .i64 (nb:Int))),(6, .v (.int .i64 lc)),(7, .v (.int .i64 ld)),(9, .v (.int .i64 (j:Int)))],⟨[Dr l b1,[.v (.int .i64 0), .v (.int .i64 0), .v (.int .i64 0), .v (.int .i64 0), .v (.int .i64 0), .v (.slice none 0 0), .v (.slice none 0 0)],[.v (.int .i64 n1), .v (.int .i64 x0), .v (.int .i64 x1), .v (.int .i64 x2), .v (.int .i64 x3), .sl 1 (ps.map DH) (some 0), .v (.slice none 0 0)]],[(9,1,ps.map DH)]⟩⟩) (nb) ((wk 3 1)) (⟨0,b2,[],by omega,rfl,by omega,by simp,rfl⟩) ?_;rintro n s ⟨j,b1,ps,hj,rfl,hb1,hps,rfl⟩;refine De (h:=Cv (h:=?_));refine A4 rfl (fun hb7 hc7=>?_) (fun hb7 hc7=>?_)
 ·refine AG (q_ (BF (BR ([(1,[.v (.int .i64 0), .v (.int .i64 0), .v (.int .i64 0), .v (.int .i64 0), .v (.int .i64 0), .v (.slice none 0 0), .v (.slice none 0 0)]),(2,[.v (.int .i64 n1), .v (.int .i64 x0), .v (.int .i64 x1), .v (.int .i64 x2), .v (.int .i64 x3), .sl 1 (ps.map DH) (some 0), .v (.slice none 0 0)])]) 7 (h:=AA 0 (h:=A9 1 (h:=AE 2 (h:=?_)))))));refine c_ 3 rfl (B1 0 (hc:=iP l _ (by omega)) (hR:=?_));rintro r a10 ha10 ⟨k10,rfl,p10⟩;refine B2 ?_;refine o_ (h:=K4 4 (h:=?_));refine c_ 5 rfl (EF rfl rfl rfl (by simp<;>omega) (by repeat constructor) ?_);refine o_ (h:=AA 6 (h:=?_));refine B8 7 (h:=z_ (h:=BA (t_ (Aw (m_ (h:=Ec (h:=a_ (h:=Bw (AR (?_))))))))));refine⟨_,_,?_,⟨j+1,_,ps++[_],by omega,rfl,?_,?_,rfl⟩,(by rw[List.map_append];exact Ah 3 1 rfl rfl rfl rfl ((by repeat (first|exact Sub.nil|refine Ai rfl rfl ?_|refine Ap ?_|refine Aq rfl ?_|refine Ar rfl ?_))))⟩
  ·omega
  ·omega
  simp;omega
 refine CP (h:=De (h:=m_ (h:=?_)));refine A3 rfl (B1 0 (hc:=E7 l _ lc ld (by omega) (by omega) (by omega) (by omega)) (hR:=?_));rintro r a11 ha11 ⟨k0,rfl,p0,p1⟩;refine B2 ?_;obtain⟨m,rfl⟩:=Int.eq_ofNat_of_zero_le (show 0≤k0 by omega);refine BO (h:=BF (?_));refine Ls 2 6 9 1 rfl rfl (by repeat constructor) (by repeat constructor) (by repeat constructor) ?_;refine BM (fun n s=>∃(j b3:Nat) (rs:List AF),j≤m∧n=j∧b3≤b1+1+(m - j)∧rs.length=m - j∧s=⟨look [(0, .bp 0 0),(2, .bp 1 0),(3, .bp 2 0),(10, .v (.int .i64 (j:Int)))],⟨[Dr l b3,[.v (.int .i64 0), .v (.int .i64 0), .v (.int .i64 0), .v (.int .i64 0), .v (.int .i64 0), .v (.slice none 0 0), .v (.slice none 0 0)],[.v (.int .i64 n1), .v (.int .i64 x0), .v (.int .i64 x1), .v (.int .i64 x2), .v (.int .i64 x3), .sl 1 (ps.map DH) (some 0), .sl 1 (rs.map DH) (some 1)]],[(9,1,ps.map DH),(9,1,rs.map DH)]⟩⟩) (m) ((wk 3 2)) (⟨m,_,[],by omega,rfl,by omega,by simp,rfl⟩) ?_;rintro n s ⟨j,b3,rs,hj,hn,hb3,hrs,rfl⟩;subst n;refine Bf (h:=Ed (h:=e_ (?_)));refine A4 rfl (fun hb8 hc8=>?_) (fun hb8 hc8=>?_)
 ·refine AG (q_ (BF (BR ([(1,[.v (.int .i64 0), .v (.int .i64 0), .v (.int .i64 0), .v (.int .i64 0), .v (.int .i64 0), .v (.slice none 0 0), .v (.slice none 0 0)]),(2,[.v (.int .i64 n1), .v (.int .i64 x0), .v (.int .i64 x1), .v (.int .i64 x2), .v (.int .i64 x3), .sl 1 (ps.map DH) (some 0), .sl 1 (rs.map DH) (some 1)])]) 8 (h:=AA 0 (h:=A9 1 (h:=AE 2 (h:=K4 3 (h:=?_))))))));refine c_ 4 rfl (B1 0 (hc:=Mr l _ _ (fun _=>true) (by omega) (by rfl) (by rfl) (by rfl)) (hR:=?_));rintro r a12 ha12 ⟨k12,rfl,p12⟩;refine B2 ?_;refine o_ (h:=K4 5 (h:=?_));refine c_ 6 rfl (EF rfl rfl rfl (by simp<;>omega) (by repeat constructor) ?_);refine o_ (h:=AA 7 (h:=?_));refine B8 8 (h:=z_ (h:=BA (t_ (Aw (m_ (h:=JE (h:=a_ (h:=Bw (AR (?_))))))))));obtain⟨j,rfl⟩:∃i,j=i+1:=⟨j - 1,by omega⟩;refine⟨_,_,?_,⟨j,_,rs++[_],by omega,rfl,?_,?_,rfl⟩,(by rw[List.map_append];exact Ah 3 2 rfl rfl rfl rfl (by repeat (first|exact Sub.nil|refine Ai rfl rfl ?_|(apply Sub.of;(focus exact rfl);(focus exact LeA.of_eq (vi (by omega)));(focus exact rfl)))))⟩
  ·omega
  ·omega
  simp;omega
 refine CP (h:=?_);refine BC (fun S=>∃(b9:Nat) (n2 w0 w1 w2 w3:Int),b9≤a+300∧S=⟨look [(2, .bp 1 0),(3, .bp 2 0)],⟨[Dr l b9,[.v (.int .i64 0), .v (.int .i64 0), .v (.int .i64 0), .v (.int .i64 0), .v (.int .i64 0), .v (.slice none 0 0), .v (.slice none 0 0)],[.v (.int .i64 n2), .v (.int .i64 w0), .v (.int .i64 w1), .v (.int .i64 w2), .v (.int .i64 w3), .sl 1 (ps.map DH) (some 0), .sl 1 (rs.map DH) (some 1)]],[(9,1,ps.map DH),(9,1,rs.map DH)]⟩⟩) ?_ ?_
 ·skip
  refine Aa (h:=?_);refine A3 rfl (B1 0 (hc:=Gn l _ (40) (by omega) (by omega)) (hR:=?_));rintro r a13 ha13 ⟨k13,rfl,p13,q13,o13⟩;refine B2 ?_;refine Bd (h:=?_);refine A4 rfl (fun hb9 hc9=>?_) (fun hb9 hc9=>?_)
  ·refine C2 (h:=?_);refine A3 rfl (B1 0 (hc:=Gn l _ (2) (by omega) (by omega)) (hR:=?_));rintro r a14 ha14 ⟨k14,rfl,p14,q14,o14⟩;refine B2 ?_;refine m_ (h:=?_);refine A3 rfl (B1 0 (hc:=E7 l _ (-1) (33) (by omega) (by omega) (by omega) (by omega)) (hR:=?_));rintro r a15 ha15 ⟨k15,rfl,p15,q15⟩;refine B2 ?_;refine f_ (h:=?_);refine A3 rfl (Bg (len:=4) (sz:=1) (n:=3) (by kernel_rfl) rfl rfl rfl rfl ?_);refine s_ (h:=Jf (h:=?_));refine⟨_,⟨_,_,_,_,_,_,?_,rfl⟩,(wk 3 2)⟩;omega
  refine BG (AR (?_));refine⟨_,⟨_,_,_,_,_,_,?_,rfl⟩,(wk 3 2)⟩;omega
 rintro S ⟨b9,n2,w0,w1,w2,w3,hb9,rfl⟩;refine Di (h:=e_ (B3 (?_)));refine AX (r:= .agg (Fe ⟨n2,w0,w1,w2,w3,ps,rs⟩)) none (h5:=?_) (h6:=⟨_,rfl,rfl,b9,by omega,rfl,⟨n2,w0,w1,w2,w3,ps,rs⟩,(by show ps.length≤1000;omega),(by show rs.length≤1000;omega),rfl⟩);exact LeA.agg (.cons (A7 _) (.cons (A7 _) (.cons (A7 _) (.cons (A7 _) (.cons (A7 _) (.cons (LeA.tok _ _ _) (.cons (LeA.tok _ _ _) .nil)))))))
theorem S4(l:List Int)(a:Nat)(t:Tab)(ha:a≤10000000000)(ht:TabB t):GenF prog 50 l a [.agg (Ao t)] 3 (fun r=>∃p:Int,r= .v (.int .i64 p)):=by
 have hfew:=ht.few;have hpl:(t.ps.map Av).length=t.ps.length:=List.length_map _;refine enter Tryz.func50 rfl rfl rfl rfl rfl 1 rfl ?_;refine EG (h:=BO (h:=q_ (?_)));refine BC (fun S=>∃(b:Nat) (q:Bool),b≤a+1∧(q=false→0<t.ps.length)∧S=⟨look [(0, .bp 0 0),(3, .bp 1 0),(13, .v (.bool q))],⟨[Dr l b,Ao t],[]⟩⟩) ?_ ?_
 ·skip
  refine Aw (AO (h:=n_ (h:=E4 (h:=?_))));refine AJ false rfl rfl (fun hb1 hc1=>?_) (fun hb1 hc1=>?_)
  ·refine JO (h:=?_);refine⟨_,⟨_,_,?_,?_,rfl⟩,Ah 2 0 rfl rfl rfl rfl ((by repeat (first|exact Sub.nil|refine Ai rfl rfl ?_|refine Ap ?_|refine Aq rfl ?_|refine Ar rfl ?_)))⟩
   ·omega
   intro q
   (cases q;done)
  refine m_ (h:=?_);refine As (B1 0 (hc:=Gn l _ (24) (by omega) (by omega)) (hR:=?_));rintro r a1 ha1 ⟨k1,rfl,p1,q1,o1⟩;refine B2 ?_;refine Dt (h:=EJ (h:=?_));refine⟨_,⟨_,_,?_,?_,rfl⟩,Ah 2 0 rfl rfl rfl rfl ((by repeat (first|exact Sub.nil|refine Ai rfl rfl ?_|refine Ap ?_|refine Aq rfl ?_|refine Ar rfl ?_)))⟩
  ·omega
  intro q
  first|(cases q;done)|omega
 rintro S ⟨b,q,hb,hq,rfl⟩;refine A4 rfl (fun hb2 hc2=>?_) (fun hb2 hc2=>?_)
 ·refine Aa (h:=?_);refine A3 rfl (B1 0 (hc:=E7 l _ (0) (9) (by omega) (by omega) (by omega) (by omega)) (hR:=?_));rintro r a2 ha2 ⟨k2,rfl,p2,q2⟩;refine B2 ?_;refine Dd (h:=?_);refine AX none (h5:=(A7 _)) (h6:=⟨_,rfl,rfl,_,?_,rfl,_,rfl⟩)<;>omega
 have hq0:0<t.ps.length:=hq (by assumption);refine AG (q_ (BR ([(1,Ao t)]) 11 (h:=AA 0 (h:=A9 1 (h:=AE 2 (h:=AA 3 (h:=A9 4 (h:=Lu 5 (h:=?_)))))))));refine c_ 6 rfl (B1 0 (hc:=Gn l _ ((t.ps.map Av).length:Int) (by omega) (by rw[hpl];omega)) (hR:=?_));rintro r a3 ha3 ⟨kn,rfl,p0,q0, -⟩;refine B2 ?_;obtain⟨m,rfl⟩:=Int.eq_ofNat_of_zero_le p0;have hm:m<t.ps.length:=by have:=q0 (by rw[hpl];omega);rw[hpl]at this;omega
 obtain⟨x,hx⟩:∃x,t.ps[m]?=some x:=⟨_,B6 hm⟩;have hrow:(t.ps.map Av)[m]?=some (Av x):=by rw[List.getElem?_map,hx];rfl
 refine o_ (h:=?_);refine C5 7 rfl (fun _ hS=>DE (n:=m) rfl rfl rfl hrow ⟨rfl,rfl⟩) ?_;refine AA 8 (h:=A9 9 (h:=B9 10 (h:=z_ (h:=t_ (B3 (?_))))));refine AX none (h5:=(A7 _)) (h6:=⟨_,rfl,rfl,_,?_,rfl,_,rfl⟩)<;>omega
theorem t7(l:List Int)(a:Nat)(ha:a≤10000000):GenF prog 14 l a [] 6000 (fun r=>∃s,r= .agg (CW s)∧SysV s 14):=by
 refine enter Tryz.func14 rfl rfl rfl rfl rfl 1 rfl ?_;refine w_ (CU (h:=e_ (Aa (h:=?_))));refine A3 rfl (B1 0 (hc:=E7 l _ (1) (3) (by omega) (by omega) (by omega) (by omega)) (hR:=?_));rintro r a1 ha1 ⟨k1,rfl,p1,q1⟩;refine B2 ?_;refine A3 rfl (A8 (Ys k1) ?_);rintro r rfl;refine JJ (h:=?_);refine A3 rfl (B1 0 (hc:=E7 l _ (3) (14) (by omega) (by omega) (by omega) (by omega)) (hR:=?_));rintro r a2 ha2 ⟨k2,rfl,p2,q2⟩;refine B2 ?_;refine BO (h:=BF (?_));have hs0:=sV p1 q1;obtain⟨M,rfl⟩:=Int.eq_ofNat_of_zero_le (show 0≤k2 by omega);refine BM (fun n S=>∃(j b:Nat) (s:Syst),j≤M∧n=j∧b+400 * j≤a+2+400 * M∧SysV s (14 - j)∧S=⟨look [(0, .bp 0 0),(2, .bp 1 0),(3, .bp 2 0),(5, .v (.int .i64 (j:Int)))],⟨[Dr l b,KL,CW s],[]⟩⟩) (M) ((wk 3 0)) (⟨M,_,_,B7 _,rfl,by omega,hs0.mono (BE _),rfl⟩) ?_;rintro n S ⟨j,b,s,hj,rfl,hb,hs,rfl⟩;refine Bf (h:=Ed (h:=e_ (?_)));refine A4 rfl (fun hb1 hc1=>?_) (fun hb1 hc1=>?_)
 ·refine AG (q_ (BF (BR ([(1,KL)]) 12 (h:=AE 1 (h:=AA 2 (h:=AE 5 (h:=?_)))))));refine Ft 0 3 rfl rfl ?_ ?_
  ·refine KV rfl rfl rfl ?_;refine o_ (h:=?_);refine c_ 3 rfl (MT rfl rfl rfl ?_);refine o_ (h:=?_);refine c_ 4 rfl (B1 0 (hc:=S4 l _ s.tab (by omega) hs.tab) (hR:=?_));rintro r a3 ha3 ⟨pid,rfl⟩;refine B2 ?_;refine o_ (h:=?_);refine c_ 6 rfl (B1 0 (hc:=Pw l _ (by omega)) (hR:=?_));rintro r a4 ha4 ⟨c,hcp,hca,rfl⟩;refine B2 ?_;refine o_ (h:=?_);refine c_ 7 rfl (A8 (Pt s pid c hs.spc (by have:=hs.few;omega) hs.tab hs.num hcp hca) ?_);rintro r rfl;refine o_ (h:=AE 8 (h:=BH 9 (h:=BH 10 (h:=?_))));refine B8 11 (h:=z_ (h:=BA (t_ (Aw (m_ (h:=?_))))));refine A3 rfl (MV rfl rfl (by omega) ?_);refine Cw (h:=?_);refine⟨n - 1,_,by omega,⟨n - 1,_,(D5 s pid c).1,by omega,rfl,?_,(S3 hs pid c).mono (by omega),rfl⟩,(by rw[show((n - 1:Nat):Int)=(n:Int) - 1 by omega];exact Ah 3 0 rfl rfl rfl rfl ((by repeat (first|exact Sub.nil|refine Ai rfl rfl ?_|refine Ap ?_|refine Aq rfl ?_|refine Ar rfl ?_))))⟩;omega
  refine MT rfl rfl rfl ?_;refine o_ (h:=?_);refine Ft 0 4 rfl rfl ?_ ?_
  ·refine KV rfl rfl rfl ?_;refine o_ (h:=?_);refine c_ 4 rfl (B1 0 (hc:=S4 l _ s.tab (by omega) hs.tab) (hR:=?_));rintro r a5 ha5 ⟨pid,rfl⟩;refine B2 ?_;refine o_ (h:=?_);refine c_ 6 rfl (B1 0 (hc:=Pw l _ (by omega)) (hR:=?_));rintro r a6 ha6 ⟨c,hcp,hca,rfl⟩;refine B2 ?_;refine o_ (h:=?_);refine c_ 7 rfl (A8 (Pt s pid c hs.spc (by have:=hs.few;omega) hs.tab hs.num hcp hca) ?_);rintro r rfl;refine o_ (h:=AE 8 (h:=BH 9 (h:=BH 10 (h:=?_))));refine B8 11 (h:=z_ (h:=BA (t_ (Aw (m_ (h:=?_))))));refine A3 rfl (MV rfl rfl (by omega) ?_);refine Cw (h:=?_);refine⟨n - 1,_,by omega,⟨n - 1,_,(D5 s pid c).1,by omega,rfl,?_,(S3 hs pid c).mono (by omega),rfl⟩,(by rw[show((n - 1:Nat):Int)=(n:Int) - 1 by omega];exact Ah 3 0 rfl rfl rfl rfl ((by repeat (first|exact Sub.nil|refine Ai rfl rfl ?_|refine Ap ?_|refine Aq rfl ?_|refine Ar rfl ?_))))⟩;omega
  refine B1 0 (hc:=S4 l _ s.tab (by omega) hs.tab) (hR:=?_);rintro r a7 ha7 ⟨pid,rfl⟩;refine B2 ?_;refine o_ (h:=?_);refine Ft 0 6 rfl rfl ?_ ?_
  ·refine KV rfl rfl rfl ?_;refine o_ (h:=?_);refine c_ 6 rfl (B1 0 (hc:=Pw l _ (by omega)) (hR:=?_));rintro r a8 ha8 ⟨c,hcp,hca,rfl⟩;refine B2 ?_;refine o_ (h:=?_);refine c_ 7 rfl (A8 (Pt s pid c hs.spc (by have:=hs.few;omega) hs.tab hs.num hcp hca) ?_);rintro r rfl;refine o_ (h:=AE 8 (h:=BH 9 (h:=BH 10 (h:=?_))));refine B8 11 (h:=z_ (h:=BA (t_ (Aw (m_ (h:=?_))))));refine A3 rfl (MV rfl rfl (by omega) ?_);refine Cw (h:=?_);refine⟨n - 1,_,by omega,⟨n - 1,_,(D5 s pid c).1,by omega,rfl,?_,(S3 hs pid c).mono (by omega),rfl⟩,(by rw[show((n - 1:Nat):Int)=(n:Int) - 1 by omega];exact Ah 3 0 rfl rfl rfl rfl ((by repeat (first|exact Sub.nil|refine Ai rfl rfl ?_|refine Ap ?_|refine Aq rfl ?_|refine Ar rfl ?_))))⟩;omega
  refine B1 0 (hc:=Pw l _ (by omega)) (hR:=?_);rintro r a9 ha9 ⟨c,hcp,hca,rfl⟩;refine B2 ?_;refine o_ (h:=?_);refine c_ 0 rfl (KV rfl rfl rfl ?_);refine o_ (h:=?_);refine c_ 7 rfl (A8 (Pt s pid c hs.spc (by have:=hs.few;omega) hs.tab hs.num hcp hca) ?_);rintro r rfl;refine o_ (h:=AE 8 (h:=BH 9 (h:=BH 10 (h:=?_))));refine B8 11 (h:=z_ (h:=BA (t_ (Aw (m_ (h:=?_))))));refine A3 rfl (MV rfl rfl (by omega) ?_);refine Cw (h:=?_);refine⟨n - 1,_,by omega,⟨n - 1,_,(D5 s pid c).1,by omega,rfl,?_,(S3 hs pid c).mono (by omega),rfl⟩,(by rw[show((n - 1:Nat):Int)=(n:Int) - 1 by omega];exact Ah 3 0 rfl rfl rfl rfl ((by repeat (first|exact Sub.nil|refine Ai rfl rfl ?_|refine Ap ?_|refine Aq rfl ?_|refine Ar rfl ?_))))⟩;omega
 refine CP (h:=Di (h:=e_ (B3 (?_))));refine AX none (h5:=(A7 _)) (h6:=⟨_,rfl,rfl,b,by omega,rfl,s,rfl,hs.mono (by omega)⟩)
theorem t8(l:List Int)(a:Nat)(s:Syst)(ha:a≤100000000)(hs:SysV s 900):GenF prog 13 l a [.agg (CW s)] 400 (fun r=>∃(pid:Int) (c:Cal) (p:Prc),c.paths.length≤1000∧c.args.length≤1000∧r= .tup [.agg (Pv p c (D5 s pid c).2), .agg (CW (D5 s pid c).1), .agg (Kr (D5 s pid c).2)]):=by
 have hfew:=hs.tab.few;refine enter Tryz.func13 rfl rfl rfl rfl rfl 1 rfl ?_;refine E5 (h:=CU (h:=CU (h:=e_ (Aa (h:=AO (h:=?_))))));refine A3 rfl (B1 0 (hc:=S4 l _ s.tab (by omega) hs.tab) (hR:=?_));rintro r a1 ha1 ⟨pid,rfl⟩;refine B2 ?_;refine m_ (h:=?_);refine A3 rfl (B1 0 (hc:=Pw l _ (by omega)) (hR:=?_));rintro r a2 ha2 ⟨c,hcp,hca,rfl⟩;refine B2 ?_;refine CU (h:=a_ (h:=Ei (h:=L0 (h:=l_ (h:=?_)))));refine A3 rfl (A8 (Pt s pid c hs.spc (by have:=hs.few;omega) hs.tab hs.num hcp hca) ?_);rintro r rfl;refine Ge (h:=CU (h:=Mf (h:=Ei (h:=C4 (h:=Eg (h:=?_))))));refine A3 rfl (H5 (y:= .agg (Pv UG c (D5 s pid c).2)) (Du ⟨rfl,rfl⟩) ?_);refine Dw (h:=DT (h:=?_));obtain⟨b1,hb1⟩:∃b,b=a2:=⟨_,rfl⟩;subst hb1;refine BM (fun n S=>∃(j:Nat) (p:Prc),j≤s.tab.ps.length∧n=s.tab.ps.length - j∧S=⟨look [(0, .bp 0 0),(3, .bp 1 0),(4, .bp 2 0),(5, .bp 3 0),(6, .bp 4 0),(7, .v (.int .i64 pid)),(9, .bp 6 0),(10, .bp 7 0),(11, .bp 8 0),(12, .v (.int .i64 (j:Int)))],⟨[Dr l b1,CW s,sY,KL,LH,Fe c,CW (D5 s pid c).1,Kr (D5 s pid c).2,Pv p c (D5 s pid c).2],[]⟩⟩) (s.tab.ps.length) ((wk 9 0)) (⟨0,UG,BE _,rfl,rfl⟩) ?_;rintro n S ⟨j,p,hj,rfl,rfl⟩;refine Bf (h:=Hn (h:=Fi (h:=?_)));refine A4 rfl (fun hb1 hc1=>?_) (fun hb1 hc1=>?_)
 ·obtain⟨hlt,x,hy,hrow, -⟩:=Br Av hc1;refine By (h:=FZ (h:=GG (h:=AO (h:=CE (h:=e_ (?_))))));refine A4 rfl (fun hb2 hc2=>?_) (fun hb2 hc2=>?_)
  ·refine Aw (Hn (h:=GG (h:=l_ (h:=Dh (h:=Bw (Ef (h:=?_)))))));exact⟨s.tab.ps.length - (j+1),_,by omega,⟨j+1,x,by omega,rfl,rfl⟩,Ah 9 0 rfl rfl rfl rfl ((by repeat (first|exact Sub.nil|refine Ai rfl rfl ?_|refine Ap ?_|refine Aq rfl ?_|refine Ar rfl ?_)))⟩
  refine Cm (h:=?_)
  first|exact⟨s.tab.ps.length - (j+1),_,by omega,⟨j+1,x,by omega,rfl,rfl⟩,Ah 9 0 rfl rfl rfl rfl ((by repeat (first|exact Sub.nil|refine Ai rfl rfl ?_|refine Ap ?_|refine Aq rfl ?_|refine Ar rfl ?_)))⟩|exact⟨s.tab.ps.length - (j+1),_,by omega,⟨j+1,p,by omega,rfl,rfl⟩,Ah 9 0 rfl rfl rfl rfl ((by repeat (first|exact Sub.nil|refine Ai rfl rfl ?_|refine Ap ?_|refine Aq rfl ?_|refine Ar rfl ?_)))⟩
 refine MR (Jz (Jz (LJ (t_ (q_ (BR ([(0,Dr l b1),(1,CW s),(5,Fe c),(6,CW (D5 s pid c).1),(7,Kr (D5 s pid c).2),(8,Pv p c (D5 s pid c).2)]) 6 (h:=A9 0 (h:=A9 1 (h:=A9 2 (h:=?_))))))))));refine B8 3 (h:=?_);refine B8 4 (h:=?_);refine B8 5 (h:=z_ (h:=t_ (B3 (?_))));refine AX none (h5:=(A7 _)) (h6:=⟨_,rfl,rfl,_,?_,rfl,pid,c,p,hcp,hca,rfl⟩);omega
end
def Oh(v:Vdt):List Value:=[.bool v.sel, .int .i64 v.rule, .string v.key]
set_option maxRecDepth 10000 in
set_option maxHeartbeats 1000000 in
theorem t9(op:BinOp)(x:Vdt)(w:World)(h:op= .eql∨op= .neq):(binOp op 67 (.agg (Oh x).toArray) (.agg (Oh x).toArray)).run prog w= .ok (.bool (decide (op= .eql))) w:=by
 have u3:=Tryz.underlying3;have a3:=Tryz.isAgg3;have z3:=Tryz.sizeOf3;have u4:=Tryz.underlying4;have a4:=Tryz.isAgg4;have z4:=Tryz.sizeOf4;have u9:=Tryz.underlying9;have a9:=Tryz.isAgg9;have z9:=Tryz.sizeOf9;have hS:prog.underlying 67=some (.struct (prog.fieldsOf 67)):=by kernel_rfl
 have hp:prog.stoodInHeld 67=false:=by kernel_rfl
 have e:∀w,(Op.equalIn 10000 67 (.agg (Oh x).toArray) (.agg (Oh x).toArray)).run prog w= .ok true w:=by
  intro w;rw[show(10000:Nat)=9999+1 from rfl,run_equalIn_agg w 9999 67 _ _ hS hp];simp only[Program.fieldsOf,Tryz.underlying67,Oh]
  go_simp
 rcases h with rfl|rfl
 ·rw[run_eql_struct,e];rfl
 rw[run_neq_struct,e];rfl
theorem aC(x:Vdt):AllV (Gw x) (Oh x):=by repeat constructor
theorem S5{ev:Operand→Option AV}{h:AH}{R:AV→AH→Prop}{d:Option Tmp}{ty:TypeId}{pos:String}{af:Array Edge}{gd:Option (Nat×Bool)}{yT:TypeId}{x y:Operand}(z:Vdt)(hx:ev x=some (.agg (Gw z)))(hy:ev y=some (.agg (Gw z)))(hR:R (.v (.bool false)) h):AStep prog ⟨d, .binOp .neq 67 x y yT,ty,pos,af,gd⟩ ev h R:=
 GF hx hy (aC z) (aC z) (fun w=>t9 .neq z w (.inr rfl)) (by kernel_rfl) hR
theorem tA(p:Prc)(c:Cal)(r:Res):∃(c':Ctx) (k':Cxs),Pv p c r=C7 c' k'∧c'.items.length=r.items.length:=
 ⟨⟨2,p.pid,p.ppid,p.uid,p.euid,p.gid,p.egid,p.auid,p.ses,p.cwd,p.comm,p.exe,p.audited,c.num,c.a0,c.a1,c.a2,c.a3,r.exit,r.items,0⟩,⟨p.opens.map Gu,c.paths.map DH,c.args.map DH⟩,rfl,rfl⟩
theorem tB(l:List Int)(a:Nat)(s:Syst)(ha:a≤100000000)(hs:SysV s 900):GenF prog 13 l a [.agg (CW s)] 400 (fun r=>∃(c:Ctx) (k:Cxs) (s1:Syst) (r1:Res),c.items.length≤1000∧r= .tup [.agg (C7 c k), .agg (CW s1), .agg (Kr r1)]):=
 (t8 l a s ha hs).mono (B7 _) fun r ⟨pid,c,p,hp,_,e⟩=>by
   obtain⟨c',k',e1,e2⟩:=tA p c (D5 s pid c).2;exact⟨c',k',_,_,by rw[e2];exact Nat.le_trans (sZ s pid c) hp,by rw[e,e1]⟩
def cT(c:Ctx):Ctx:={c with audited:=true}
end Go.Proofs.YtbgnigjfkbmceaaGreatDoor
