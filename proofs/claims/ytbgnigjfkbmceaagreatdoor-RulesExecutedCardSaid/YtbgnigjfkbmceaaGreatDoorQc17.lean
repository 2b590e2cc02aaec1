/-
  Part 17 of the proof of RulesExecutedP: what the statement's proof uses of the texts in wip/tpl.
-/
import Derived.Test.YtbgnigjfkbmceaaGreatDoorQc16
open Go.Proofs.Tryz (prog)
set_option maxRecDepth 10000
set_option maxHeartbeats 4000000
set_option linter.unusedVariables false
set_option linter.unusedSimpArgs false
namespace Go.Proofs.YtbgnigjfkbmceaaGreatDoor
open Go.RowKit
theorem eL(w:Wrk):(EO w).1.r.items.length=w.r.items.length:=by
 unfold EO
 repeat' split
 all_goals first|rfl|exact(Qp _ _ _).trans (LD _ _)
theorem eM(w:Wrk)(R:Dm):(GK w R).1.r.items.length=w.r.items.length:=by
 unfold GK;split
 ·rfl
 exact(VG _ _ _).trans (LD _ _)
theorem eN(w:Wrk):(Dh w).1.r.items.length=w.r.items.length:=by
 unfold Dh
 repeat' split
 all_goals first|rfl|exact eM _ _
theorem eO(w:Wrk):(Ed w).1.r.items.length=w.r.items.length:=by
 unfold Ed Hr
 repeat' split
 all_goals first|rfl|exact LD _ _
theorem eQ(w:Wrk)(R:Spc×Int):(Hs w R).1.r.items.length=w.r.items.length:=by
 unfold Hs;split<;>rfl
theorem eR(w:Wrk):(D5 w).1.r.items.length=w.r.items.length:=by
 unfold D5
 repeat' split
 all_goals first|rfl|exact OH _ _|exact eQ _ _
theorem eS(w:Wrk):(Ee w).1.r.items.length=w.r.items.length:=by
 unfold Ee
 repeat' split
 all_goals first|rfl|exact Qq _ _ _
theorem eT(w:Wrk)(R:Spc×Int):(Ht w R).1.r.items.length=w.r.items.length:=by
 unfold Ht;split<;>rfl
theorem eU(w:Wrk):(FE w).1.r.items.length=w.r.items.length:=by
 unfold FE
 repeat' split
 all_goals first|rfl|exact eT _ _
theorem eV(w:Wrk):(Dt w).1.r.items.length=w.r.items.length:=by
 unfold Dt
 repeat' split
 all_goals first|rfl|exact eU _|exact OH _ _|exact OH (L9 w _) _
theorem Qw(w:Wrk):(BY w).1.r.items.length=w.r.items.length:=by
 unfold BY
 repeat' split
 all_goals first|exact cG _|exact eL _|exact eN _|exact cJ _|exact eO _|exact eR _|exact eS _|exact eV _
theorem Va{n:Int}(h:0<(By n).2.2.1):(n=1∨n=6∨n=8∨n=9∨n=10∨n=11∨n=12∨n=13∨n=14∨n=15∨n=16∨n=17∨n=21)∧((n=8∨n=13)→(By n).2.2.1=2)∧(¬(n=8∨n=13)→(By n).2.2.1=1):=by
 unfold By at h ⊢;split at h
 ·exact absurd h (by decide)
 rename_i c;rw[if_neg c];obtain⟨m,rfl⟩:=Int.eq_ofNat_of_zero_le (show 0≤n by omega);have hm:m<22:=by omega
 have k1:∀m,m<22→0<((ED[m]?).getD (⟨#[]⟩,0,0,0,0)).2.2.1→m∈[1,6,8,9,10,11,12,13,14,15,16,17,21]:=by decide
 have k2:∀m,m<22→m∈[8,13]→((ED[m]?).getD (⟨#[]⟩,0,0,0,0)).2.2.1=2:=by decide
 have k3:∀m,m<22→0<((ED[m]?).getD (⟨#[]⟩,0,0,0,0)).2.2.1→m∉[8,13]→((ED[m]?).getD (⟨#[]⟩,0,0,0,0)).2.2.1=1:=by decide
 have k1:=k1 m hm h;have k2:=k2 m hm;have k3:=k3 m hm h;simp only[List.mem_cons,List.not_mem_nil,or_false]at k1 k2 k3;exact⟨by omega,fun q=>k2 (by omega),fun q=>k3 (by omega)⟩
theorem Vb{n:Int}(h:(By n).2.2.1=0):n≠1∧n≠6∧n≠8∧n≠9∧n≠10∧n≠11∧n≠12∧n≠13∧n≠14∧n≠15∧n≠16∧n≠17∧n≠21:=by
 refine⟨?_,?_,?_,?_,?_,?_,?_,?_,?_,?_,?_,?_,?_⟩<;>(rintro rfl;revert h;decide)
theorem eW(n:Int):0<(By n).2.2.1∨(By n).2.2.1=0:=by
 unfold By;split
 ·exact .inr rfl
 rename_i c;obtain⟨m,rfl⟩:=Int.eq_ofNat_of_zero_le (show 0≤n by omega);have hm:m<22:=by omega
 have key:∀m,m<22→0<((ED[m]?).getD (⟨#[]⟩,0,0,0,0)).2.2.1∨((ED[m]?).getD (⟨#[]⟩,0,0,0,0)).2.2.1=0:=by decide
 exact key m hm
theorem eX{c:Cal}(h:0<(By c.num).2.2.1):((Ce c).length:Int)=(By c.num).2.2.1:=by
 obtain⟨k1,k2,k3⟩:=Va h;by_cases c2:c.num=8∨c.num=13
 ·rw[k2 c2];rcases c2 with q|q<;>simp[Ce,q]
 rw[k3 c2];rcases k1 with q|q|q|q|q|q|q|q|q|q|q|q|q<;>first|(exfalso;omega)|simp[Ce,q]
theorem eY{c0 c1 c2 c3 c4 c5:List AV}(w:Wrk):Back [c0,c1,c2,c3,c4,c5] [5] [WN w] [c0,c1,c2,c3,c4,WN w]:=by
 have:=MQ (bx:=[c0,c1,c2,c3,c4,c5]) (is:=[5]) (bc:=[WN w]) (by simp) (by simp) (by simp)
 have hb:D7 [c0,c1,c2,c3,c4,c5] (Db [5] [c0,c1,c2,c3,c4,c5].length) [5] [WN w]=[c0,c1,c2,c3,c4,WN w]:=by
  unfold D7;unfold D7;rfl
 rw[hb]at this;exact this
section
theorem eZ(w:Wrk)(cap:Nat)(hv:SpcV w.s.spc)(hm:w.s.spc.mounts.length≤1000)(htb:TabB w.s.tab)(hnm:∀f∈w.found,f.name.size≤12)(h1:1≤w.found.length)(h1i:1≤w.r.items.length)(h2:w.c.num=8∨w.c.num=13→2≤w.found.length∧2≤w.r.items.length)(hin:w.c.num=1∨w.c.num=6∨w.c.num=8∨w.c.num=9∨w.c.num=10∨w.c.num=11∨w.c.num=12∨w.c.num=13∨w.c.num=14∨w.c.num=15∨w.c.num=16∨w.c.num=17∨w.c.num=21)(h9:w.c.num=9→0<w.c.args.length)(hsz:∀p∈w.c.args,p.size≤1000):ACall prog 98 [.bp 0 0] [WA w cap,IB w cap] (fun r b t=>t=[]∧r= .v (.int .i64 (BY w).2)∧b=[WA (BY w).1 cap,IB (BY w).1 cap]):=by
 have hps:w.s.tab.ps.length≤1000:=by have:=htb.few;omega
 refine enter Tryz.func98 rfl rfl rfl rfl rfl 2 rfl ?_;refine w_ (a_ (h:=e_ (q_ (w_ (m_ (h:=k_ (h:=f_ (h:=f_ (h:=l_ (h:=e_ (Ag (w_ (AD (h:=a_ (h:=e_ (?_))))))))))))))));refine A8 rfl (fun hb1=>?_) (fun hb1=>?_)
 ·have hc1:=bp hb1;obtain⟨f,hf⟩:∃f,w.found[0]?=some f:=⟨_,BJ (by omega)⟩;obtain⟨x,hx⟩:∃x,w.r.items[0]?=some x:=⟨_,BJ (by omega)⟩;have hact:BY w=CF w:=by simp[BY,hc1]
  refine w_ (m_ (h:=?_));refine A7 rfl (Bk [0,1] rfl (.cons _ _ _ _ _ rfl (AA _) .nil) (by decide) (.cons _ _ _ _ _ rfl rfl (.cons _ _ _ _ _ rfl (Cy BA _ _ _) .nil)) (c8 w cap f x hv hm htb hf hx (by have:=hnm f (Aw hf);omega)) ?_);rintro r bc tc ⟨rfl,rfl,rfl⟩;refine⟨rfl,_,DD rfl ((CF w).1) cap,?_⟩;refine a_ (h:=e_ (A4 (AK (A6 (?_)))));refine BZ (r:= .v (.int .i64 (BY w).2)) none (h5:=(by rw[hact];exact AA _)) (h6:=⟨rfl,rfl,?_⟩);rw[hact];rfl
 have hc1:=bp hb1;refine w_ (AD (h:=a_ (h:=e_ (?_))));refine A8 rfl (fun hb2=>?_) (fun hb2=>?_)
 ·have hc2:=bp hb2;obtain⟨f,hf⟩:∃f,w.found[0]?=some f:=⟨_,BJ (by omega)⟩;obtain⟨x,hx⟩:∃x,w.r.items[0]?=some x:=⟨_,BJ (by omega)⟩;obtain⟨g,hg⟩:∃f,w.found[1]?=some f:=⟨_,BJ (h2 (by omega)).1⟩;obtain⟨x1,hx1⟩:∃x,w.r.items[1]?=some x:=⟨_,BJ (h2 (by omega)).2⟩;have hact:BY w=EO w:=by simp[BY,hc2]
  refine w_ (m_ (h:=?_));refine A7 rfl (Bk [0,1] rfl (.cons _ _ _ _ _ rfl (AA _) .nil) (by decide) (.cons _ _ _ _ _ rfl rfl (.cons _ _ _ _ _ rfl (Cy BA _ _ _) .nil)) (dU w cap f g x1 hv hm hf hg hx1 (by have:=hnm g (Aw hg);omega)) ?_);rintro r bc tc ⟨rfl,rfl,rfl⟩;refine⟨rfl,_,DD rfl ((EO w).1) cap,?_⟩;refine a_ (h:=e_ (A4 (AK (A6 (?_)))));refine BZ (r:= .v (.int .i64 (BY w).2)) none (h5:=(by rw[hact];exact AA _)) (h6:=⟨rfl,rfl,?_⟩);rw[hact];rfl
 have hc2:=bp hb2;refine q_ (w_ (AD (h:=a_ (h:=e_ (?_)))));refine A8 rfl (fun hb3=>?_) (fun hb3=>?_)
 ·have hc3:=bp hb3;obtain⟨f,hf⟩:∃f,w.found[0]?=some f:=⟨_,BJ (by omega)⟩;obtain⟨x,hx⟩:∃x,w.r.items[0]?=some x:=⟨_,BJ (by omega)⟩;have hact:BY w=Dh w:=by simp[BY,hc3]
  refine AB (B8 (h:=w_ (m_ (h:=?_))));refine A7 rfl (Bk [0,1] rfl (.cons _ _ _ _ _ rfl (AA _) .nil) (by decide) (.cons _ _ _ _ _ rfl rfl (.cons _ _ _ _ _ rfl (Cy BA _ _ _) .nil)) (VV w cap f x hv hm hps hf hx (by have:=hnm f (Aw hf);omega)) ?_);rintro r bc tc ⟨rfl,rfl,rfl⟩;refine⟨rfl,_,DD rfl ((Dh w).1) cap,?_⟩;refine a_ (h:=e_ (A4 (AK (A6 (?_)))));refine BZ (r:= .v (.int .i64 (BY w).2)) none (h5:=(by rw[hact];exact AA _)) (h6:=⟨rfl,rfl,?_⟩);rw[hact];rfl
 have hc3:=bp hb3;refine AR (AD (h:=a_ (h:=e_ (?_))));refine A8 rfl (fun hb4=>?_) (fun hb4=>?_)
 ·have hc4:=bp hb4;obtain⟨f,hf⟩:∃f,w.found[0]?=some f:=⟨_,BJ (by omega)⟩;obtain⟨x,hx⟩:∃x,w.r.items[0]?=some x:=⟨_,BJ (by omega)⟩;have hact:BY w=Dh w:=by simp[BY,hc4]
  refine w_ (m_ (h:=?_));refine A7 rfl (Bk [0,1] rfl (.cons _ _ _ _ _ rfl (AA _) .nil) (by decide) (.cons _ _ _ _ _ rfl rfl (.cons _ _ _ _ _ rfl (Cy BA _ _ _) .nil)) (VV w cap f x hv hm hps hf hx (by have:=hnm f (Aw hf);omega)) ?_);rintro r bc tc ⟨rfl,rfl,rfl⟩;refine⟨rfl,_,DD rfl ((Dh w).1) cap,?_⟩;refine a_ (h:=e_ (A4 (AK (A6 (?_)))));refine BZ (r:= .v (.int .i64 (BY w).2)) none (h5:=(by rw[hact];exact AA _)) (h6:=⟨rfl,rfl,?_⟩);rw[hact];rfl
 have hc4:=bp hb4;refine w_ (AD (h:=a_ (h:=e_ (?_))));refine A8 rfl (fun hb5=>?_) (fun hb5=>?_)
 ·have hc5:=bp hb5;obtain⟨f,hf⟩:∃f,w.found[0]?=some f:=⟨_,BJ (by omega)⟩;obtain⟨x,hx⟩:∃x,w.r.items[0]?=some x:=⟨_,BJ (by omega)⟩;obtain⟨g,hg⟩:∃f,w.found[1]?=some f:=⟨_,BJ (h2 (by omega)).1⟩;obtain⟨x1,hx1⟩:∃x,w.r.items[1]?=some x:=⟨_,BJ (h2 (by omega)).2⟩;have hact:BY w=EP w:=by simp[BY,hc5]
  refine w_ (m_ (h:=?_));refine A7 rfl (Bk [0,1] rfl (.cons _ _ _ _ _ rfl (AA _) .nil) (by decide) (.cons _ _ _ _ _ rfl rfl (.cons _ _ _ _ _ rfl (Cy BA _ _ _) .nil)) (c9 w cap f g x x1 hv hm hps hf hg hx hx1 (by have:=hnm f (Aw hf);omega) (by have:=hnm g (Aw hg);omega)) ?_);rintro r bc tc ⟨rfl,rfl,rfl⟩;refine⟨rfl,_,DD rfl ((EP w).1) cap,?_⟩;refine a_ (h:=e_ (A4 (AK (A6 (?_)))));refine BZ (r:= .v (.int .i64 (BY w).2)) none (h5:=(by rw[hact];exact AA _)) (h6:=⟨rfl,rfl,?_⟩);rw[hact];rfl
 have hc5:=bp hb5;refine q_ (w_ (AD (h:=a_ (h:=e_ (?_)))));refine A8 rfl (fun hb6=>?_) (fun hb6=>?_)
 ·have hc6:=bp hb6;obtain⟨f,hf⟩:∃f,w.found[0]?=some f:=⟨_,BJ (by omega)⟩;obtain⟨x,hx⟩:∃x,w.r.items[0]?=some x:=⟨_,BJ (by omega)⟩;have hact:BY w=Ed w:=by simp[BY,hc6]
  refine AB (B8 (h:=w_ (m_ (h:=?_))));refine A7 rfl (Bk [0,1] rfl (.cons _ _ _ _ _ rfl (AA _) .nil) (by decide) (.cons _ _ _ _ _ rfl rfl (.cons _ _ _ _ _ rfl (Cy BA _ _ _) .nil)) (VW w cap f hv hm hf) ?_);rintro r bc tc ⟨rfl,rfl,rfl⟩;refine⟨rfl,_,DD rfl ((Ed w).1) cap,?_⟩;refine a_ (h:=e_ (A4 (AK (A6 (?_)))));refine BZ (r:= .v (.int .i64 (BY w).2)) none (h5:=(by rw[hact];exact AA _)) (h6:=⟨rfl,rfl,?_⟩);rw[hact];rfl
 have hc6:=bp hb6;refine AR (AD (h:=a_ (h:=e_ (?_))));refine A8 rfl (fun hb7=>?_) (fun hb7=>?_)
 ·have hc7:=bp hb7;obtain⟨f,hf⟩:∃f,w.found[0]?=some f:=⟨_,BJ (by omega)⟩;obtain⟨x,hx⟩:∃x,w.r.items[0]?=some x:=⟨_,BJ (by omega)⟩;have hact:BY w=Ed w:=by simp[BY,hc7]
  refine w_ (m_ (h:=?_));refine A7 rfl (Bk [0,1] rfl (.cons _ _ _ _ _ rfl (AA _) .nil) (by decide) (.cons _ _ _ _ _ rfl rfl (.cons _ _ _ _ _ rfl (Cy BA _ _ _) .nil)) (VW w cap f hv hm hf) ?_);rintro r bc tc ⟨rfl,rfl,rfl⟩;refine⟨rfl,_,DD rfl ((Ed w).1) cap,?_⟩;refine a_ (h:=e_ (A4 (AK (A6 (?_)))));refine BZ (r:= .v (.int .i64 (BY w).2)) none (h5:=(by rw[hact];exact AA _)) (h6:=⟨rfl,rfl,?_⟩);rw[hact];rfl
 have hc7:=bp hb7;refine q_ (w_ (AD (h:=a_ (h:=e_ (?_)))));refine A8 rfl (fun hb8=>?_) (fun hb8=>?_)
 ·have hc8:=bp hb8;obtain⟨f,hf⟩:∃f,w.found[0]?=some f:=⟨_,BJ (by omega)⟩;obtain⟨x,hx⟩:∃x,w.r.items[0]?=some x:=⟨_,BJ (by omega)⟩;have hact:BY w=D5 w:=by simp[BY,hc8]
  refine AB (B8 (h:=w_ (m_ (h:=?_))));refine A7 rfl (Bk [0,1] rfl (.cons _ _ _ _ _ rfl (AA _) .nil) (by decide) (.cons _ _ _ _ _ rfl rfl (.cons _ _ _ _ _ rfl (Cy BA _ _ _) .nil)) (OR w cap f hv hm htb hf) ?_);rintro r bc tc ⟨rfl,rfl,rfl⟩;refine⟨rfl,_,DD rfl ((D5 w).1) cap,?_⟩;refine a_ (h:=e_ (A4 (AK (A6 (?_)))));refine BZ (r:= .v (.int .i64 (BY w).2)) none (h5:=(by rw[hact];exact AA _)) (h6:=⟨rfl,rfl,?_⟩);rw[hact];rfl
 have hc8:=bp hb8;refine w_ (AD (h:=a_ (h:=e_ (?_))));refine A8 rfl (fun hb9=>?_) (fun hb9=>?_)
 ·have hc9:=bp hb9;obtain⟨f,hf⟩:∃f,w.found[0]?=some f:=⟨_,BJ (by omega)⟩;obtain⟨x,hx⟩:∃x,w.r.items[0]?=some x:=⟨_,BJ (by omega)⟩;have hact:BY w=D5 w:=by simp[BY,hc9]
  refine AB (B8 (h:=w_ (m_ (h:=?_))));refine A7 rfl (Bk [0,1] rfl (.cons _ _ _ _ _ rfl (AA _) .nil) (by decide) (.cons _ _ _ _ _ rfl rfl (.cons _ _ _ _ _ rfl (Cy BA _ _ _) .nil)) (OR w cap f hv hm htb hf) ?_);rintro r bc tc ⟨rfl,rfl,rfl⟩;refine⟨rfl,_,DD rfl ((D5 w).1) cap,?_⟩;refine a_ (h:=e_ (A4 (AK (A6 (?_)))));refine BZ (r:= .v (.int .i64 (BY w).2)) none (h5:=(by rw[hact];exact AA _)) (h6:=⟨rfl,rfl,?_⟩);rw[hact];rfl
 have hc9:=bp hb9;refine w_ (AD (h:=a_ (h:=e_ (?_))));refine A8 rfl (fun hb10=>?_) (fun hb10=>?_)
 ·have hc10:=bp hb10;obtain⟨f,hf⟩:∃f,w.found[0]?=some f:=⟨_,BJ (by omega)⟩;obtain⟨x,hx⟩:∃x,w.r.items[0]?=some x:=⟨_,BJ (by omega)⟩;have hact:BY w=D5 w:=by simp[BY,hc10]
  refine AB (B8 (h:=w_ (m_ (h:=?_))));refine A7 rfl (Bk [0,1] rfl (.cons _ _ _ _ _ rfl (AA _) .nil) (by decide) (.cons _ _ _ _ _ rfl rfl (.cons _ _ _ _ _ rfl (Cy BA _ _ _) .nil)) (OR w cap f hv hm htb hf) ?_);rintro r bc tc ⟨rfl,rfl,rfl⟩;refine⟨rfl,_,DD rfl ((D5 w).1) cap,?_⟩;refine a_ (h:=e_ (A4 (AK (A6 (?_)))));refine BZ (r:= .v (.int .i64 (BY w).2)) none (h5:=(by rw[hact];exact AA _)) (h6:=⟨rfl,rfl,?_⟩);rw[hact];rfl
 have hc10:=bp hb10;refine AR (AD (h:=a_ (h:=e_ (?_))));refine A8 rfl (fun hb11=>?_) (fun hb11=>?_)
 ·have hc11:=bp hb11;obtain⟨f,hf⟩:∃f,w.found[0]?=some f:=⟨_,BJ (by omega)⟩;obtain⟨x,hx⟩:∃x,w.r.items[0]?=some x:=⟨_,BJ (by omega)⟩;have hact:BY w=D5 w:=by simp[BY,hc11]
  refine w_ (m_ (h:=?_));refine A7 rfl (Bk [0,1] rfl (.cons _ _ _ _ _ rfl (AA _) .nil) (by decide) (.cons _ _ _ _ _ rfl rfl (.cons _ _ _ _ _ rfl (Cy BA _ _ _) .nil)) (OR w cap f hv hm htb hf) ?_);rintro r bc tc ⟨rfl,rfl,rfl⟩;refine⟨rfl,_,DD rfl ((D5 w).1) cap,?_⟩;refine a_ (h:=e_ (A4 (AK (A6 (?_)))));refine BZ (r:= .v (.int .i64 (BY w).2)) none (h5:=(by rw[hact];exact AA _)) (h6:=⟨rfl,rfl,?_⟩);rw[hact];rfl
 have hc11:=bp hb11;refine q_ (w_ (AD (h:=a_ (h:=e_ (?_)))));refine A8 rfl (fun hb12=>?_) (fun hb12=>?_)
 ·have hc12:=bp hb12;obtain⟨f,hf⟩:∃f,w.found[0]?=some f:=⟨_,BJ (by omega)⟩;obtain⟨x,hx⟩:∃x,w.r.items[0]?=some x:=⟨_,BJ (by omega)⟩;have hact:BY w=Ee w:=by simp[BY,hc12]
  refine AB (B8 (h:=w_ (m_ (h:=?_))));refine A7 rfl (Bk [0,1] rfl (.cons _ _ _ _ _ rfl (AA _) .nil) (by decide) (.cons _ _ _ _ _ rfl rfl (.cons _ _ _ _ _ rfl (Cy BA _ _ _) .nil)) (VZ w cap f x hv hm hf hx (by have:=hnm f (Aw hf);omega) h9 hsz) ?_);rintro r bc tc ⟨rfl,rfl,rfl⟩;refine⟨rfl,_,DD rfl ((Ee w).1) cap,?_⟩;refine a_ (h:=e_ (A4 (AK (A6 (?_)))));refine BZ (r:= .v (.int .i64 (BY w).2)) none (h5:=(by rw[hact];exact AA _)) (h6:=⟨rfl,rfl,?_⟩);rw[hact];rfl
 have hc12:=bp hb12;refine AR (AD (h:=a_ (h:=e_ (?_))));refine A8 rfl (fun hb13=>?_) (fun hb13=>?_)
 ·have hc13:=bp hb13;obtain⟨f,hf⟩:∃f,w.found[0]?=some f:=⟨_,BJ (by omega)⟩;obtain⟨x,hx⟩:∃x,w.r.items[0]?=some x:=⟨_,BJ (by omega)⟩;have hact:BY w=Ee w:=by simp[BY,hc13]
  refine w_ (m_ (h:=?_));refine A7 rfl (Bk [0,1] rfl (.cons _ _ _ _ _ rfl (AA _) .nil) (by decide) (.cons _ _ _ _ _ rfl rfl (.cons _ _ _ _ _ rfl (Cy BA _ _ _) .nil)) (VZ w cap f x hv hm hf hx (by have:=hnm f (Aw hf);omega) h9 hsz) ?_);rintro r bc tc ⟨rfl,rfl,rfl⟩;refine⟨rfl,_,DD rfl ((Ee w).1) cap,?_⟩;refine a_ (h:=e_ (A4 (AK (A6 (?_)))));refine BZ (r:= .v (.int .i64 (BY w).2)) none (h5:=(by rw[hact];exact AA _)) (h6:=⟨rfl,rfl,?_⟩);rw[hact];rfl
 have hc13:=bp hb13;exfalso;first|contradiction|omega
theorem f6(s:Syst)(pid:Int)(c:Cal)(hv:SpcV s.spc)(hm:s.spc.mounts.length≤1000)(ht:TabB s.tab)(hcp:c.paths.length≤1000)(hca:c.args.length≤1000)(h6:0<(By c.num).2.2.1):AFn prog 49 [.agg (C2 s), .v (.int .i64 pid), .agg (DC c)] (fun r=>r=KR (CY s pid c)):=by
 have hsb:=hv.b hm;obtain⟨W1,hW1⟩:∃W,W=GL s pid c:=⟨_,rfl⟩;have hwf:=VC s pid c;rw[←hW1]at hwf;have hWs:W1.s=s:=by rw[hW1];rfl
 have hWc:W1.c=c:=by rw[hW1];rfl
 refine enter Tryz.func49 rfl rfl rfl rfl rfl 0 rfl ?_;refine w_ (b_ (h:=b_ (h:=Al (h:=Al (h:=e_ (w_ (f_ (h:=l_ (h:=m_ (h:=?_))))))))));refine A7 rfl (AG (GM s.tab pid ht) ?_);rintro r rfl;refine m_ (h:=x_ (h:=x_ (h:=Al (h:=s_ (h:=a_ (h:=e_ (q_ (w_ (m_ (h:=B9 (h:=e_ (?_))))))))))));refine A8 rfl (fun hb1=>?_) (fun hb1=>?_)
 ·have hc1:=bp hb1;have hno:C7 s.tab pid=false:=by simpa using hc1
  refine w_ (l_ (h:=?_));refine A7 rfl (AG (Jr s hsb ht) ?_);rintro r rfl;refine A7 rfl (FJ (y:= .agg (HH {Ep with exit:= -4})) (D8 ⟨rfl,rfl⟩) ?_);refine s_ (h:=s_ (h:=e_ (A4 (A6 (?_)))));refine A9 ?_;rw[CY,if_pos hno];rfl
 have hc1:=bp hb1;have hno:¬C7 s.tab pid=false:=by simpa using hc1
 refine AB (q_ (w_ (l_ (h:=?_))));refine A7 rfl (AG (Uk c hcp hca) ?_);rintro r rfl;refine Ap (h:=e_ (?_));refine A8 rfl (fun hb2=>?_) (fun hb2=>?_)
 ·have hc2:=bp hb2;have hck:Bo c≠0:=by simpa using hc2
  refine w_ (l_ (h:=?_));refine A7 rfl (AG (Jr s hsb ht) ?_);rintro r rfl;refine A7 rfl (FJ (y:= .agg (HH {Ep with exit:= -22})) (D8 ⟨rfl,rfl⟩) ?_);refine s_ (h:=s_ (h:=e_ (A4 (A6 (?_)))));refine A9 ?_;rw[CY,if_neg hno,if_pos hck];rfl
 have hc2:=bp hb2;have hck:Bo c=0:=by simpa using hc2
 obtain⟨hk1,hk2,hk3,hk4,hk5⟩:=VB hck;have hargs:∀p∈(Cz s pid c).c.args,p.size≤1000:=fun p hp=>by have:=hk5 p hp;omega
 have hpaths:∀p∈(Cz s pid c).c.paths,p.size≤100000:=fun p hp=>by have:=hk4 p hp;omega
 obtain⟨hp1,hp2,hp3⟩:=Va h6;have hp4:=eX h6;have h9:c.num=9→0<c.args.length:=fun q=>by rw[q]at hk2;have:(By 9).2.2.2.1=1:=rfl;omega
 have hpp:(Cz s pid c).c.paths.length=(Ce (Cz s pid c).c).length:=by show c.paths.length=(Ce c).length;omega
 have hp0:0<(Cz s pid c).c.paths.length:=by show 0<c.paths.length;omega
 have hzl:(c.paths.zip (Ce c)).length=c.paths.length:=by rw[List.length_zip];omega
 have hil0:0<W1.r.items.length:=by rw[hwf.2.2,hzl];omega
 refine AB (q_ (Bf ([(0,C2 s),(1,DC c),(4,Aq (AY s.tab pid))]) 7 (h:=?_)))
 first|refine AJ 0 (h:=?_)|refine BF 0 rfl (fun _ hS=>Cq (row:=C2 s) rfl (kb hS rfl) (BL rfl) rfl ⟨rfl,rfl⟩) ?_|refine BF 0 rfl (fun _ hS=>Cq (row:=DC c) rfl (kb hS rfl) (BL rfl) rfl ⟨rfl,rfl⟩) ?_|refine BF 0 rfl (fun _ hS=>Cq (row:=Aq (AY s.tab pid)) rfl (kb hS rfl) (BL rfl) rfl ⟨rfl,rfl⟩) ?_
 first|refine AJ 2 (h:=?_)|refine BF 2 rfl (fun _ hS=>Cq (row:=C2 s) rfl (kb hS rfl) (BL rfl) rfl ⟨rfl,rfl⟩) ?_|refine BF 2 rfl (fun _ hS=>Cq (row:=DC c) rfl (kb hS rfl) (BL rfl) rfl ⟨rfl,rfl⟩) ?_|refine BF 2 rfl (fun _ hS=>Cq (row:=Aq (AY s.tab pid)) rfl (kb hS rfl) (BL rfl) rfl ⟨rfl,rfl⟩) ?_
 first|refine AJ 3 (h:=?_)|refine BF 3 rfl (fun _ hS=>Cq (row:=C2 s) rfl (kb hS rfl) (BL rfl) rfl ⟨rfl,rfl⟩) ?_|refine BF 3 rfl (fun _ hS=>Cq (row:=DC c) rfl (kb hS rfl) (BL rfl) rfl ⟨rfl,rfl⟩) ?_|refine BF 3 rfl (fun _ hS=>Cq (row:=Aq (AY s.tab pid)) rfl (kb hS rfl) (BL rfl) rfl ⟨rfl,rfl⟩) ?_
 refine c_ 1 rfl (AG (Jr s hsb ht) ?_);rintro r rfl;refine o_ (h:=?_);refine BF 4 rfl (fun _ hS=>FH (y:= .agg (Cx (Cz s pid c) (.v (.slice none 0 0)) (.v (.slice none 0 0)))) (D8 ⟨rfl,rfl⟩) (VF s pid c) ⟨rfl,rfl⟩) ?_
 first|refine c_ 5 rfl (ND rfl rfl (by repeat constructor) ?_)|refine c_ 5 rfl (NC rfl rfl (by repeat constructor) ?_)
 refine o_ (h:=BO 6 (h:=z_ (h:=t_ (?_))));refine BR (fun S=>∃cap,W1.r.items.length≤cap∧S=⟨look [(3, .bp 2 0),(6, .bp 3 0),(7, .bp 4 0),(10, .bp 0 0),(11, .v (.int .i64 (Et s (AY s.tab pid) c).2.2))],⟨[WA W1 cap,IB W1 cap,C2 s,Fi,GN],[]⟩⟩) ?_ ?_
 ·skip
  refine AR (m_ (h:=m_ (h:=?_)));refine A7 rfl (D3 1 rfl (.cons _ _ _ _ _ rfl (LeA.of_eq rfl) .nil) (VE (Cz s pid c) (.v (.slice none 0 0)) (.v (.slice none 0 0)) h9 hargs) ?_);rintro r rfl;refine⟨rfl,?_⟩;refine A7 rfl (Bk [5] rfl (.cons _ _ _ _ _ rfl (AA _) (.cons _ _ _ _ _ rfl (AA _) .nil)) (by decide) (.cons _ _ _ _ _ rfl rfl .nil) (bX (Cz s pid c) (Ci (AY s.tab pid) c) hv hm hpp (by show c.paths.length≤1000;omega) hp0 hpaths) ?_);rintro r bc tc ⟨rfl,cap,hcap,rfl,rfl⟩;refine⟨rfl,_,cE (Cz s pid c) _ _ cap _,?_⟩;refine a_ (h:=AP (?_));refine AE ?_;rw[hW1];exact⟨_,⟨cap,hcap,rfl⟩,DQ [5,6,0,2,3] (fun i hi=>absurd hi (Nat.not_lt_zero i)) (by decide) (.cons _ _ _ _ _ rfl rfl (.cons _ _ _ _ _ rfl (Fh BA _ _ _) (.cons _ _ _ _ _ rfl rfl (.cons _ _ _ _ _ rfl rfl (.cons _ _ _ _ _ rfl rfl .nil))))) (by repeat (first|exact SubK.nil|refine SubK.cons _ _ _ _ rfl (AA _) ?_))⟩
 rintro S ⟨cap,hcap,rfl⟩;refine w_ (m_ (h:=k_ (h:=f_ (h:=f_ (h:=l_ (h:=?_))))));refine A7 rfl (NX rfl rfl (SrcA.bs 1 0 _ cap _ rfl (by rw[show IB W1 cap=LB 13 Cf W1.r.items cap from rfl,OD BA hcap];omega)) hil0 (by rw[hwf.2.2,hzl];omega) ?_);rintro cap2 k bx2 hcp2 hs;rw[show((IB W1 cap).drop 0).take (W1.r.items.length * 13)++List.replicate ((cap2 - W1.r.items.length) * 13) AV.any=LB 13 Cf W1.r.items cap2 from cF BA _ cap cap2]at hs;obtain⟨rfl,rfl⟩:k=5∧bx2=[_,_,_,_,_,_]:=hs.eq;refine a_ (h:=e_ (?_));refine BR (fun S=>∃(W2:Wrk) (E2:Int),((¬(Et s (AY s.tab pid) c).2.2=0∧E2=(Et s (AY s.tab pid) c).2.2)∨((Et s (AY s.tab pid) c).2.2=0∧W2=(BY W1).1∧E2=(BY W1).2))∧S=⟨look [(3, .bp 2 0),(6, .bp 3 0),(7, .bp 4 0),(10, .bp 0 0),(11, .v (.int .i64 E2)),(12, .bs 5 0 13 W1.r.items.length cap2)],⟨[WA W2 cap,IB W2 cap,C2 s,Fi,GN,LB 13 Cf W1.r.items cap2],[]⟩⟩) ?_ ?_
 ·skip
  refine w_ (m_ (h:=AD (h:=e_ (?_))));refine A8 rfl (fun hb3=>?_) (fun hb3=>?_)
  ·have hc3:=bp hb3;have he1:(Et s (AY s.tab pid) c).2.2=0:=by simpa using hc3
   refine AR (m_ (h:=?_));refine A7 rfl (Bk [0,1] rfl (.cons _ _ _ _ _ rfl (AA _) .nil) (by decide) (.cons _ _ _ _ _ rfl rfl (.cons _ _ _ _ _ rfl (Cy BA _ _ _) .nil)) (eZ W1 cap (by rw[hWs];exact hv) (by rw[hWs];exact hm) (by rw[hWs];exact ht) hwf.1 (by rw[hwf.2.1,hzl];omega) (by rw[hwf.2.2,hzl];omega) (by rw[hWc,hwf.2.1,hwf.2.2,hzl];omega) (by rw[hWc];exact hp1) (by rw[hWc];exact h9) (by rw[hWc];exact hargs)) ?_);rintro r bc tc ⟨rfl,rfl,rfl⟩;refine⟨rfl,_,DD rfl (BY W1).1 cap,?_⟩;refine a_ (h:=AP (?_));refine AE ?_
   first|exact⟨_,⟨(BY W1).1,(BY W1).2, .inr ⟨he1,rfl,rfl⟩,rfl⟩,Av 6 0 rfl rfl rfl (by simp[Af,Ac,Aa,Bm BA,BM,WA,IB,CH,C2,Fi,GN]) ((by repeat (first|exact Sub.nil|refine Ax rfl rfl ?_|refine B1 ?_|refine B2 rfl ?_|refine B3 rfl ?_)))⟩|exact⟨_,⟨W1,_, .inl ⟨he1,rfl⟩,rfl⟩,Av 6 0 rfl rfl rfl (by simp[Af,Ac,Aa,Bm BA,BM,WA,IB,CH,C2,Fi,GN]) ((by repeat (first|exact Sub.nil|refine Ax rfl rfl ?_|refine B1 ?_|refine B2 rfl ?_|refine B3 rfl ?_)))⟩
  have hc3:=bp hb3;have he1:¬(Et s (AY s.tab pid) c).2.2=0:=by simpa using hc3
  refine Au (?_);refine AE ?_
  first|exact⟨_,⟨(BY W1).1,(BY W1).2, .inr ⟨he1,rfl,rfl⟩,rfl⟩,Av 6 0 rfl rfl rfl (by simp[Af,Ac,Aa,Bm BA,BM,WA,IB,CH,C2,Fi,GN]) ((by repeat (first|exact Sub.nil|refine Ax rfl rfl ?_|refine B1 ?_|refine B2 rfl ?_|refine B3 rfl ?_)))⟩|exact⟨_,⟨W1,_, .inl ⟨he1,rfl⟩,rfl⟩,Av 6 0 rfl rfl rfl (by simp[Af,Ac,Aa,Bm BA,BM,WA,IB,CH,C2,Fi,GN]) ((by repeat (first|exact Sub.nil|refine Ax rfl rfl ?_|refine B1 ?_|refine B2 rfl ?_|refine B3 rfl ?_)))⟩
 rintro S ⟨W2,E2,hQ,rfl⟩;refine q_ (w_ (m_ (h:=Ap (h:=e_ (?_)))));refine A8 rfl (fun hb4=>?_) (fun hb4=>?_)
 ·have hc4:=bp hb4;have he2:E2≠0:=by simpa using hc4
  have hrun:CY s pid c=(s,{Ep with exit:=Gt E2,items:=W1.r.items}):=by
   rw[CY,if_neg hno,if_neg (by simp[hck])];rcases hQ with⟨q1,q2⟩|⟨q1,q2,q3⟩
   ·rw[if_pos q1,←q2,hW1];rfl
   rw[if_neg (by simp[q1]),←hW1,←q3,if_pos he2,hW1];rfl
  refine BR (fun S=>S=⟨look [(6, .bp 0 0),(7, .bp 1 0)],⟨[C2 s,KS {Ep with exit:=Gt E2} (.sl 13 (W1.r.items.map Cf) none)],[]⟩⟩) ?_ ?_
  ·skip
   refine AR (l_ (h:=?_));refine A7 rfl (AG (Jr s hsb ht) ?_);rintro r rfl;refine m_ (h:=?_);refine A7 rfl (VJ rfl ?_);refine m_ (h:=?_);refine A7 rfl (FJ (y:= .agg (KS {Ep with exit:=Gt E2} (.bs 5 0 13 W1.r.items.length cap2))) (D8 ⟨rfl,rfl⟩) ?_);refine s_ (h:=s_ (h:=AP (?_)));refine AE ?_;refine⟨_,rfl,(DQ [3,4,5] (rows:=[C2 s,KS {Ep with exit:=Gt E2} (.bs 2 0 13 W1.r.items.length cap2),LB 13 Cf W1.r.items cap2]) (l:=[(6, .bp 0 0),(7, .bp 1 0)]) (fun i hi=>absurd hi (Nat.not_lt_zero i)) (by decide) (.cons _ _ _ _ _ rfl rfl (.cons _ _ _ _ _ rfl rfl (.cons _ _ _ _ _ rfl (Fh BA _ _ _) .nil))) (by repeat (first|exact SubK.nil|refine SubK.cons _ _ _ _ rfl (AA _) ?_))).trans (ET 2 1 rfl (congrArg (fun x=>[C2 s,KS {Ep with exit:=Gt E2} x]) (KO BA rfl rfl hcp2)) (.cons _ _ _ _ rfl (AA _) (.cons _ _ _ _ rfl (AA _) .nil)))⟩
  rintro S rfl;refine A4 (A6 (?_));refine Ai (r:=KR (CY s pid c)) none (h5:=(by rw[hrun];exact(by repeat (first|exact AA _|exact LeA.nil _|exact LeL.refl _|refine LeA.agg ?_|refine LeA.tup ?_|exact LeL.nil|refine LeL.cons ?_ ?_|exact LeA.any _)))) (h6:=⟨rfl,rfl,rfl⟩)
 have hc4:=bp hb4;have he2:E2=0:=by simpa using hc4
 have hlen2:W2.r.items.length≤cap:=by
  rcases hQ with⟨q1,q2⟩|⟨q1,q2,q3⟩
  ·exact absurd (q2.symm.trans he2) q1
  rw[q2,Qw];exact hcap
 have hrun:CY s pid c=(W2.s,W2.r):=by
  rcases hQ with⟨q1,q2⟩|⟨q1,q2,q3⟩
  ·exact absurd (q2.symm.trans he2) q1
  rw[CY,if_neg hno,if_neg (by simp[hck]),if_neg (by simp[q1]),←hW1,←q3,if_neg (by simp[he2]),q2]
 refine AB (?_);refine BR (fun S=>S=⟨look [(6, .bp 0 0),(7, .bp 1 0)],⟨[C2 W2.s,KS W2.r (.sl 13 (W2.r.items.map Cf) none)],[]⟩⟩) ?_ ?_
 ·skip
  refine Bf ([(0,WA W2 cap)]) 10 (h:=AU 0 (h:=BS 1 (h:=AO 2 (h:=AJ 3 (h:=AU 4 (h:=BS 5 (h:=AO 6 (h:=AJ 7 (h:=?_)))))))));refine BH 8 rfl (BC rfl rfl rfl rfl rfl rfl (by repeat constructor) (by repeat constructor) ?_);refine o_ (h:=?_);refine BH 9 rfl (BC rfl rfl rfl rfl rfl rfl (by repeat constructor) (by repeat constructor) ?_);refine o_ (h:=z_ (h:=?_));refine AE ?_;refine⟨_,rfl,(DQ [3,4,1] (rows:=[C2 W2.s,KS W2.r (.bs 2 0 13 W2.r.items.length cap),LB 13 Cf W2.r.items cap]) (l:=[(6, .bp 0 0),(7, .bp 1 0)]) (fun i hi=>absurd hi (Nat.not_lt_zero i)) (by decide) (.cons _ _ _ _ _ rfl rfl (.cons _ _ _ _ _ rfl rfl (.cons _ _ _ _ _ rfl (Fh BA _ _ _) .nil))) (by repeat (first|exact SubK.nil|refine SubK.cons _ _ _ _ rfl (AA _) ?_))).trans (ET 2 1 rfl (congrArg (fun x=>[C2 W2.s,KS W2.r x]) (KO BA rfl rfl hlen2)) (.cons _ _ _ _ rfl (AA _) (.cons _ _ _ _ rfl (AA _) .nil)))⟩
 rintro S rfl;refine A4 (?_);refine A9 ?_;rw[hrun];rfl
theorem f7{s:Syst}{p:Prc}{c:Cal}(h:c.paths=[]):Et s p c=([],[],Ci p c):=by
 unfold Et Hp;rw[h];rfl
theorem f8(s:Syst)(pid:Int)(c:Cal)(hv:SpcV s.spc)(hm:s.spc.mounts.length≤1000)(ht:TabB s.tab)(htn:Cu s.tab)(hcp:c.paths.length≤1000)(hca:c.args.length≤1000)(h6:(By c.num).2.2.1=0):AFn prog 49 [.agg (C2 s), .v (.int .i64 pid), .agg (DC c)] (fun r=>r=KR (CY s pid c)):=by
 have hsb:=hv.b hm;have hwl:GL s pid c=⟨s,AY s.tab pid,c,(Et s (AY s.tab pid) c).2.1,{Ep with items:=(Et s (AY s.tab pid) c).1}⟩:=rfl;refine enter Tryz.func49 rfl rfl rfl rfl rfl 0 rfl ?_;refine w_ (b_ (h:=b_ (h:=Al (h:=Al (h:=e_ (w_ (f_ (h:=l_ (h:=m_ (h:=?_))))))))));refine A7 rfl (AG (GM s.tab pid ht) ?_);rintro r rfl;refine m_ (h:=x_ (h:=x_ (h:=Al (h:=s_ (h:=a_ (h:=e_ (q_ (w_ (m_ (h:=B9 (h:=e_ (?_))))))))))));refine A8 rfl (fun hb1=>?_) (fun hb1=>?_)
 ·have hc1:=bp hb1;have hno:C7 s.tab pid=false:=by simpa using hc1
  refine w_ (l_ (h:=?_));refine A7 rfl (AG (Jr s hsb ht) ?_);rintro r rfl;refine A7 rfl (FJ (y:= .agg (HH {Ep with exit:= -4})) (D8 ⟨rfl,rfl⟩) ?_);refine s_ (h:=s_ (h:=e_ (A4 (A6 (?_)))));refine A9 ?_;rw[CY,if_pos hno];rfl
 have hc1:=bp hb1;have hno:¬C7 s.tab pid=false:=by simpa using hc1
 refine AB (q_ (w_ (l_ (h:=?_))));refine A7 rfl (AG (Uk c hcp hca) ?_);rintro r rfl;refine Ap (h:=e_ (?_));refine A8 rfl (fun hb2=>?_) (fun hb2=>?_)
 ·have hc2:=bp hb2;have hck:Bo c≠0:=by simpa using hc2
  refine w_ (l_ (h:=?_));refine A7 rfl (AG (Jr s hsb ht) ?_);rintro r rfl;refine A7 rfl (FJ (y:= .agg (HH {Ep with exit:= -22})) (D8 ⟨rfl,rfl⟩) ?_);refine s_ (h:=s_ (h:=e_ (A4 (A6 (?_)))));refine A9 ?_;rw[CY,if_neg hno,if_pos hck];rfl
 have hc2:=bp hb2;have hck:Bo c=0:=by simpa using hc2
 obtain⟨hk1,hk2,hk3,hk4,hk5⟩:=VB hck;have hargs:∀p∈(Cz s pid c).c.args,p.size≤1000:=fun p hp=>by have:=hk5 p hp;omega
 have hp0:c.paths=[]:=by rw[h6]at hk1;exact List.length_eq_zero_iff.1 (by omega)
 have hpz:(Cz s pid c).c.paths=[]:=hp0;have h9:(Cz s pid c).c.num=9→0<(Cz s pid c).c.args.length:=fun q=>absurd q (Vb h6).2.2.2.1;have h19:(Cz s pid c).c.num=19→0<(Cz s pid c).c.args.length:=fun q=>by have q2:c.num=19:=q;rw[q2]at hk2;have:(By 19).2.2.2.1=1:=rfl;show 0<c.args.length;omega
 have hlok:=f7 (s:=s) (p:=AY s.tab pid) hp0;have hwk:GL s pid c=Cz s pid c:=by rw[hwl,hlok];rfl
 refine AB (q_ (Bf ([(0,C2 s),(1,DC c),(4,Aq (AY s.tab pid))]) 7 (h:=?_)))
 first|refine AJ 0 (h:=?_)|refine BF 0 rfl (fun _ hS=>Cq (row:=C2 s) rfl (kb hS rfl) (BL rfl) rfl ⟨rfl,rfl⟩) ?_|refine BF 0 rfl (fun _ hS=>Cq (row:=DC c) rfl (kb hS rfl) (BL rfl) rfl ⟨rfl,rfl⟩) ?_|refine BF 0 rfl (fun _ hS=>Cq (row:=Aq (AY s.tab pid)) rfl (kb hS rfl) (BL rfl) rfl ⟨rfl,rfl⟩) ?_
 first|refine AJ 2 (h:=?_)|refine BF 2 rfl (fun _ hS=>Cq (row:=C2 s) rfl (kb hS rfl) (BL rfl) rfl ⟨rfl,rfl⟩) ?_|refine BF 2 rfl (fun _ hS=>Cq (row:=DC c) rfl (kb hS rfl) (BL rfl) rfl ⟨rfl,rfl⟩) ?_|refine BF 2 rfl (fun _ hS=>Cq (row:=Aq (AY s.tab pid)) rfl (kb hS rfl) (BL rfl) rfl ⟨rfl,rfl⟩) ?_
 first|refine AJ 3 (h:=?_)|refine BF 3 rfl (fun _ hS=>Cq (row:=C2 s) rfl (kb hS rfl) (BL rfl) rfl ⟨rfl,rfl⟩) ?_|refine BF 3 rfl (fun _ hS=>Cq (row:=DC c) rfl (kb hS rfl) (BL rfl) rfl ⟨rfl,rfl⟩) ?_|refine BF 3 rfl (fun _ hS=>Cq (row:=Aq (AY s.tab pid)) rfl (kb hS rfl) (BL rfl) rfl ⟨rfl,rfl⟩) ?_
 refine c_ 1 rfl (AG (Jr s hsb ht) ?_);rintro r rfl;refine o_ (h:=?_);refine BF 4 rfl (fun _ hS=>FH (y:= .agg (Cx (Cz s pid c) (.v (.slice none 0 0)) (.v (.slice none 0 0)))) (D8 ⟨rfl,rfl⟩) (VF s pid c) ⟨rfl,rfl⟩) ?_
 first|refine c_ 5 rfl (ND rfl rfl (by repeat constructor) ?_)|refine c_ 5 rfl (NC rfl rfl (by repeat constructor) ?_)
 refine o_ (h:=BO 6 (h:=z_ (h:=t_ (?_))));refine BR (fun S=>S=⟨look [(3, .bp 2 0),(6, .bp 3 0),(7, .bp 4 0),(10, .bp 0 0),(11, .v (.int .i64 (Ci (AY s.tab pid) c)))],⟨[WN (Cz s pid c),DC c,C2 s,Fi,GN],[]⟩⟩) ?_ ?_
 ·skip
  refine AR (m_ (h:=m_ (h:=?_)));refine A7 rfl (D3 1 rfl (.cons _ _ _ _ _ rfl (LeA.of_eq rfl) .nil) (VE (Cz s pid c) (.v (.slice none 0 0)) (.v (.slice none 0 0)) h9 hargs) ?_);rintro r rfl;refine⟨rfl,?_⟩;refine A7 rfl (Bk [5] rfl (.cons _ _ _ _ _ rfl (AA _) (.cons _ _ _ _ _ rfl (AA _) .nil)) (by decide) (.cons _ _ _ _ _ rfl rfl .nil) (eJ (Cz s pid c) (Ci (AY s.tab pid) c) hpz) ?_);rintro r bc tc ⟨rfl,rfl,rfl⟩;refine⟨rfl,_,eY (Cz s pid c),?_⟩;refine a_ (h:=AP (?_));refine AE ?_;exact⟨_,rfl,DQ [5,1,0,2,3] (fun i hi=>absurd hi (Nat.not_lt_zero i)) (by decide) (.cons _ _ _ _ _ rfl rfl (.cons _ _ _ _ _ rfl rfl (.cons _ _ _ _ _ rfl rfl (.cons _ _ _ _ _ rfl rfl (.cons _ _ _ _ _ rfl rfl .nil))))) (by repeat (first|exact SubK.nil|refine SubK.cons _ _ _ _ rfl (AA _) ?_))⟩
 rintro S rfl;refine w_ (m_ (h:=k_ (h:=f_ (h:=f_ (h:=l_ (h:=?_))))));refine A7 rfl (eE rfl rfl ?_);refine a_ (h:=e_ (?_));refine BR (fun S=>∃(W2:Wrk) (E2:Int),((¬Ci (AY s.tab pid) c=0∧E2=Ci (AY s.tab pid) c)∨(Ci (AY s.tab pid) c=0∧W2=(BY (Cz s pid c)).1∧E2=(BY (Cz s pid c)).2))∧S=⟨look [(3, .bp 2 0),(6, .bp 3 0),(7, .bp 4 0),(10, .bp 0 0),(11, .v (.int .i64 E2)),(12, .v (.slice none 0 0))],⟨[WN W2,DC c,C2 s,Fi,GN],[]⟩⟩) ?_ ?_
 ·skip
  refine w_ (m_ (h:=AD (h:=e_ (?_))));refine A8 rfl (fun hb3=>?_) (fun hb3=>?_)
  ·have hc3:=bp hb3;have he1:Ci (AY s.tab pid) c=0:=by simpa using hc3
   refine AR (m_ (h:=?_));refine A7 rfl (Bk [0] rfl (.cons _ _ _ _ _ rfl (AA _) .nil) (by decide) (.cons _ _ _ _ _ rfl rfl .nil) (eK (Cz s pid c) hsb ht htn h19 (Vb h6)) ?_);rintro r bc tc ⟨rfl,rfl,rfl⟩;refine⟨rfl,_,Hy ((BY (Cz s pid c)).1),?_⟩;refine a_ (h:=AP (?_));refine AE ?_
   first|exact⟨_,⟨(BY (Cz s pid c)).1,(BY (Cz s pid c)).2, .inr ⟨he1,rfl,rfl⟩,rfl⟩,Av 5 0 rfl rfl rfl (by simp[Af,Ac,Aa,BM,WN,C2,Fi,GN,DC]) ((by repeat (first|exact Sub.nil|refine Ax rfl rfl ?_|refine B1 ?_|refine B2 rfl ?_|refine B3 rfl ?_)))⟩|exact⟨_,⟨Cz s pid c,_, .inl ⟨he1,rfl⟩,rfl⟩,Av 5 0 rfl rfl rfl (by simp[Af,Ac,Aa,BM,WN,C2,Fi,GN,DC]) ((by repeat (first|exact Sub.nil|refine Ax rfl rfl ?_|refine B1 ?_|refine B2 rfl ?_|refine B3 rfl ?_)))⟩
  have hc3:=bp hb3;have he1:¬Ci (AY s.tab pid) c=0:=by simpa using hc3
  refine Au (?_);refine AE ?_
  first|exact⟨_,⟨(BY (Cz s pid c)).1,(BY (Cz s pid c)).2, .inr ⟨he1,rfl,rfl⟩,rfl⟩,Av 5 0 rfl rfl rfl (by simp[Af,Ac,Aa,BM,WN,C2,Fi,GN,DC]) ((by repeat (first|exact Sub.nil|refine Ax rfl rfl ?_|refine B1 ?_|refine B2 rfl ?_|refine B3 rfl ?_)))⟩|exact⟨_,⟨Cz s pid c,_, .inl ⟨he1,rfl⟩,rfl⟩,Av 5 0 rfl rfl rfl (by simp[Af,Ac,Aa,BM,WN,C2,Fi,GN,DC]) ((by repeat (first|exact Sub.nil|refine Ax rfl rfl ?_|refine B1 ?_|refine B2 rfl ?_|refine B3 rfl ?_)))⟩
 rintro S ⟨W2,E2,hQ,rfl⟩;refine q_ (w_ (m_ (h:=Ap (h:=e_ (?_)))));refine A8 rfl (fun hb4=>?_) (fun hb4=>?_)
 ·have hc4:=bp hb4;have he2:E2≠0:=by simpa using hc4
  have hrun:CY s pid c=(s,{Ep with exit:=Gt E2}):=by
   rw[CY,if_neg hno,if_neg (by simp[hck]),hlok];rcases hQ with⟨q1,q2⟩|⟨q1,q2,q3⟩
   ·rw[if_pos q1,←q2];rfl
   rw[if_neg (by simp[q1]),hwk,←q3,if_pos he2];rfl
  refine w_ (l_ (h:=?_));refine A7 rfl (AG (Jr s hsb ht) ?_);rintro r rfl;refine m_ (h:=?_);refine A7 rfl (VJ rfl ?_);refine m_ (h:=?_);refine A7 rfl (FJ (y:= .agg (HH {Ep with exit:=Gt E2})) (D8 ⟨rfl,rfl⟩) ?_);refine s_ (h:=s_ (h:=e_ (A4 (A6 (?_)))));refine Ai (r:=KR (CY s pid c)) none (h5:=(by rw[hrun];exact(by repeat (first|exact AA _|exact LeA.nil _|exact LeL.refl _|refine LeA.agg ?_|refine LeA.tup ?_|exact LeL.nil|refine LeL.cons ?_ ?_|exact LeA.any _)))) (h6:=⟨rfl,rfl,rfl⟩)
 have hc4:=bp hb4;have he2:E2=0:=by simpa using hc4
 have hrun:CY s pid c=(W2.s,W2.r)∧W2.r.items=[]:=by
  rcases hQ with⟨q1,q2⟩|⟨q1,q2,q3⟩
  ·exact absurd (q2.symm.trans he2) q1
  refine⟨?_,?_⟩
  ·rw[CY,if_neg hno,if_neg (by simp[hck]),hlok,if_neg (by simp[q1]),hwk,←q3,if_neg (by simp[he2]),q2]
  refine List.length_eq_zero_iff.1 ?_;rw[q2,Qw];rfl
 refine AB (q_ (Bf ([(0,WN W2)]) 10 (h:=AU 0 (h:=BS 1 (h:=AO 2 (h:=AJ 3 (h:=AU 4 (h:=BS 5 (h:=AO 6 (h:=AJ 7 (h:=?_)))))))))));refine BH 8 rfl (BC rfl rfl rfl rfl rfl rfl (by repeat constructor) (by repeat constructor) ?_);refine o_ (h:=?_);refine BH 9 rfl (BC rfl rfl rfl rfl rfl rfl (by repeat constructor) (by repeat constructor) ?_);refine o_ (h:=z_ (h:=t_ (A4 (?_))));refine Ai (r:=KR (CY s pid c)) none (h5:=?_) (h6:=⟨rfl,rfl,rfl⟩);rw[hrun.1,KR,HH,hrun.2];exact(by repeat (first|exact AA _|exact LeA.nil _|exact LeL.refl _|refine LeA.agg ?_|refine LeA.tup ?_|exact LeL.nil|refine LeL.cons ?_ ?_|exact LeA.any _))
theorem MX(s:Syst)(pid:Int)(c:Cal)(hv:SpcV s.spc)(hm:s.spc.mounts.length≤1000)(ht:TabB s.tab)(htn:Cu s.tab)(hcp:c.paths.length≤1000)(hca:c.args.length≤1000):AFn prog 49 [.agg (C2 s), .v (.int .i64 pid), .agg (DC c)] (fun r=>r=KR (CY s pid c)):=by
 rcases eW c.num with h|h
 ·exact f6 s pid c hv hm ht hcp hca h
 exact f8 s pid c hv hm ht htn hcp hca h
end
theorem GP:TabB DH:=⟨BV _,(fun p hp=>by cases hp),by decide,by decide⟩
theorem f9{t:Tab}(ht:TabB t)(pid:Int)(a:AQ)(fl:Int):TabB (Eb t pid a fl).1:=by
 unfold Eb;split
 ·exact GP
 split
 ·exact GP
 rename_i h8;refine⟨by simpa[Ff]using ht.few,fun p hp=>?_,ht.next,ht.nextS⟩;simp only[Ff,List.mem_map]at hp;obtain⟨x,hx,rfl⟩:=hp;split
 ·simp[L5];omega
 exact ht.opens x hx
theorem Vc{w:Wrk}{R:Tab×Int}(h:TabB w.s.tab)(hR:TabB R.1):TabB (C6 w R).1.s.tab:=by
 unfold C6;split
 ·exact hR
 exact h
theorem Qx(w:Wrk)(R:Tab×Int):(C6 w R).1.s.spc=w.s.spc:=by
 unfold C6;split<;>rfl
def Ew(ns:List Nod)(i:Int):Option Int:=(ns.find? fun n:Nod=>n.ino==i).map (·.kind)
def JN(f:Aj)(a:AQ):Option Int:=match EG f a.1 with
 |none=>none
 |some d=>Ew d.nodes a.2
theorem fA(f:Aj)(a:AQ):Ay f a=decide (JN f a=some 2):=by
 have key:∀o:Option Nod,(match o with|none=>false|some n=>n.kind==2)=decide (o.map (·.kind)=some 2):=by
  intro o
  cases o with
  |none=>rfl
  |some n=>by_cases h:n.kind=2<;>simp[h]
 unfold Ay JN CR
 cases EG f a.1 with
 |none=>rfl
 |some d=>exact key _
theorem OS{j:Int}{g:Nod→Nod}(hi:∀n,(g n).ino=n.ino)(hk:∀n,(g n).kind=n.kind)(i:Int):∀ns:List Nod,Ew (CW ns j g) i=Ew ns i
 |[]=>rfl
 |n::ns=>by
   have ih:=OS hi hk (j:=j) i ns;unfold Ew CW at ih ⊢;rw[List.map_cons,List.find?_cons,List.find?_cons];have e1:(if n.ino=j then g n else n).ino=n.ino:=by split<;>simp[hi]
   have e2:(if n.ino=j then g n else n).kind=n.kind:=by split<;>simp[hk]
   rw[e1]
   cases n.ino==i with
   |true=>simp[e2]
   |false=>exact ih
theorem Vd{ns:List Nod}{i j:Int}(h:i≠j):Ew (C0 ns j) i=Ew ns i:=by
 unfold Ew C0;rw[List.find?_filter]
 congr 2
 funext n
 by_cases e:n.ino=i
 ·subst e;simp[h]
 simp[e]
theorem KU(ns:List Nod)(p:Int)(name:AT)(ino i:Int):Ew (Bi ns p name ino) i=Ew ns i:=OS (g:=Kt name ino) (j:=p) (fun _=>rfl) (fun _=>rfl) i ns
theorem fB(ns:List Nod)(a p:Int)(b:Bool)(i:Int):Ew (Ho ns a p b) i=Ew ns i:=by
 unfold Ho;split
 ·exact OS (g:=fun n=>{n with parent:=p}) (j:=a) (fun _=>rfl) (fun _=>rfl) i ns
 rfl
theorem fC{ns:List Nod}{i k:Int}(h:Ew ns i=some k)(m:Nod):Ew (ns++[m]) i=some k:=by
 unfold Ew at h ⊢;rw[List.find?_append]
 cases e:ns.find? fun n:Nod=>n.ino==i with
 |none=>rw[e]at h;simp at h
 |some n=>rw[e]at h;simpa using h
theorem Ve{f:Aj}{q:Nat}{d d':Dvc}(hq:f[q]?=some d){a:AQ}{k:Int}(h:JN f a=some k)(hd:a.1=(q:Int)→Ew d.nodes a.2=some k→Ew d'.nodes a.2=some k):JN (f.set q d') a=some k:=by
 unfold JN at h ⊢;unfold EG at h ⊢;by_cases c:a.1<0
 ·rw[if_pos c]at h;cases h
 rw[if_neg c]at h ⊢;rw[List.getElem?_set];by_cases e:q=a.1.toNat
 ·subst e;have hl:=(At.1 hq).1;rw[if_pos rfl,if_pos hl];rw[hq]at h;exact hd (by omega) h
 rw[if_neg e];exact h
theorem OT{f:Aj}{q:Nat}{g:List Nod→List Nod}{a:AQ}{k:Int}(h:JN f a=some k)(hd:∀ns,a.1=(q:Int)→Ew ns a.2=some k→Ew (g ns) a.2=some k):JN (Fq f q g) a=some k:=by
 cases e:f[q]? with
 |none=>
   have:Fq f q g=f:=by
    unfold Fq;apply List.ext_getElem?;intro i;rw[List.getElem?_modify];by_cases c:q=i
    ·subst c;rw[e];rfl
    cases f[i]?<;>simp[c]
   rw[this];exact h
 |some d=>
   rw[GG e];exact Ve e h (hd d.nodes)
theorem MY{f g:Aj}{a:AQ}(h:Ay f a=true)(hk:JN f a=some 2→JN g a=some 2):Ay g a=true:=by
 rw[fA,decide_eq_true_iff]at h ⊢;exact hk h
theorem fD{f:Aj}{dir:AQ}{name:AT}{n:Nod}(h0:(Dq f dir name n).2.2=0){a:AQ}(h:Ay f a=true):Ay (Dq f dir name n).1 a=true:=by
 unfold Dq at h0 ⊢;split at h0
 ·rename_i c;exact absurd h0 c
 rename_i c1;rw[if_neg c1];split at h0
 ·exact absurd h0 (by decide)
 rename_i c2;rw[if_neg c2];split at h0
 ·exact absurd h0 (by decide)
 rename_i c3;rw[if_neg c3]
 cases e:EG f dir.1 with
 |none=>rw[e]at h0;exact absurd h0 (by simp)
 |some d=>
   rw[e]at h0;simp only at h0 ⊢;split at h0
   ·exact absurd h0 (by decide)
   rename_i c4;rw[if_neg c4]
   have hq:f[dir.1.toNat]?=some d:=by
    unfold EG at e;split at e
    ·cases e
    exact e
   refine MY h fun hk=>Ve hq hk fun _ hk=>fC ?_ _;rw[KU];exact hk
theorem fE{f:Aj}{dir:AQ}{name:AT}{b:AQ}(h0:(Dg f dir name b).2.2=0){a:AQ}(h:Ay f a=true):Ay (Dg f dir name b).1 a=true:=by
 revert h0;unfold Dg
 repeat' split
 all_goals first|exact fun h0=>absurd h0 (by assumption)|exact fun h0=>absurd h0 (by decide)|skip
 exact fun _=>MY h fun hk=>OT hk fun ns _ hn=>(KU ns dir.2 name b.2 a.2).trans hn
theorem Vf{f:Aj}{dir:AQ}{name:AT}{o:AQ}(ho:o.1=dir.1){a:AQ}(h:Ay f a=true)(hne:a≠o)(h0:0≤dir.1):Ay (Fq f dir.1.toNat fun ns=>C0 (Bi ns dir.2 name 0) o.2) a=true:=
 MY h fun hk=>OT hk fun ns ha hn=>by
  rw[Vd (fun e=>hne (Prod.ext (by rw[ha,ho];omega) e)),KU];exact hn
theorem Qy{f:Aj}{dir:AQ}{name:AT}(h:(AZ f dir name).2=0):(AZ f dir name).1.1=dir.1:=by
 unfold AZ at h ⊢;split
 ·rename_i e;rw[e]at h;exact absurd h (by simp)
 rename_i n e;rw[e]at h;simp only at h;split at h
 ·rename_i c;rw[if_pos c];split
  ·rename_i e2;rw[e2]at h;exact absurd h (by simp)
  rfl
 exact absurd h (by decide)
theorem Qz{f:Aj}{dir:AQ}{name:AT}(h:CC f dir name=0):0≤dir.1:=by
 unfold CC CR EG at h;by_cases c:dir.1<0
 ·rw[if_pos c]at h;exact absurd h (by simp)
 omega
theorem fF{f:Aj}{dir:AQ}{name:AT}(h0:(FR f dir name).2.2=0){a:AQ}(h:Ay f a=true):Ay (FR f dir name).1 a=true:=by
 unfold FR at h0 ⊢;split at h0
 ·rename_i c;exact absurd h0 c
 rename_i c1;rw[if_neg c1];split at h0
 ·rename_i c;exact absurd h0 c
 rename_i c2;rw[if_neg c2];split at h0
 ·exact absurd h0 (by decide)
 rename_i c3;rw[if_neg c3];exact Vf (Qy (by omega)) h (fun e=>c3 (by rw[←e];exact h)) (Qz (f:=f) (name:=name) (by omega))
theorem fG{f:Aj}{dir:AQ}{name:AT}(h0:(Ek f dir name).2.2=0){a:AQ}(h:Ay f a=true)(hne:a≠(AZ f dir name).1):Ay (Ek f dir name).1 a=true:=by
 unfold Ek at h0 ⊢;split at h0
 ·rename_i c;exact absurd h0 c
 rename_i c1;rw[if_neg c1];split at h0
 ·rename_i c;exact absurd h0 c
 rename_i c2;rw[if_neg c2];split at h0
 ·exact absurd h0 (by decide)
 rename_i c3;rw[if_neg c3];split at h0
 ·exact absurd h0 (by decide)
 rename_i c4;rw[if_neg c4];exact Vf (Qy (by omega)) h hne (Qz (f:=f) (name:=name) (by omega))
theorem fH{f:Aj}{b:AQ}{m u g:Int}(h0:(EL f b m u g).2=0){a:AQ}(h:Ay f a=true):Ay (EL f b m u g).1 a=true:=by
 unfold EL at h0 ⊢;split at h0
 ·exact absurd h0 (by decide)
 rename_i c1;rw[if_neg c1];split at h0
 ·exact absurd h0 (by decide)
 rename_i c2;rw[if_neg c2];exact MY h fun hk=>OT hk fun ns _ hn=>(OS (g:=EW m u g) (j:=b.2) (fun _=>rfl) (fun _=>rfl) a.2 ns).trans hn
theorem fJ{f:Aj}{src to:AQ}{name name2:AT}(h0:(EM f src name to name2).2.2=0){a:AQ}(h:Ay f a=true)
    (hne:(AZ f to name2).2=0→(AZ f to name2).1≠(AZ f src name).1→a≠(AZ f to name2).1):Ay (EM f src name to name2).1 a=true:=by
 unfold EM at h0 ⊢;split at h0
 ·rename_i c;exact absurd h0 c
 rename_i c1;rw[if_neg c1];split at h0
 ·rename_i c;exact absurd h0 c
 rename_i c2;rw[if_neg c2];split at h0
 ·exact absurd h0 (by decide)
 rename_i c3;rw[if_neg c3];split at h0
 ·exact absurd h0 (by decide)
 rename_i c4;rw[if_neg c4];split at h0
 ·rename_i c5;rw[if_pos c5];exact h
 rename_i c5;rw[if_neg c5];split at h0
 ·rename_i c;exact absurd h0 c
 rename_i c6;rw[if_neg c6];refine MY h fun hk=>?_;dsimp only;refine OT hk fun ns ha hn=>?_;rw[fB];unfold KK;split
 ·rename_i e0;have hd:=Qy e0;have hne':=hne e0 fun e=>c5 ⟨e0,e⟩;have hto:=Qz (QJ (f:=f) (x:=src) (y:=to) (name:=name) (name2:=name2) (by omega)).2;have hk2:a.2≠(AZ f to name2).1.2:=fun e=>hne' (Prod.ext (by rw[ha,hd];omega) e);rw[Vd hk2,KU,KU];exact hn
 rw[KU,KU];exact hn
theorem SpcV.keep{s:Spc}(hs:SpcV s){g:Aj}(hv:FlsV g)(hl:g.length=s.files.length)(hd:∀a,(D2 s a).isSome=true→Ay s.files a=true→Ay g a=true):SpcV ⟨g,s.mounts⟩:=by
 refine⟨hv,by show 0<g.length;rw[hl];exact hs.pos,fun i m hm=>?_⟩;have h:=hs.mnt i m hm;refine⟨h.dev1,by rw[hl];exact h.dev2,h.fresh,hd _ ?_ h.dir,h.there,h.free⟩;unfold D2;rw[Option.isSome_map,List.find?_isSome];exact⟨m,Aw hm,by simp⟩
structure SysV(s:Syst)(m:Nat):Prop where
 spc:SpcV s.spc
 few:s.spc.mounts.length≤m
 tab:TabB s.tab
 num:Cu s.tab
theorem SysV.mono{s:Syst}{m n:Nat}(h:SysV s m)(hm:m≤n):SysV s n:=⟨h.spc,Nat.le_trans h.few hm,h.tab,h.num⟩
def Du(w w':Syst):Prop:=∀m,SysV w m→SysV w' (m+1)
theorem LG{t:Tab}(ht:TabB t){p:Prc}(hp:p.opens.length≤8):TabB (Ff t p):=by
 refine⟨by simpa[Ff]using ht.few,fun q hq=>?_,ht.next,ht.nextS⟩;simp only[Ff,List.mem_map]at hq;obtain⟨x,hx,rfl⟩:=hq;split
 ·exact hp
 exact ht.opens x hx
theorem fK{t:Tab}(ht:TabB t)(pid:Int):TabB (Er t pid).1:=by
 unfold Er;split
 ·exact GP
 split
 ·exact GP
 rename_i c;refine⟨?_,fun q hq=>?_,?_,ht.nextS⟩
 ·show(t.ps++[_]).length≤16;rw[List.length_append,List.length_singleton];omega
 ·rcases List.mem_append.1 hq with hq|hq
  ·exact ht.opens q hq
  rw[List.mem_singleton]at hq;subst hq;exact G0 ht pid
 have:=ht.next;show t.next+1≤1073741824;omega
theorem Vg{t:Tab}(ht:TabB t)(pid:Int):TabB (Ft t pid).1:=by
 unfold Ft;split
 ·exact GP
 split
 ·exact GP
 refine⟨?_,fun q hq=>?_,ht.next,ht.nextS⟩
 ·show((t.ps.filter _).map _).length≤16;rw[List.length_map];exact Nat.le_trans (List.length_filter_le _ _) ht.few
 have hq:q∈(t.ps.filter fun p=>decide (p.pid≠pid)).map (Fs pid):=hq;rw[List.mem_map]at hq;obtain⟨x,hx,rfl⟩:=hq;have h8:=ht.opens x (List.mem_filter.1 hx).1;unfold Fs;split
 ·exact h8
 exact h8
theorem fL{t:Tab}(ht:TabB t)(pid u:Int):TabB (Fu t pid u).1:=by
 unfold Fu
 repeat' split
 all_goals first|exact GP|exact LG ht (G0 ht pid)
theorem fM{t:Tab}(ht:TabB t)(pid u:Int):TabB (Fv t pid u).1:=by
 unfold Fv
 repeat' split
 all_goals first|exact GP|exact LG ht (G0 ht pid)
theorem fN{t:Tab}(ht:TabB t)(pid u:Int):TabB (Ea t pid u).1:=by
 unfold Ea
 repeat' split
 all_goals first|exact GP|skip
 rename_i c;have h:=LG ht (p:={AY t pid with auid:=u,ses:=t.nextS}) (G0 ht pid);refine⟨h.few,h.opens,h.next,?_⟩;have:=ht.nextS;show t.nextS+1≤1073741824;omega
theorem fO{t:Tab}(ht:TabB t)(pid fd:Int):TabB (Gp t pid fd).1:=by
 unfold Gp
 repeat' split
 all_goals first|exact GP|skip
 exact LG ht (Nat.le_trans (List.length_filter_le _ _) (G0 ht pid))
theorem fP{t:Tab}(ht:TabB t)(pid:Int)(a:AQ):TabB (HB t pid a).1:=by
 unfold HB;split
 ·exact GP
 exact LG ht (G0 ht pid)
theorem fQ{t:Tab}(ht:TabB t)(pid:Int)(a b:AT):TabB (HC t pid a b).1:=by
 unfold HC;split
 ·exact GP
 exact LG ht (G0 ht pid)
theorem fR{t:Tab}(ht:TabB t)(pid target:Int)(b:Bool):TabB (Fg t pid target b).1:=by
 unfold Fg
 repeat' split
 all_goals first|exact GP|exact Vg ht _|exact ht
theorem Hz:Cu DH:=⟨Int.le_refl _,Int.le_refl _⟩
theorem fS{t:Tab}(ht:Cu t)(pid:Int):Cu (Er t pid).1:=by
 unfold Er
 repeat' split
 all_goals first|exact Hz|(have h1:=ht.1;have h2:=ht.2;exact⟨by show 0≤t.next+1;omega,h2⟩)
theorem Vh{t:Tab}(ht:Cu t)(pid:Int):Cu (Ft t pid).1:=by
 unfold Ft
 repeat' split
 all_goals first|exact Hz|exact ht
theorem fT{t:Tab}(ht:Cu t)(pid u:Int):Cu (Fu t pid u).1:=by
 unfold Fu
 repeat' split
 all_goals first|exact Hz|exact ht
theorem fU{t:Tab}(ht:Cu t)(pid u:Int):Cu (Fv t pid u).1:=by
 unfold Fv
 repeat' split
 all_goals first|exact Hz|exact ht
theorem fV{t:Tab}(ht:Cu t)(pid u:Int):Cu (Ea t pid u).1:=by
 unfold Ea
 repeat' split
 all_goals first|exact Hz|(have h1:=ht.1;have h2:=ht.2;exact⟨h1,by show 0≤t.nextS+1;omega⟩)
theorem fW{t:Tab}(ht:Cu t)(pid fd:Int):Cu (Gp t pid fd).1:=by
 unfold Gp
 repeat' split
 all_goals first|exact Hz|exact ht
theorem fX{t:Tab}(ht:Cu t)(pid:Int)(a:AQ):Cu (HB t pid a).1:=by
 unfold HB
 repeat' split
 all_goals first|exact Hz|exact ht
theorem fY{t:Tab}(ht:Cu t)(pid:Int)(a b:AT):Cu (HC t pid a b).1:=by
 unfold HC
 repeat' split
 all_goals first|exact Hz|exact ht
theorem fZ{t:Tab}(ht:Cu t)(pid target:Int)(b:Bool):Cu (Fg t pid target b).1:=by
 unfold Fg
 repeat' split
 all_goals first|exact Hz|exact Vh ht _|exact ht
theorem g7{t:Tab}(ht:Cu t)(pid:Int)(a:AQ)(fl:Int):Cu (Eb t pid a fl).1:=by
 unfold Eb
 repeat' split
 all_goals first|exact Hz|exact ht
theorem Vi{w:Wrk}{R:Tab×Int}(h:Cu w.s.tab)(hR:Cu R.1):Cu (C6 w R).1.s.tab:=by
 unfold C6;split
 ·exact hR
 exact h
theorem GQ(s:Syst):Du s s:=fun _ h=>h.mono (Nat.le_succ _)
theorem JO{w:Wrk}{R:Tab×Int}(hR:∀m,SysV w.s m→TabB R.1∧Cu R.1):Du w.s (C6 w R).1.s:=by
 intro m h;refine⟨by rw[Qx];exact h.spc,by rw[Qx];exact Nat.le_trans h.few (Nat.le_succ _),Vc h.tab (hR m h).1,Vi h.num (hR m h).2⟩
theorem LH{w:Wrk}{R:Dm}(hO:SpcV w.s.spc→KL w.s.spc.files R)(hd:R.2.2=0→SpcV w.s.spc→∀a,(D2 w.s.spc a).isSome=true→Ay w.s.spc.files a=true→Ay R.1 a=true):Du w.s (Bh w R).1.s:=by
 intro m h;unfold Bh;split
 ·rename_i h0;obtain⟨k1,k2⟩:=hO h.spc h0;exact⟨h.spc.keep k1 k2 (hd h0 h.spc),Nat.le_trans h.few (Nat.le_succ _),h.tab,h.num⟩
 exact h.mono (Nat.le_succ _)
theorem R3(w:Wrk)(i:Nat)(n:Nod):Du w.s (CT w i n).1.s:=by
 unfold CT;split
 ·rename_i h0;exact LH (w:=w) (R:=EE w i n) (fun h=>Tu h.files _ _ _) fun h0 _ a _ ha=>fD h0 ha
 exact GQ _
theorem g8(w:Wrk)(i:Nat)(n:Nod):(CT w i n).1.s.spc.mounts=w.s.spc.mounts:=by
 unfold CT;split
 ·show(Bh w _).1.s.spc.mounts=_;unfold Bh;split<;>rfl
 rfl
theorem Vj{w w':Wrk}(hw:Du w'.s w.s)(hmnt:w.s.spc.mounts=w'.s.spc.mounts)(a:AQ):Du w'.s (HG w a).1.s:=by
 intro m h;have h2:=hw m h;have hspc:(HG w a).1.s.spc=w.s.spc:=Qx _ _;refine⟨by rw[hspc];exact h2.spc,by rw[hspc,hmnt];exact Nat.le_trans h.few (Nat.le_succ _),?_,?_⟩
 ·unfold HG;exact Vc (w:=OC w _) h2.tab (f9 h2.tab _ _ _)
 unfold HG;exact Vi (w:=OC w _) h2.num (g7 h2.num _ _ _)
theorem g9(w:Wrk):Du w.s (CF w).1.s:=by
 unfold CF
 repeat' split
 all_goals first|exact GQ _|exact R3 w _ _|exact Vj (GQ _) rfl _|exact Vj (R3 w _ _) (g8 _ _ _) _
theorem gA(w:Wrk):Du w.s (EO w).1.s:=by
 unfold EO
 repeat' split
 all_goals first|exact GQ _|skip
 exact LH (w:=w) (R:=Dg w.s.spc.files _ _ _) (fun h=>Ts h.files _ _ _) fun h0 _ a _ ha=>fE h0 ha
theorem Vk{w:Wrk}{R:Dm}(h:Du w.s (Bh w R).1.s):Du w.s (GK w R).1.s:=by
 unfold GK;split
 ·exact GQ _
 exact h
theorem gB(w:Wrk):Du w.s (Dh w).1.s:=by
 unfold Dh
 repeat' split
 all_goals first|exact GQ _|skip
 ·exact Vk (LH (fun h=>Yx h.files _ _) fun h0 _ a _ ha=>fF h0 ha)
 rename_i c _;refine Vk (LH (fun h=>Yy h.files _ _) fun h0 _ a hc ha=>fG h0 ha ?_);rintro rfl;refine c ?_;unfold Fw;rw[hc];rfl
theorem gC{w:Wrk}{R:Dm}{x:AQ}(h:Du w.s (Bh w R).1.s):Du w.s (Hq w R x).1.s:=by
 unfold Hq
 repeat' split
 all_goals first|exact GQ _|exact h
theorem gD(w:Wrk):Du w.s (EP w).1.s:=by
 unfold EP
 repeat' split
 all_goals first|exact GQ _|skip
 rename_i c;refine gC (LH (fun h=>Tw h.files _ _ _ _) fun h0 _ a hc ha=>fJ h0 ha fun e1 e2 e3=>c ⟨e1,e2,?_,?_⟩)
 ·rw[←e3];exact ha
 rw[←e3];unfold Fw;rw[hc];rfl
theorem gE{w:Wrk}(b:AQ)(x y z:Int):Du w.s (Hr w (EL w.s.spc.files b x y z)).1.s:=by
 unfold Hr;exact LH (fun h=>Yz h.files _ _ _ _) fun h0 _ a _ ha=>fH h0 ha
theorem gF(w:Wrk):Du w.s (Ed w).1.s:=by
 unfold Ed
 repeat' split
 all_goals first|exact GQ _|exact gE _ _ _ _
theorem gG(w:Wrk)(dev:Int)(a:AQ):Du w.s (Hs w (DO w.s.spc dev a)).1.s:=by
 intro m h;unfold Hs;split
 ·rename_i h0;obtain⟨k1,k2⟩:=Z9 h.spc dev a h0;refine⟨k1,?_,h.tab,h.num⟩;show(DO w.s.spc dev a).1.mounts.length≤m+1;rw[k2];have:=h.few;simp only[List.length_append,List.length_singleton];omega
 exact h.mono (Nat.le_succ _)
theorem gH(w:Wrk)(dev:Int):Du w.s (Ht w (FS w.s.spc dev)).1.s:=by
 intro m h;unfold Ht;split
 ·rename_i h0;obtain⟨k1,k2⟩:=b7 h.spc dev h0;refine⟨k1,?_,h.tab,h.num⟩;show(FS w.s.spc dev).1.mounts.length≤m+1;rw[k2];exact Nat.le_trans (List.length_filter_le _ _) (Nat.le_trans h.few (Nat.le_succ _))
 exact h.mono (Nat.le_succ _)
theorem gJ(w:Wrk):Du w.s (D5 w).1.s:=by
 unfold D5
 repeat' split
 all_goals first|exact GQ _|exact gG w _ _|exact JO (fun m h=>⟨fQ h.tab _ _ _,fY h.num _ _ _⟩)|exact JO (fun m h=>⟨fP h.tab _ _,fX h.num _ _⟩)
theorem gK(w:Wrk):Du w.s (Ee w).1.s:=by
 unfold Ee
 repeat' split
 all_goals first|exact GQ _|exact R3 w _ _
theorem gL(w:Wrk):Du w.s (FE w).1.s:=by
 unfold FE
 repeat' split
 all_goals first|exact GQ _|exact gH w _
theorem gM(w:Wrk):Du w.s (Dt w).1.s:=by
 unfold Dt
 repeat' split
 all_goals first
  |exact GQ _
  |exact gL w
  |exact JO (w:=L9 w _) (R:=((Er w.s.tab w.p.pid).1,(Er w.s.tab w.p.pid).2.2)) (fun m h=>⟨fK h.tab _,fS h.num _⟩)
  |exact JO (fun m h=>⟨Vg h.tab _,Vh h.num _⟩)
  |exact JO (fun m h=>⟨fL h.tab _ _,fT h.num _ _⟩)
  |exact JO (fun m h=>⟨fM h.tab _ _,fU h.num _ _⟩)
  |exact JO (fun m h=>⟨fN h.tab _ _,fV h.num _ _⟩)
  |exact JO (fun m h=>⟨fO h.tab _ _,fW h.num _ _⟩)
  |exact JO (fun m h=>⟨fR h.tab _ _ _,fZ h.num _ _ _⟩)
theorem gN(w:Wrk):Du w.s (BY w).1.s:=by
 unfold BY
 repeat' split
 all_goals first|exact g9 w|exact gA w|exact gB w|exact gD w|exact gF w|exact gJ w|exact gK w|exact gM w
theorem OU{s:Syst}{m:Nat}(h:SysV s m)(pid:Int)(c:Cal):SysV (CY s pid c).1 (m+1):=by
 have ha:=gN (GL s pid c) m h;unfold CY
 repeat' split
 all_goals first|exact h.mono (Nat.le_succ _)|exact ha
theorem gO(a:AQ):TabB (ML a):=⟨by show(1:Nat)≤16;decide,fun p hp=>by
 simp only[ML,List.mem_singleton]at hp;subst hp
 exact BV _,by show(2:Int)≤1073741824;decide,by show(1:Int)≤1073741824;decide⟩
theorem gP(a:AQ):Cu (ML a):=⟨by show(0:Int)≤2;decide,by show(0:Int)≤1;decide⟩
theorem gQ{n:Int}(h1:1≤n)(h2:n≤3):SysV (KM n).1 0:=by
 unfold KM;have h:=Z8 h1 h2;split
 ·rename_i c;exfalso;refine c ?_;unfold Eh;split
  ·omega
  rfl
 exact⟨⟨h.1,h.2,fun i m hm=>by cases hm⟩,BV _,gO _,gP _⟩
theorem gR{a b:Nat}(h:a<b):Nat.blt a b=true:=by rw[Nat.blt_eq];exact h
theorem SetAt.sym{α:Type}{x:α}:∀{row:List α} {o:Nat},o<row.length→SetAt row o [x] (row.set o x)
 |[],_,h=>by simp at h
 |y::ys,0,_=>SetAt.here y x ys [] ys (SetAt.nil ys 0)
 |y::ys,o+1,h=>SetAt.there y x ys [] (ys.set o x) o (SetAt.sym (by simpa using h))
theorem gS(n:Int):0≤(By n).2.1∧(By n).2.1≤2∧0≤(By n).2.2.1∧(By n).2.2.1≤2∧0≤(By n).2.2.2.1∧(By n).2.2.2.1≤(By n).2.2.2.2∧(By n).2.2.2.2≤100:=by
 unfold By;split
 ·decide
 rename_i h;obtain⟨m,rfl⟩:=Int.eq_ofNat_of_zero_le (show 0≤n by omega);have hm:m<22:=by omega
 have key:∀m,m<22→0≤((ED[m]?).getD (⟨#[]⟩,0,0,0,0)).2.1∧((ED[m]?).getD (⟨#[]⟩,0,0,0,0)).2.1≤2∧0≤((ED[m]?).getD (⟨#[]⟩,0,0,0,0)).2.2.1∧((ED[m]?).getD (⟨#[]⟩,0,0,0,0)).2.2.1≤2∧0≤((ED[m]?).getD (⟨#[]⟩,0,0,0,0)).2.2.2.1∧((ED[m]?).getD (⟨#[]⟩,0,0,0,0)).2.2.2.1≤((ED[m]?).getD (⟨#[]⟩,0,0,0,0)).2.2.2.2∧((ED[m]?).getD (⟨#[]⟩,0,0,0,0)).2.2.2.2≤100:=by decide
 exact key m hm
def MZ(p:Prc)(c:Cal)(r:Res):List AV:=[.v (.int .i64 2), .v (.int .i64 p.pid), .v (.int .i64 p.ppid), .v (.int .i64 p.uid), .v (.int .i64 p.euid), .v (.int .i64 p.gid), .v (.int .i64 p.egid), .v (.int .i64 p.auid), .v (.int .i64 p.ses), .v (.int .i64 p.cwd.1), .v (.int .i64 p.cwd.2), .v (.string p.comm), .v (.string p.exe), .sl 4 (p.opens.map Eu) none, .v (.bool p.audited),
 .v (.int .i64 c.num), .v (.int .i64 c.a0), .v (.int .i64 c.a1), .v (.int .i64 c.a2), .v (.int .i64 c.a3), .sl 1 (c.paths.map Cj) none, .sl 1 (c.args.map Cj) none, .v (.int .i64 r.exit), .sl 13 (r.items.map Cf) none, .v (.int .i64 0)]
def gT:List AV:=[.v (.int .i64 0), .v (.int .i64 0), .v (.int .i64 0), .v (.int .i64 0), .v (.int .i64 0), .v (.int .i64 0), .v (.int .i64 0), .v (.int .i64 0), .v (.int .i64 0), .v (.int .i64 0), .v (.int .i64 0), .v (.string ⟨#[]⟩), .v (.string ⟨#[]⟩), .v (.slice none 0 0), .v (.bool false), .v (.int .i64 0), .v (.int .i64 0), .v (.int .i64 0), .v (.int .i64 0), .v (.int .i64 0), .v (.slice none 0 0), .v (.slice none 0 0), .v (.int .i64 0), .v (.slice none 0 0), .v (.int .i64 0)]
theorem gU(s:Syst)(pid:Int)(c:Cal):(CY s pid c).2.items.length≤c.paths.length:=by
 have hw:=(VC s pid c).2.2;have hz:(c.paths.zip (Ce c)).length≤c.paths.length:=by rw[List.length_zip];omega
 have h1:(Et s (AY s.tab pid) c).1.length≤c.paths.length:=by
  have:(GL s pid c).r.items=(Et s (AY s.tab pid) c).1:=rfl;rw[this]at hw;omega
 have h2:(BY (GL s pid c)).1.r.items.length≤c.paths.length:=by rw[Qw];omega
 unfold CY
 repeat' split
 all_goals first|exact BV _|exact h1|exact h2
section
theorem gV(n:Int):AFn prog 99 [.v (.int .i64 n)] (fun r=>r= .tup [.v (.int .i64 (By n).2.1), .v (.int .i64 (By n).2.2.1), .v (.int .i64 (By n).2.2.2.1), .v (.int .i64 (By n).2.2.2.2)]):=by
 refine enter Tryz.func99 rfl rfl rfl rfl rfl 0 rfl ?_;refine w_ (a_ (h:=a_ (h:=a_ (h:=a_ (h:=e_ (w_ (m_ (h:=?_))))))));refine A7 rfl (AG (Uj n) ?_);rintro r rfl;refine Al (h:=s_ (h:=e_ (q_ (Cp 12 (h:=AO 0 (h:=AJ 1 (h:=AO 2 (h:=AJ 3 (h:=AO 4 (h:=AJ 5 (h:=AO 6 (h:=AJ 7 (h:=BO 8 (h:=BO 9 (h:=BO 10 (h:=BO 11 (h:=z_ (h:=t_ (A4 (?_))))))))))))))))))));refine A9 ?_;rfl
theorem Ma(l:List Int)(a:Nat)(ha:a≤10000000000):GenF prog 51 l a [] 300 (fun r=>∃c:Cal,c.paths.length≤1000∧c.args.length≤1000∧r= .agg (DC c)):=by
 refine enter Tryz.func51 rfl rfl rfl rfl rfl 1 rfl ?_;refine w_ (Al (h:=e_ (w_ (m_ (h:=Bd (h:=?_))))));refine A7 rfl (BE 0 (hc:=El l _ _ (fun _=>true) (by omega) (by rfl) (by rfl) (by rfl)) (hR:=?_));rintro r a1 ha1 ⟨k1,rfl,p1⟩;refine⟨rfl,_,(by repeat constructor),?_⟩;refine Ak (h:=Al (h:=s_ (h:=e_ (w_ (f_ (h:=l_ (h:=?_)))))));refine A7 rfl (AG (gV _) ?_);rintro r rfl;obtain⟨q1,q2,q3,q4,q5,q6,q7⟩:=gS k1;generalize (By k1).2.1=la at q1 q2 q3 q4 q5 q6 q7 ⊢;generalize (By k1).2.2.1=lb at q1 q2 q3 q4 q5 q6 q7 ⊢;generalize (By k1).2.2.2.1=lc at q1 q2 q3 q4 q5 q6 q7 ⊢;generalize (By k1).2.2.2.2=ld at q1 q2 q3 q4 q5 q6 q7 ⊢;obtain⟨na,rfl⟩:=Int.eq_ofNat_of_zero_le q1;obtain⟨nb,rfl⟩:=Int.eq_ofNat_of_zero_le q3;refine m_ (h:=x_ (h:=x_ (h:=x_ (h:=x_ (h:=a_ (h:=a_ (h:=a_ (h:=a_ (h:=e_ (q_ (w_ (a_ (h:=e_ (Ag (?_)))))))))))))));refine Be (fun n s=>∃(j b1:Nat) (n0 y0 y1 y2 y3:Int),j≤na∧n=na - j∧b1≤a+1+j∧s=⟨look [(0, .bp 0 0),(2, .bp 1 0),(3, .bp 2 0),(4, .v (.int .i64 (na:Int))),(5, .v (.int .i64 (nb:Int))),(6, .v (.int .i64 lc)),(7, .v (.int .i64 ld)),(8, .v (.int .i64 (j:Int)))],⟨[DU l b1,[.v (.int .i64 0), .v (.int .i64 0), .v (.int .i64 0), .v (.int .i64 0), .v (.int .i64 0), .v (.slice none 0 0), .v (.slice none 0 0)],[.v (.int .i64 n0), .v (.int .i64 y0), .v (.int .i64 y1), .v (.int .i64 y2), .v (.int .i64 y3), .v (.slice none 0 0), .v (.slice none 0 0)]],[]⟩⟩) (na) ((wk 3 0)) (⟨0,_,_,_,_,_,_,by omega,rfl,by omega,rfl⟩) ?_;rintro n s ⟨j,b1,n0,y0,y1,y2,y3,hj,rfl,hb1,rfl⟩;refine q_ (w_ (m_ (h:=m_ (h:=BB (h:=e_ (?_))))));refine A8 rfl (fun hb1=>?_) (fun hb1=>?_)
 ·have hc1:=bp hb1;refine AB (q_ (Ag (AR (m_ (h:=m_ (h:=Bd (h:=?_)))))));refine A7 rfl (BE 0 (hc:=El l _ _ (fun _=>true) (by omega) (by rfl) (by rfl) (by rfl)) (hR:=?_));rintro r a2 ha2 ⟨k2,rfl,p2⟩;refine⟨rfl,_,(by repeat constructor),?_⟩;refine f_ (h:=?_);refine A7 rfl (BW (len:=4) (sz:=1) (n:=j) (by kernel_rfl) rfl rfl rfl (gR (by omega)) ?_);refine K1 (BC rfl rfl rfl rfl rfl rfl (SetAt.sym (by simp;omega)) (by repeat constructor) ?_);refine AP (Ah (t_ (AR (m_ (h:=BD (h:=a_ (h:=AP (?_))))))));refine AE ?_;have hj2:j=0∨j=1:=by omega
  rcases hj2 with rfl|rfl
  ·refine⟨_,_,?_,⟨1,_,_,_,_,_,_,by omega,rfl,?_,rfl⟩,(wk 3 0)⟩<;>omega
  refine⟨_,_,?_,⟨2,_,_,_,_,_,_,by omega,rfl,?_,rfl⟩,(wk 3 0)⟩<;>omega
 have hc1:=bp hb1;refine BT (Ao (Ao (BU (t_ (?_)))));refine BR (fun s=>∃(b2:Nat) (n1 x0 x1 x2 x3:Int),b2≤a+20∧s=⟨look [(0, .bp 0 0),(2, .bp 1 0),(3, .bp 2 0),(5, .v (.int .i64 (nb:Int))),(6, .v (.int .i64 lc)),(7, .v (.int .i64 ld))],⟨[DU l b2,[.v (.int .i64 0), .v (.int .i64 0), .v (.int .i64 0), .v (.int .i64 0), .v (.int .i64 0), .v (.slice none 0 0), .v (.slice none 0 0)],[.v (.int .i64 n1), .v (.int .i64 x0), .v (.int .i64 x1), .v (.int .i64 x2), .v (.int .i64 x3), .v (.slice none 0 0), .v (.slice none 0 0)]],[]⟩⟩) ?_ ?_
 ·skip
  refine w_ (f_ (h:=l_ (h:=e_ (Ag (w_ (AD (h:=a_ (h:=e_ (?_)))))))));refine A8 rfl (fun hb2=>?_) (fun hb2=>?_)
  ·have hc2:=bp hb2;refine AR (m_ (h:=Bd (h:=?_)));refine A7 rfl (BE 0 (hc:=El l _ _ (fun _=>true) (by omega) (by rfl) (by rfl) (by rfl)) (hR:=?_));rintro r a3 ha3 ⟨k3,rfl,p3⟩;refine⟨rfl,_,(by repeat constructor),?_⟩;refine m_ (h:=Bd (h:=?_));refine A7 rfl (BE 0 (hc:=El l _ _ (fun _=>true) (by omega) (by rfl) (by rfl) (by rfl)) (hR:=?_));rintro r a4 ha4 ⟨k4,rfl,p4⟩;refine⟨rfl,_,(by repeat constructor),?_⟩;refine Ak (h:=f_ (h:=s_ (h:=AP (Ah (?_)))));refine AE ?_;refine⟨_,⟨_,_,_,_,_,_,?_,rfl⟩,(wk 3 0)⟩<;>omega
  have hc2:=bp hb2;refine w_ (AD (h:=a_ (h:=e_ (?_))));refine A8 rfl (fun hb3=>?_) (fun hb3=>?_)
  ·have hc3:=bp hb3;refine AR (m_ (h:=Bd (h:=?_)));refine A7 rfl (BE 0 (hc:=El l _ _ (fun _=>true) (by omega) (by rfl) (by rfl) (by rfl)) (hR:=?_));rintro r a5 ha5 ⟨k5,rfl,p5⟩;refine⟨rfl,_,(by repeat constructor),?_⟩;refine f_ (h:=?_);refine A7 rfl (BW (len:=4) (sz:=1) (n:=0) (by kernel_rfl) rfl rfl rfl rfl ?_);refine s_ (h:=AP (Ah (?_)));refine AE ?_;refine⟨_,⟨_,_,_,_,_,_,?_,rfl⟩,(wk 3 0)⟩<;>omega
  have hc3:=bp hb3;refine q_ (w_ (AD (h:=a_ (h:=e_ (?_)))));refine A8 rfl (fun hb4=>?_) (fun hb4=>?_)
  ·have hc4:=bp hb4;refine AB (B8 (h:=AR (m_ (h:=?_))));refine A7 rfl (BE 0 (hc:=Gn l _ (3) (by omega) (by omega)) (hR:=?_));rintro r a6 ha6 ⟨k6,rfl,p6,q6,o6⟩;refine⟨rfl,_,(by repeat constructor),?_⟩;refine f_ (h:=?_);refine A7 rfl (BW (len:=4) (sz:=1) (n:=0) (by kernel_rfl) rfl rfl rfl rfl ?_);refine s_ (h:=AP (Ah (?_)));refine AE ?_;refine⟨_,⟨_,_,_,_,_,_,?_,rfl⟩,(wk 3 0)⟩<;>omega
  have hc4:=bp hb4;refine AR (AD (h:=a_ (h:=e_ (?_))));refine A8 rfl (fun hb5=>?_) (fun hb5=>?_)
  ·have hc5:=bp hb5;refine AR (m_ (h:=?_));refine A7 rfl (BE 0 (hc:=Gn l _ (3) (by omega) (by omega)) (hR:=?_));rintro r a7 ha7 ⟨k7,rfl,p7,q7,o7⟩;refine⟨rfl,_,(by repeat constructor),?_⟩;refine f_ (h:=?_);refine A7 rfl (BW (len:=4) (sz:=1) (n:=0) (by kernel_rfl) rfl rfl rfl rfl ?_);refine s_ (h:=AP (Ah (?_)));refine AE ?_;refine⟨_,⟨_,_,_,_,_,_,?_,rfl⟩,(wk 3 0)⟩<;>omega
  have hc5:=bp hb5;refine w_ (AD (h:=a_ (h:=e_ (?_))));refine A8 rfl (fun hb6=>?_) (fun hb6=>?_)
  ·have hc6:=bp hb6;refine AR (m_ (h:=?_));refine A7 rfl (BE 0 (hc:=DA l _ (1) (4) (by omega) (by omega) (by omega) (by omega)) (hR:=?_));rintro r a8 ha8 ⟨k8,rfl,p8,q8⟩;refine⟨rfl,_,(by repeat constructor),?_⟩;refine m_ (h:=Bd (h:=?_));refine A7 rfl (BE 0 (hc:=El l _ _ (fun _=>true) (by omega) (by rfl) (by rfl) (by rfl)) (hR:=?_));rintro r a9 ha9 ⟨k9,rfl,p9⟩;refine⟨rfl,_,(by repeat constructor),?_⟩;refine Ak (h:=f_ (h:=s_ (h:=AP (Ah (?_)))));refine AE ?_;refine⟨_,⟨_,_,_,_,_,_,?_,rfl⟩,(wk 3 0)⟩<;>omega
  have hc6:=bp hb6;refine Au (Ah (?_));refine AE ?_;refine⟨_,⟨_,_,_,_,_,_,?_,rfl⟩,(wk 3 0)⟩<;>omega
 rintro s ⟨b2,n1,x0,x1,x2,x3,hb2,rfl⟩;refine q_ (w_ (a_ (h:=e_ (Ag (?_)))));refine K4 2 5 9 1 rfl rfl (by repeat constructor) (by repeat constructor) (by repeat constructor) ?_;refine Be (fun n s=>∃(j b1:Nat) (ps:List AT),j≤nb∧n=nb - j∧b1≤b2+20 * j∧ps.length=j∧s=⟨look [(0, .bp 0 0),(2, .bp 1 0),(3, .bp 2 0),(5, .v (.int .i64 (nb:Int))),(6, .v (.int .i64 lc)),(7, .v (.int .i64 ld)),(9, .v (.int .i64 (j:Int)))],⟨[DU l b1,[.v (.int .i64 0), .v (.int .i64 0), .v (.int .i64 0), .v (.int .i64 0), .v (.int .i64 0), .v (.slice none 0 0), .v (.slice none 0 0)],[.v (.int .i64 n1), .v (.int .i64 x0), .v (.int .i64 x1), .v (.int .i64 x2), .v (.int .i64 x3), .sl 1 (ps.map Cj) (some 0), .v (.slice none 0 0)]],[(9,1,ps.map Cj)]⟩⟩) (nb) ((wk 3 1)) (⟨0,b2,[],by omega,rfl,by omega,by simp,rfl⟩) ?_;rintro n s ⟨j,b1,ps,hj,rfl,hb1,hps,rfl⟩;refine q_ (w_ (m_ (h:=m_ (h:=BB (h:=e_ (?_))))));refine A8 rfl (fun hb7=>?_) (fun hb7=>?_)
 ·have hc7:=bp hb7;refine AB (q_ (Ag (Bf ([(1,[.v (.int .i64 0), .v (.int .i64 0), .v (.int .i64 0), .v (.int .i64 0), .v (.int .i64 0), .v (.slice none 0 0), .v (.slice none 0 0)]),(2,[.v (.int .i64 n1), .v (.int .i64 x0), .v (.int .i64 x1), .v (.int .i64 x2), .v (.int .i64 x3), .sl 1 (ps.map Cj) (some 0), .v (.slice none 0 0)])]) 7 (h:=AO 0 (h:=AJ 1 (h:=AU 2 (h:=?_)))))));refine c_ 3 rfl (BE 0 (hc:=Z6 l _ (by omega)) (hR:=?_));rintro r a10 ha10 ⟨k10,rfl,p10⟩;refine⟨rfl,_,(by repeat constructor),?_⟩;refine o_ (h:=H0 4 (h:=?_))
  first|refine c_ 5 rfl (Dx rfl rfl rfl (by simp<;>omega) (by repeat constructor) ?_)|refine c_ 5 rfl (Dy rfl rfl (by simp<;>omega) (by repeat constructor) ?_)
  refine o_ (h:=AO 6 (h:=?_));refine BH 7 rfl (BC rfl rfl rfl rfl rfl rfl (by repeat constructor) (by repeat constructor) ?_);refine o_ (h:=z_ (h:=Ah (t_ (AR (m_ (h:=BD (h:=a_ (h:=AP (?_)))))))));refine AE ?_;refine⟨_,_,?_,⟨j+1,_,ps++[_],by omega,rfl,?_,?_,rfl⟩,(by rw[List.map_append];exact Av 3 1 rfl rfl rfl rfl ((by repeat (first|exact Sub.nil|refine Ax rfl rfl ?_|refine B1 ?_|refine B2 rfl ?_|refine B3 rfl ?_))))⟩
  ·omega
  ·omega
  simp;omega
 have hc7:=bp hb7;refine BT (Ao (Ao (BU (t_ (q_ (w_ (m_ (h:=m_ (h:=m_ (h:=?_))))))))));refine A7 rfl (BE 0 (hc:=DA l _ lc ld (by omega) (by omega) (by omega) (by omega)) (hR:=?_));rintro r a11 ha11 ⟨k0,rfl,p0,p1⟩;refine⟨rfl,_,(by repeat constructor),?_⟩;obtain⟨m,rfl⟩:=Int.eq_ofNat_of_zero_le (show 0≤k0 by omega);refine a_ (h:=e_ (Ag (?_)));refine K4 2 6 9 1 rfl rfl (by repeat constructor) (by repeat constructor) (by repeat constructor) ?_;refine Be (fun n s=>∃(j b3:Nat) (rs:List AT),j≤m∧n=j∧b3≤b1+1+(m - j)∧rs.length=m - j∧s=⟨look [(0, .bp 0 0),(2, .bp 1 0),(3, .bp 2 0),(10, .v (.int .i64 (j:Int)))],⟨[DU l b3,[.v (.int .i64 0), .v (.int .i64 0), .v (.int .i64 0), .v (.int .i64 0), .v (.int .i64 0), .v (.slice none 0 0), .v (.slice none 0 0)],[.v (.int .i64 n1), .v (.int .i64 x0), .v (.int .i64 x1), .v (.int .i64 x2), .v (.int .i64 x3), .sl 1 (ps.map Cj) (some 0), .sl 1 (rs.map Cj) (some 1)]],[(9,1,ps.map Cj),(9,1,rs.map Cj)]⟩⟩) (m) ((wk 3 2)) (⟨m,_,[],by omega,rfl,by omega,by simp,rfl⟩) ?_;rintro n s ⟨j,b3,rs,hj,hn,hb3,hrs,rfl⟩;subst n;refine q_ (w_ (m_ (h:=Bl (h:=e_ (?_)))));refine A8 rfl (fun hb8=>?_) (fun hb8=>?_)
 ·have hc8:=bp hb8;refine AB (q_ (Ag (Bf ([(1,[.v (.int .i64 0), .v (.int .i64 0), .v (.int .i64 0), .v (.int .i64 0), .v (.int .i64 0), .v (.slice none 0 0), .v (.slice none 0 0)]),(2,[.v (.int .i64 n1), .v (.int .i64 x0), .v (.int .i64 x1), .v (.int .i64 x2), .v (.int .i64 x3), .sl 1 (ps.map Cj) (some 0), .sl 1 (rs.map Cj) (some 1)])]) 8 (h:=AO 0 (h:=AJ 1 (h:=AU 2 (h:=H0 3 (h:=?_))))))));refine c_ 4 rfl (BE 0 (hc:=Jl l _ _ (fun _=>true) (by omega) (by rfl) (by rfl) (by rfl)) (hR:=?_));rintro r a12 ha12 ⟨k12,rfl,p12⟩;refine⟨rfl,_,(by repeat constructor),?_⟩;refine o_ (h:=H0 5 (h:=?_))
  first|refine c_ 6 rfl (Dx rfl rfl rfl (by simp<;>omega) (by repeat constructor) ?_)|refine c_ 6 rfl (Dy rfl rfl (by simp<;>omega) (by repeat constructor) ?_)
  refine o_ (h:=AO 7 (h:=?_));refine BH 8 rfl (BC rfl rfl rfl rfl rfl rfl (by repeat constructor) (by repeat constructor) ?_);refine o_ (h:=z_ (h:=Ah (t_ (AR (m_ (h:=Fd (h:=a_ (h:=AP (?_)))))))));refine AE ?_;obtain⟨j,rfl⟩:∃i,j=i+1:=⟨j - 1,by omega⟩;refine⟨_,_,?_,⟨j,_,rs++[_],by omega,rfl,?_,?_,rfl⟩,(by rw[List.map_append];exact Av 3 2 rfl rfl rfl rfl (by repeat (first|exact Sub.nil|refine Ax rfl rfl ?_|(apply Sub.of;(focus exact rfl);(focus exact LeA.of_eq (vi (by omega)));(focus exact rfl)))))⟩
  ·omega
  ·omega
  simp;omega
 have hc8:=bp hb8;refine BT (Ao (Ao (BU (t_ (?_)))));refine BR (fun S=>∃(b9:Nat) (n2 w0 w1 w2 w3:Int),b9≤a+300∧S=⟨look [(2, .bp 1 0),(3, .bp 2 0)],⟨[DU l b9,[.v (.int .i64 0), .v (.int .i64 0), .v (.int .i64 0), .v (.int .i64 0), .v (.int .i64 0), .v (.slice none 0 0), .v (.slice none 0 0)],[.v (.int .i64 n2), .v (.int .i64 w0), .v (.int .i64 w1), .v (.int .i64 w2), .v (.int .i64 w3), .sl 1 (ps.map Cj) (some 0), .sl 1 (rs.map Cj) (some 1)]],[(9,1,ps.map Cj),(9,1,rs.map Cj)]⟩⟩) ?_ ?_
 ·skip
  refine w_ (m_ (h:=?_));refine A7 rfl (BE 0 (hc:=Gn l _ (40) (by omega) (by omega)) (hR:=?_));rintro r a13 ha13 ⟨k13,rfl,p13,q13,o13⟩;refine⟨rfl,_,(by repeat constructor),?_⟩;refine AD (h:=e_ (?_));refine A8 rfl (fun hb9=>?_) (fun hb9=>?_)
  ·have hc9:=bp hb9;refine AR (m_ (h:=?_));refine A7 rfl (BE 0 (hc:=Gn l _ (2) (by omega) (by omega)) (hR:=?_));rintro r a14 ha14 ⟨k14,rfl,p14,q14,o14⟩;refine⟨rfl,_,(by repeat constructor),?_⟩;refine m_ (h:=?_);refine A7 rfl (BE 0 (hc:=DA l _ (-1) (33) (by omega) (by omega) (by omega) (by omega)) (hR:=?_));rintro r a15 ha15 ⟨k15,rfl,p15,q15⟩;refine⟨rfl,_,(by repeat constructor),?_⟩;refine f_ (h:=?_);refine A7 rfl (BW (len:=4) (sz:=1) (n:=3) (by kernel_rfl) rfl rfl rfl rfl ?_);refine s_ (h:=f_ (h:=s_ (h:=AP (?_))));refine AE ?_;refine⟨_,⟨_,_,_,_,_,_,?_,rfl⟩,(wk 3 2)⟩;omega
  have hc9:=bp hb9;refine Au (?_);refine AE ?_;refine⟨_,⟨_,_,_,_,_,_,?_,rfl⟩,(wk 3 2)⟩;omega
 rintro S ⟨b9,n2,w0,w1,w2,w3,hb9,rfl⟩;refine w_ (l_ (h:=s_ (h:=e_ (A4 (?_)))));refine Ai (r:= .agg (DC ⟨n2,w0,w1,w2,w3,ps,rs⟩)) none (h5:=?_) (h6:=⟨_,rfl,rfl,b9,by omega,rfl,⟨n2,w0,w1,w2,w3,ps,rs⟩,(by show ps.length≤1000;omega),(by show rs.length≤1000;omega),rfl⟩);exact LeA.agg (.cons (AA _) (.cons (AA _) (.cons (AA _) (.cons (AA _) (.cons (AA _) (.cons (LeA.tok _ _ _) (.cons (LeA.tok _ _ _) .nil)))))))
theorem OV(l:List Int)(a:Nat)(t:Tab)(ha:a≤10000000000)(ht:TabB t):GenF prog 50 l a [.agg (As t)] 3 (fun r=>∃p:Int,r= .v (.int .i64 p)):=by
 have hfew:=ht.few;have hpl:(t.ps.map Aq).length=t.ps.length:=List.length_map _;refine enter Tryz.func50 rfl rfl rfl rfl rfl 1 rfl ?_;refine w_ (b_ (h:=a_ (h:=e_ (q_ (?_)))));refine BR (fun S=>∃(b:Nat) (q:Bool),b≤a+1∧(q=false→0<t.ps.length)∧S=⟨look [(0, .bp 0 0),(3, .bp 1 0),(13, .v (.bool q))],⟨[DU l b,As t],[]⟩⟩) ?_ ?_
 ·skip
  refine AR (f_ (h:=l_ (h:=n_ (h:=AD (h:=m_ (h:=?_))))));refine AW false rfl rfl (fun hb1=>?_) (fun hb1=>?_)
  ·have hc1:=bp hb1;refine A3 (h:=A3 (h:=A3 (h:=AF (h:=AP (?_)))));refine AE ?_;refine⟨_,⟨_,_,?_,?_,rfl⟩,Av 2 0 rfl rfl rfl rfl ((by repeat (first|exact Sub.nil|refine Ax rfl rfl ?_|refine B1 ?_|refine B2 rfl ?_|refine B3 rfl ?_)))⟩
   ·omega
   intro q
   first|(cases q;done)|omega
  have hc1:=bp hb1;refine m_ (h:=?_);refine B4 (BE 0 (hc:=Gn l _ (24) (by omega) (by omega)) (hR:=?_));rintro r a1 ha1 ⟨k1,rfl,p1,q1,o1⟩;refine⟨rfl,_,(by repeat constructor),?_⟩;refine AD (h:=AM (h:=AP (?_)));refine AE ?_;refine⟨_,⟨_,_,?_,?_,rfl⟩,Av 2 0 rfl rfl rfl rfl ((by repeat (first|exact Sub.nil|refine Ax rfl rfl ?_|refine B1 ?_|refine B2 rfl ?_|refine B3 rfl ?_)))⟩
  ·omega
  intro q
  first|(cases q;done)|omega
 rintro S ⟨b,q,hb,hq,rfl⟩;refine A8 rfl (fun hb2=>?_) (fun hb2=>?_)
 ·have hc2:=bp hb2;refine w_ (m_ (h:=?_));refine A7 rfl (BE 0 (hc:=DA l _ (0) (9) (by omega) (by omega) (by omega) (by omega)) (hR:=?_));rintro r a2 ha2 ⟨k2,rfl,p2,q2⟩;refine⟨rfl,_,(by repeat constructor),?_⟩;refine a_ (h:=e_ (A4 (A6 (?_))));refine Ai none (h5:=(AA _)) (h6:=⟨_,rfl,rfl,_,?_,rfl,_,rfl⟩)<;>omega
 have hc2:=bp hb2;have hq0:0<t.ps.length:=hq (by assumption);refine AB (q_ (Bf ([(1,As t)]) 11 (h:=AO 0 (h:=AJ 1 (h:=AU 2 (h:=AO 3 (h:=AJ 4 (h:=Gz 5 (h:=?_)))))))));refine c_ 6 rfl (BE 0 (hc:=Gn l _ ((t.ps.map Aq).length:Int) (by omega) (by rw[hpl];omega)) (hR:=?_));rintro r a3 ha3 ⟨kn,rfl,p0,q0, -⟩;refine⟨rfl,_,(by repeat constructor),?_⟩;obtain⟨m,rfl⟩:=Int.eq_ofNat_of_zero_le p0;have hm:m<t.ps.length:=by have:=q0 (by rw[hpl];omega);rw[hpl]at this;omega
 obtain⟨x,hx⟩:∃x,t.ps[m]?=some x:=⟨_,BJ hm⟩;have hrow:(t.ps.map Aq)[m]?=some (Aq x):=by rw[List.getElem?_map,hx];rfl
 refine o_ (h:=?_);refine BF 7 rfl (fun _ hS=>Cl (n:=m) rfl rfl rfl hrow ⟨rfl,rfl⟩) ?_;refine AO 8 (h:=AJ 9 (h:=BO 10 (h:=z_ (h:=t_ (A4 (?_))))));refine Ai none (h5:=(AA _)) (h6:=⟨_,rfl,rfl,_,?_,rfl,_,rfl⟩)<;>omega
theorem gW(l:List Int)(a:Nat)(ha:a≤10000000):GenF prog 14 l a [] 6000 (fun r=>∃s,r= .agg (C2 s)∧SysV s 14):=by
 refine enter Tryz.func14 rfl rfl rfl rfl rfl 1 rfl ?_;refine w_ (Al (h:=e_ (w_ (m_ (h:=?_)))));refine A7 rfl (BE 0 (hc:=DA l _ (1) (3) (by omega) (by omega) (by omega) (by omega)) (hR:=?_));rintro r a1 ha1 ⟨k1,rfl,p1,q1⟩;refine⟨rfl,_,(by repeat constructor),?_⟩;refine A7 rfl (AG (bQ k1) ?_);rintro r rfl;refine m_ (h:=x_ (h:=x_ (h:=Al (h:=s_ (h:=a_ (h:=e_ (q_ (w_ (m_ (h:=?_))))))))));refine A7 rfl (BE 0 (hc:=DA l _ (3) (14) (by omega) (by omega) (by omega) (by omega)) (hR:=?_));rintro r a2 ha2 ⟨k2,rfl,p2,q2⟩;refine⟨rfl,_,(by repeat constructor),?_⟩;refine a_ (h:=e_ (Ag (?_)));have hs0:=gQ p1 q1;obtain⟨M,rfl⟩:=Int.eq_ofNat_of_zero_le (show 0≤k2 by omega);refine Be (fun n S=>∃(j b:Nat) (s:Syst),j≤M∧n=j∧b+400 * j≤a+2+400 * M∧SysV s (14 - j)∧S=⟨look [(0, .bp 0 0),(2, .bp 1 0),(3, .bp 2 0),(5, .v (.int .i64 (j:Int)))],⟨[DU l b,Fi,C2 s],[]⟩⟩) (M) ((wk 3 0)) (⟨M,_,_,BN _,rfl,by omega,hs0.mono (BV _),rfl⟩) ?_;rintro n S ⟨j,b,s,hj,rfl,hb,hs,rfl⟩;refine q_ (w_ (m_ (h:=Bl (h:=e_ (?_)))));refine A8 rfl (fun hb1=>?_) (fun hb1=>?_)
 ·have hc1:=bp hb1;refine AB (q_ (Ag (Bf ([(1,Fi)]) 12 (h:=AU 1 (h:=AO 2 (h:=AU 5 (h:=?_)))))));refine F6 0 3 rfl rfl ?_ ?_
  ·refine GV rfl rfl rfl ?_;refine o_ (h:=?_);refine c_ 3 rfl (JS rfl rfl rfl ?_);refine o_ (h:=?_);refine c_ 4 rfl (BE 0 (hc:=OV l _ s.tab (by omega) hs.tab) (hR:=?_));rintro r a3 ha3 ⟨pid,rfl⟩;refine⟨rfl,_,(by repeat constructor),?_⟩;refine o_ (h:=?_);refine c_ 6 rfl (BE 0 (hc:=Ma l _ (by omega)) (hR:=?_));rintro r a4 ha4 ⟨c,hcp,hca,rfl⟩;refine⟨rfl,_,(by repeat constructor),?_⟩;refine o_ (h:=?_);refine c_ 7 rfl (AG (MX s pid c hs.spc (by have:=hs.few;omega) hs.tab hs.num hcp hca) ?_);rintro r rfl;refine o_ (h:=AU 8 (h:=BX 9 (h:=BX 10 (h:=?_))));refine BH 11 rfl (BC rfl rfl rfl rfl rfl rfl (by repeat constructor) (by repeat constructor) ?_);refine o_ (h:=z_ (h:=Ah (t_ (AR (m_ (h:=?_))))));refine A7 rfl (JU rfl rfl (by omega) ?_);refine a_ (h:=AP (?_));refine AE ?_;refine⟨n - 1,_,by omega,⟨n - 1,_,(CY s pid c).1,by omega,rfl,?_,(OU hs pid c).mono (by omega),rfl⟩,(by rw[show((n - 1:Nat):Int)=(n:Int) - 1 by omega];exact Av 3 0 rfl rfl rfl rfl ((by repeat (first|exact Sub.nil|refine Ax rfl rfl ?_|refine B1 ?_|refine B2 rfl ?_|refine B3 rfl ?_))))⟩;omega
  refine JS rfl rfl rfl ?_;refine o_ (h:=?_);refine F6 0 4 rfl rfl ?_ ?_
  ·refine GV rfl rfl rfl ?_;refine o_ (h:=?_);refine c_ 4 rfl (BE 0 (hc:=OV l _ s.tab (by omega) hs.tab) (hR:=?_));rintro r a5 ha5 ⟨pid,rfl⟩;refine⟨rfl,_,(by repeat constructor),?_⟩;refine o_ (h:=?_);refine c_ 6 rfl (BE 0 (hc:=Ma l _ (by omega)) (hR:=?_));rintro r a6 ha6 ⟨c,hcp,hca,rfl⟩;refine⟨rfl,_,(by repeat constructor),?_⟩;refine o_ (h:=?_);refine c_ 7 rfl (AG (MX s pid c hs.spc (by have:=hs.few;omega) hs.tab hs.num hcp hca) ?_);rintro r rfl;refine o_ (h:=AU 8 (h:=BX 9 (h:=BX 10 (h:=?_))));refine BH 11 rfl (BC rfl rfl rfl rfl rfl rfl (by repeat constructor) (by repeat constructor) ?_);refine o_ (h:=z_ (h:=Ah (t_ (AR (m_ (h:=?_))))));refine A7 rfl (JU rfl rfl (by omega) ?_);refine a_ (h:=AP (?_));refine AE ?_;refine⟨n - 1,_,by omega,⟨n - 1,_,(CY s pid c).1,by omega,rfl,?_,(OU hs pid c).mono (by omega),rfl⟩,(by rw[show((n - 1:Nat):Int)=(n:Int) - 1 by omega];exact Av 3 0 rfl rfl rfl rfl ((by repeat (first|exact Sub.nil|refine Ax rfl rfl ?_|refine B1 ?_|refine B2 rfl ?_|refine B3 rfl ?_))))⟩;omega
  refine BE 0 (hc:=OV l _ s.tab (by omega) hs.tab) (hR:=?_);rintro r a7 ha7 ⟨pid,rfl⟩;refine⟨rfl,_,(by repeat constructor),?_⟩;refine o_ (h:=?_);refine F6 0 6 rfl rfl ?_ ?_
  ·refine GV rfl rfl rfl ?_;refine o_ (h:=?_);refine c_ 6 rfl (BE 0 (hc:=Ma l _ (by omega)) (hR:=?_));rintro r a8 ha8 ⟨c,hcp,hca,rfl⟩;refine⟨rfl,_,(by repeat constructor),?_⟩;refine o_ (h:=?_);refine c_ 7 rfl (AG (MX s pid c hs.spc (by have:=hs.few;omega) hs.tab hs.num hcp hca) ?_);rintro r rfl;refine o_ (h:=AU 8 (h:=BX 9 (h:=BX 10 (h:=?_))));refine BH 11 rfl (BC rfl rfl rfl rfl rfl rfl (by repeat constructor) (by repeat constructor) ?_);refine o_ (h:=z_ (h:=Ah (t_ (AR (m_ (h:=?_))))));refine A7 rfl (JU rfl rfl (by omega) ?_);refine a_ (h:=AP (?_));refine AE ?_;refine⟨n - 1,_,by omega,⟨n - 1,_,(CY s pid c).1,by omega,rfl,?_,(OU hs pid c).mono (by omega),rfl⟩,(by rw[show((n - 1:Nat):Int)=(n:Int) - 1 by omega];exact Av 3 0 rfl rfl rfl rfl ((by repeat (first|exact Sub.nil|refine Ax rfl rfl ?_|refine B1 ?_|refine B2 rfl ?_|refine B3 rfl ?_))))⟩;omega
  refine BE 0 (hc:=Ma l _ (by omega)) (hR:=?_);rintro r a9 ha9 ⟨c,hcp,hca,rfl⟩;refine⟨rfl,_,(by repeat constructor),?_⟩;refine o_ (h:=?_);refine c_ 0 rfl (GV rfl rfl rfl ?_);refine o_ (h:=?_);refine c_ 7 rfl (AG (MX s pid c hs.spc (by have:=hs.few;omega) hs.tab hs.num hcp hca) ?_);rintro r rfl;refine o_ (h:=AU 8 (h:=BX 9 (h:=BX 10 (h:=?_))));refine BH 11 rfl (BC rfl rfl rfl rfl rfl rfl (by repeat constructor) (by repeat constructor) ?_);refine o_ (h:=z_ (h:=Ah (t_ (AR (m_ (h:=?_))))));refine A7 rfl (JU rfl rfl (by omega) ?_);refine a_ (h:=AP (?_));refine AE ?_;refine⟨n - 1,_,by omega,⟨n - 1,_,(CY s pid c).1,by omega,rfl,?_,(OU hs pid c).mono (by omega),rfl⟩,(by rw[show((n - 1:Nat):Int)=(n:Int) - 1 by omega];exact Av 3 0 rfl rfl rfl rfl ((by repeat (first|exact Sub.nil|refine Ax rfl rfl ?_|refine B1 ?_|refine B2 rfl ?_|refine B3 rfl ?_))))⟩;omega
 have hc1:=bp hb1;refine BT (Ao (Ao (BU (t_ (w_ (l_ (h:=s_ (h:=e_ (A4 (?_))))))))));refine Ai none (h5:=(AA _)) (h6:=⟨_,rfl,rfl,b,by omega,rfl,s,rfl,hs.mono (by omega)⟩)
theorem gX(l:List Int)(a:Nat)(s:Syst)(ha:a≤100000000)(hs:SysV s 900):GenF prog 13 l a [.agg (C2 s)] 400 (fun r=>∃(pid:Int) (c:Cal) (p:Prc),c.paths.length≤1000∧c.args.length≤1000∧r= .tup [.agg (MZ p c (CY s pid c).2), .agg (C2 (CY s pid c).1), .agg (HH (CY s pid c).2)]):=by
 have hfew:=hs.tab.few;refine enter Tryz.func13 rfl rfl rfl rfl rfl 1 rfl ?_;refine w_ (b_ (h:=Al (h:=Al (h:=Al (h:=e_ (w_ (m_ (h:=f_ (h:=l_ (h:=?_))))))))));refine A7 rfl (BE 0 (hc:=OV l _ s.tab (by omega) hs.tab) (hR:=?_));rintro r a1 ha1 ⟨pid,rfl⟩;refine⟨rfl,_,(by repeat constructor),?_⟩;refine m_ (h:=?_);refine A7 rfl (BE 0 (hc:=Ma l _ (by omega)) (hR:=?_));rintro r a2 ha2 ⟨c,hcp,hca,rfl⟩;refine⟨rfl,_,(by repeat constructor),?_⟩;refine Al (h:=a_ (h:=s_ (h:=e_ (w_ (l_ (h:=m_ (h:=l_ (h:=?_))))))));refine A7 rfl (AG (MX s pid c hs.spc (by have:=hs.few;omega) hs.tab hs.num hcp hca) ?_);rintro r rfl;refine m_ (h:=x_ (h:=x_ (h:=Al (h:=Al (h:=s_ (h:=s_ (h:=e_ (w_ (l_ (h:=f_ (h:=l_ (h:=f_ (h:=l_ (h:=?_))))))))))))));refine A7 rfl (FJ (y:= .agg (MZ QZ c (CY s pid c).2)) (D8 ⟨rfl,rfl⟩) ?_);refine Al (h:=s_ (h:=e_ (q_ (w_ (a_ (h:=e_ (Ag (?_))))))));obtain⟨b1,hb1⟩:∃b,b=a2:=⟨_,rfl⟩;subst hb1;refine Be (fun n S=>∃(j:Nat) (p:Prc),j≤s.tab.ps.length∧n=s.tab.ps.length - j∧S=⟨look [(0, .bp 0 0),(3, .bp 1 0),(4, .bp 2 0),(5, .bp 3 0),(6, .bp 4 0),(7, .v (.int .i64 pid)),(9, .bp 6 0),(10, .bp 7 0),(11, .bp 8 0),(12, .v (.int .i64 (j:Int)))],⟨[DU l b1,C2 s,gT,Fi,GN,DC c,C2 (CY s pid c).1,HH (CY s pid c).2,MZ p c (CY s pid c).2],[]⟩⟩) (s.tab.ps.length) ((wk 9 0)) (⟨0,QZ,BV _,rfl,rfl⟩) ?_;rintro n S ⟨j,p,hj,rfl,rfl⟩;refine q_ (w_ (m_ (h:=f_ (h:=f_ (h:=l_ (h:=n_ (h:=BB (h:=e_ (?_)))))))));refine A8 rfl (fun hb1=>?_) (fun hb1=>?_)
 ·have hc1:=bp hb1;obtain⟨hlt,x,hy,hrow, -⟩:=C1 Aq hc1;refine AB (q_ (Ag (w_ (f_ (h:=f_ (h:=l_ (h:=m_ (h:=i_ (h:=f_ (h:=l_ (h:=m_ (h:=AD (h:=e_ (?_))))))))))))));refine A8 rfl (fun hb2=>?_) (fun hb2=>?_)
  ·have hc2:=bp hb2;refine AR (f_ (h:=f_ (h:=l_ (h:=m_ (h:=i_ (h:=l_ (h:=f_ (h:=s_ (h:=AP (Ah (t_ (AR (m_ (h:=BD (h:=a_ (h:=AP (?_)))))))))))))))));refine AE ?_
   first|exact⟨s.tab.ps.length - (j+1),_,by omega,⟨j+1,x,by omega,rfl,rfl⟩,Av 9 0 rfl rfl rfl rfl ((by repeat (first|exact Sub.nil|refine Ax rfl rfl ?_|refine B1 ?_|refine B2 rfl ?_|refine B3 rfl ?_)))⟩|exact⟨s.tab.ps.length - (j+1),_,by omega,⟨j+1,p,by omega,rfl,rfl⟩,Av 9 0 rfl rfl rfl rfl ((by repeat (first|exact Sub.nil|refine Ax rfl rfl ?_|refine B1 ?_|refine B2 rfl ?_|refine B3 rfl ?_)))⟩
  have hc2:=bp hb2;refine Au (Ah (t_ (AR (m_ (h:=BD (h:=a_ (h:=AP (?_))))))));refine AE ?_
  first|exact⟨s.tab.ps.length - (j+1),_,by omega,⟨j+1,x,by omega,rfl,rfl⟩,Av 9 0 rfl rfl rfl rfl ((by repeat (first|exact Sub.nil|refine Ax rfl rfl ?_|refine B1 ?_|refine B2 rfl ?_|refine B3 rfl ?_)))⟩|exact⟨s.tab.ps.length - (j+1),_,by omega,⟨j+1,p,by omega,rfl,rfl⟩,Av 9 0 rfl rfl rfl rfl ((by repeat (first|exact Sub.nil|refine Ax rfl rfl ?_|refine B1 ?_|refine B2 rfl ?_|refine B3 rfl ?_)))⟩
 have hc1:=bp hb1;refine BT (Ao (Ao (BU (t_ (q_ (Bf ([(0,DU l b1),(1,C2 s),(5,DC c),(6,C2 (CY s pid c).1),(7,HH (CY s pid c).2),(8,MZ p c (CY s pid c).2)]) 6 (h:=AJ 0 (h:=AJ 1 (h:=AJ 2 (h:=?_))))))))));refine BH 3 rfl (BC rfl rfl rfl rfl rfl rfl (by repeat constructor) (by repeat constructor) ?_);refine o_ (h:=?_);refine BH 4 rfl (BC rfl rfl rfl rfl rfl rfl (by repeat constructor) (by repeat constructor) ?_);refine o_ (h:=?_);refine BH 5 rfl (BC rfl rfl rfl rfl rfl rfl (by repeat constructor) (by repeat constructor) ?_);refine o_ (h:=z_ (h:=t_ (A4 (?_))));refine Ai none (h5:=(AA _)) (h6:=⟨_,rfl,rfl,_,?_,rfl,pid,c,p,hcp,hca,rfl⟩);omega
end
theorem gY(p:Prc)(c:Cal)(r:Res):∃(c':Ctx) (k':Cxs),MZ p c r=D4 c' k'∧c'.items.length=r.items.length:=
 ⟨⟨2,p.pid,p.ppid,p.uid,p.euid,p.gid,p.egid,p.auid,p.ses,p.cwd,p.comm,p.exe,p.audited,c.num,c.a0,c.a1,c.a2,c.a3,r.exit,r.items,0⟩,⟨p.opens.map Eu,c.paths.map Cj,c.args.map Cj⟩,rfl,rfl⟩
theorem gZ(l:List Int)(a:Nat)(s:Syst)(ha:a≤100000000)(hs:SysV s 900):GenF prog 13 l a [.agg (C2 s)] 400 (fun r=>∃(c:Ctx) (k:Cxs) (s1:Syst) (r1:Res),c.items.length≤1000∧r= .tup [.agg (D4 c k), .agg (C2 s1), .agg (HH r1)]):=
 (gX l a s ha hs).mono (BN _) fun r ⟨pid,c,p,hp,_,e⟩=>by
   obtain⟨c',k',e1,e2⟩:=gY p c (CY s pid c).2;exact⟨c',k',_,_,by rw[e2];exact Nat.le_trans (gU s pid c) hp,by rw[e,e1]⟩
def R4(k:Int)(j:Nat):Bool:=decide (Ef .i64 (Ja .i64 k (IntKind.u64.wrap (Int.tmod (j:Int) 60))) 1=1)
def R5(n:Nat)(k:Int):List Bool:=(List.range n).map (R4 k)
section
theorem Vl(n:Nat)(k:Int)(hn:n≤1000):AFn prog 17 [.v (.int .i64 (n:Int)), .v (.int .i64 k)] (fun r=>r= .sl 1 ((R5 n k).map Gf) none):=by
 refine enter Tryz.func17 rfl rfl rfl rfl rfl 0 rfl ?_;refine w_ (a_ (h:=e_ (w_ (a_ (h:=e_ (q_ (w_ (a_ (h:=e_ (Ag (?_)))))))))));refine Jv 5 4 1 rfl (by repeat constructor) ?_;refine Be (fun m s=>∃j:Nat,j≤n∧m=n - j∧s=⟨look [(0, .v (.int .i64 (n:Int))),(1, .v (.int .i64 k)),(5, .sl 1 (((List.range j).map (R4 k)).map Gf) (some 0)),(6, .v (.int .i64 (j:Int)))],⟨[],[(4,1,((List.range j).map (R4 k)).map Gf)]⟩⟩) (n) ((wk 0 1)) (⟨0,by omega,rfl,rfl⟩) ?_;rintro m s ⟨j,hj,rfl,rfl⟩;refine q_ (w_ (m_ (h:=m_ (h:=BB (h:=e_ (?_))))));refine A8 rfl (fun hb1=>?_) (fun hb1=>?_)
 ·have hc1:=bp hb1;refine AB (q_ (Ag (AR (m_ (h:=m_ (h:=m_ (h:=Wu (h:=?_))))))));refine A7 rfl (Jb rfl Tryz.underlying3 Tryz.underlying113 ?_);refine A7 rfl (Oz rfl rfl (MV _).1 ?_);refine DR (h:=AD (h:=Bd (h:=EU (h:=a_ (h:=AP (Ah (t_ (AR (m_ (h:=BD (h:=a_ (h:=AP (?_)))))))))))));refine AE ?_;refine⟨_,_,?_,⟨j+1,by omega,rfl,rfl⟩,(by rw[List.range_succ,List.map_append,List.map_append];exact(wk 0 1))⟩;omega
 have hc1:=bp hb1;obtain rfl:j=n:=by omega
 refine BT (Ao (Ao (BU (t_ (w_ (m_ (h:=a_ (h:=e_ (A4 (?_))))))))));refine A9 ?_;rfl
end
section
theorem hC(l:List Int)(bits:Int):AFn prog 3 [.sl 1 (l.map C9) none, .v (.int .i64 bits)] (fun r=>r= .v (.bool true)):=by
 refine enter Tryz.func3 rfl rfl rfl rfl rfl 0 rfl ?_;refine w_ (a_ (h:=e_ (w_ (m_ (h:=?_)))));refine A7 rfl (Wb rfl (by repeat (first|exact Args.nil|refine Args.cons _ _ _ _ _ rfl (Jz rfl) ?_|refine Args.cons _ _ _ _ _ rfl (Kf _) ?_|refine Args.cons _ _ _ _ _ rfl (Jy _) ?_|refine Args.cons _ _ _ _ _ rfl (Kg rfl (by repeat (first|exact AA _|exact LeA.nil _|exact LeL.refl _|refine LeA.agg ?_|refine LeA.tup ?_|exact LeL.nil|refine LeL.cons ?_ ?_|exact LeA.any _))) ?_)) rfl (Z5 l) (by repeat constructor) ?_)
 skip
 refine a_ (h:=e_ (w_ (m_ (h:=m_ (h:=?_)))));refine A7 rfl (BE 0 (hc:=gW l _ (by omega)) (hR:=?_));rintro r a1 ha1 ⟨s,rfl,hs⟩;refine⟨rfl,_,(by repeat constructor),?_⟩;refine A7 rfl (BE 0 (hc:=gZ l _ s (by omega) (hs.mono (by omega))) (hR:=?_));rintro r a2 ha2 ⟨c,k,s1,r1,hit,rfl⟩;refine⟨rfl,_,(by repeat constructor),?_⟩;refine m_ (h:=x_ (h:=x_ (h:=x_ (h:=Al (h:=Al (h:=Al (h:=s_ (h:=s_ (h:=s_ (h:=e_ (w_ (m_ (h:=?_)))))))))))));refine A7 rfl (BE 0 (hc:=dT l _ 10 (by omega) (by omega)) (hR:=?_));rintro r a3 ha3 ⟨L,hL,rfl⟩;refine⟨rfl,_,(by repeat constructor),?_⟩;have hl:=hL.len;have hl1:L.length≤1000:=by omega
 have ht:∀r∈L,r.tests.length≤1000:=fun r hr=>(hL.ins r hr).2.2.2;refine a_ (h:=e_ (q_ (Cp 19 (h:=AU 0 (h:=AU 1 (h:=Gz 2 (h:=AU 3 (h:=AJ 5 (h:=AU 7 (h:=AU 8 (h:=Gz 9 (h:=AU 10 (h:=AJ 12 (h:=?_))))))))))))));refine c_ 4 rfl (AG (Vl (L.map Az).length bits (by rw[List.length_map];exact hl1)) ?_);rintro r rfl;refine o_ (h:=?_);refine c_ 6 rfl (AG (PS L 3 (R5 (L.map Az).length bits) c k hl1 hit ht) ?_);rintro r rfl;refine o_ (h:=?_);refine c_ 11 rfl (AG (Vl (L.map Az).length bits (by rw[List.length_map];exact hl1)) ?_);rintro r rfl;refine o_ (h:=?_);refine c_ 13 rfl (AG (XL L 3 (R5 (L.map Az).length bits) c k hl1 hit ht) ?_);rintro r rfl;refine o_ (h:=H3 14 (h:=AU 15 (h:=?_)));refine G5 (j:=15) rfl (fun hb1=>?_) (fun hb1=>?_)
 ·have hc1:=bp hb1;refine c_ 16 rfl (AG (dL) ?_);rintro r rfl;refine o_ (h:=Fb 17 (h:=BO 18 (h:=z_ (h:=t_ (A4 (?_))))));refine A9 ?_
  first|rfl|(exfalso;first|contradiction|omega|(simp_all;done))
 have hc1:=bp hb1;simp at hc1
end
theorem RulesExecuted_walk{H:Type}{enc:TypeId×Value→H}{sp:Nat→Bool}{held:Bool}{base:Nat}(a:Option Addr)(n c:Nat)(k:Int)(w:World){d:DataW H}{p:List MemPlace}(h:DataW.Trod enc prog w base sp held 22 (.slice a n c) d p)(_: -9223372036854775808≤k)(_:k≤9223372036854775807):
    Calls prog 3 #[.slice a n c, .int .i64 k] w fun e w'=>e= .returned (.bool true)∧Below w.heap.size w w':=ZO [.int .i64 k] (fun l=>hC l k) a n c w h
end Go.Proofs.YtbgnigjfkbmceaaGreatDoor
