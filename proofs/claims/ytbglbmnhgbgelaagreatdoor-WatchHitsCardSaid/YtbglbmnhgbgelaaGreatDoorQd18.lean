/-
  Part 18 of the proof of WatchHitsP: what the statement's proof uses of the texts in wip/tpl.
-/
import Derived.Test.YtbglbmnhgbgelaaGreatDoorQd17
set_option maxRecDepth 10000
set_option maxHeartbeats 4000000
set_option linter.unusedVariables false
set_option linter.unusedSimpArgs false
namespace Go.Proofs.YtbglbmnhgbgelaaGreatDoor
open Go.RowKit
structure SysV(s:Syst)(m:Nat):Prop where
 spc:SpcV s.spc
 few:s.spc.mounts.length≤m
 tab:TabB s.tab
 num:Cx s.tab
theorem SysV.mono{s:Syst}{m n:Nat}(h:SysV s m)(hm:m≤n):SysV s n:=⟨h.spc,Nat.le_trans h.few hm,h.tab,h.num⟩
def Dx(w w':Syst):Prop:=∀m,SysV w m→SysV w' (m+1)
theorem LY{t:Tab}(ht:TabB t){p:Prc}(hp:p.opens.length≤8):TabB (FM t p):=by
 refine⟨by simpa[FM]using ht.few,fun q hq=>?_,ht.next,ht.nextS⟩
 simp only[FM,List.mem_map]at hq
 obtain⟨x,hx,rfl⟩:=hq
 split
 ·exact hp
 exact ht.opens x hx
theorem jA{t:Tab}(ht:TabB t)(pid:Int):TabB (Ef t pid).1:=by
 unfold Ef
 split
 ·exact GC
 split
 ·exact GC
 rename_i c
 refine⟨?_,fun q hq=>?_,?_,ht.nextS⟩
 ·show(t.ps++[_]).length≤16
  rw[List.length_append,List.length_singleton]
  omega
 ·rcases List.mem_append.1 hq with hq|hq
  ·exact ht.opens q hq
  rw[List.mem_singleton]at hq
  subst hq
  exact Fk ht pid
 have:=ht.next
 show t.next+1≤1073741824
 omega
theorem Wp{t:Tab}(ht:TabB t)(pid:Int):TabB (Fd t pid).1:=by
 unfold Fd
 split
 ·exact GC
 split
 ·exact GC
 refine⟨?_,fun q hq=>?_,ht.next,ht.nextS⟩
 ·show((t.ps.filter _).map _).length≤16
  rw[List.length_map]
  exact Nat.le_trans (List.length_filter_le _ _) ht.few
 have hq:q∈(t.ps.filter fun p=>decide (p.pid≠pid)).map (Fc pid):=hq
 rw[List.mem_map]at hq
 obtain⟨x,hx,rfl⟩:=hq
 have h8:=ht.opens x (List.mem_filter.1 hx).1
 unfold Fc
 split
 ·exact h8
 exact h8
theorem jB{t:Tab}(ht:TabB t)(pid u:Int):TabB (Fe t pid u).1:=by
 unfold Fe
 repeat' split
 all_goals first|exact GC|exact LY ht (Fk ht pid)
theorem jC{t:Tab}(ht:TabB t)(pid u:Int):TabB (Ff t pid u).1:=by
 unfold Ff
 repeat' split
 all_goals first|exact GC|exact LY ht (Fk ht pid)
theorem jD{t:Tab}(ht:TabB t)(pid u:Int):TabB (EY t pid u).1:=by
 unfold EY
 repeat' split
 all_goals first|exact GC|skip
 rename_i c
 have h:=LY ht (p:={AU t pid with auid:=u,ses:=t.nextS}) (Fk ht pid)
 refine⟨h.few,h.opens,h.next,?_⟩
 have:=ht.nextS
 show t.nextS+1≤1073741824
 omega
theorem jE{t:Tab}(ht:TabB t)(pid fd:Int):TabB (GU t pid fd).1:=by
 unfold GU
 repeat' split
 all_goals first|exact GC|skip
 exact LY ht (Nat.le_trans (List.length_filter_le _ _) (Fk ht pid))
theorem jF{t:Tab}(ht:TabB t)(pid:Int)(a:A9):TabB (Gx t pid a).1:=by
 unfold Gx
 split
 ·exact GC
 exact LY ht (Fk ht pid)
theorem jG{t:Tab}(ht:TabB t)(pid:Int)(a b:AG):TabB (Gy t pid a b).1:=by
 unfold Gy
 split
 ·exact GC
 exact LY ht (Fk ht pid)
theorem jH{t:Tab}(ht:TabB t)(pid target:Int)(b:Bool):TabB (FN t pid target b).1:=by
 unfold FN
 repeat' split
 all_goals first|exact GC|exact Wp ht _|exact ht
theorem Hu:Cx DH:=⟨Int.le_refl _,Int.le_refl _⟩
theorem jJ{t:Tab}(ht:Cx t)(pid:Int):Cx (Ef t pid).1:=by
 unfold Ef
 repeat' split
 all_goals first|exact Hu|(have h1:=ht.1;have h2:=ht.2;exact⟨by show 0≤t.next+1;omega,h2⟩)
theorem Wq{t:Tab}(ht:Cx t)(pid:Int):Cx (Fd t pid).1:=by
 unfold Fd
 repeat' split
 all_goals first|exact Hu|exact ht
theorem jK{t:Tab}(ht:Cx t)(pid u:Int):Cx (Fe t pid u).1:=by
 unfold Fe
 repeat' split
 all_goals first|exact Hu|exact ht
theorem jL{t:Tab}(ht:Cx t)(pid u:Int):Cx (Ff t pid u).1:=by
 unfold Ff
 repeat' split
 all_goals first|exact Hu|exact ht
theorem jM{t:Tab}(ht:Cx t)(pid u:Int):Cx (EY t pid u).1:=by
 unfold EY
 repeat' split
 all_goals first|exact Hu|(have h1:=ht.1;have h2:=ht.2;exact⟨h1,by show 0≤t.nextS+1;omega⟩)
theorem jN{t:Tab}(ht:Cx t)(pid fd:Int):Cx (GU t pid fd).1:=by
 unfold GU
 repeat' split
 all_goals first|exact Hu|exact ht
theorem jO{t:Tab}(ht:Cx t)(pid:Int)(a:A9):Cx (Gx t pid a).1:=by
 unfold Gx
 repeat' split
 all_goals first|exact Hu|exact ht
theorem jP{t:Tab}(ht:Cx t)(pid:Int)(a b:AG):Cx (Gy t pid a b).1:=by
 unfold Gy
 repeat' split
 all_goals first|exact Hu|exact ht
theorem jQ{t:Tab}(ht:Cx t)(pid target:Int)(b:Bool):Cx (FN t pid target b).1:=by
 unfold FN
 repeat' split
 all_goals first|exact Hu|exact Wq ht _|exact ht
theorem jR{t:Tab}(ht:Cx t)(pid:Int)(a:A9)(fl:Int):Cx (EZ t pid a fl).1:=by
 unfold EZ
 repeat' split
 all_goals first|exact Hu|exact ht
theorem Wr{w:Wrk}{R:Tab×Int}(h:Cx w.s.tab)(hR:Cx R.1):Cx (C4 w R).1.s.tab:=by
 unfold C4
 split
 ·exact hR
 exact h
theorem GD(s:Syst):Dx s s:=fun _ h=>h.mono (Nat.le_succ _)
theorem JN{w:Wrk}{R:Tab×Int}(hR:∀m,SysV w.s m→TabB R.1∧Cx R.1):Dx w.s (C4 w R).1.s:=by
 intro m h
 refine⟨by rw[Oi];exact h.spc,by rw[Oi];exact Nat.le_trans h.few (Nat.le_succ _),Rg h.tab (hR m h).1,Wr h.num (hR m h).2⟩
theorem LZ{w:Wrk}{R:DR}(hO:SpcV w.s.spc→JD w.s.spc.files R)(hd:R.2.2=0→SpcV w.s.spc→∀a,(Bo w.s.spc a).isSome=true→AY w.s.spc.files a=true→AY R.1 a=true):Dx w.s (BO w R).1.s:=by
 intro m h
 unfold BO
 split
 ·rename_i h0
  obtain⟨k1,k2⟩:=hO h.spc h0
  exact⟨h.spc.keep k1 k2 (hd h0 h.spc),Nat.le_trans h.few (Nat.le_succ _),h.tab,h.num⟩
 exact h.mono (Nat.le_succ _)
theorem Rk(w:Wrk)(i:Nat)(n:Nod):Dx w.s (CR w i n).1.s:=by
 unfold CR
 split
 ·rename_i h0
  exact LZ (w:=w) (R:=EB w i n) (fun h=>Qd h.files _ _ _) fun h0 _ a _ ha=>j4 h0 ha
 exact GD _
theorem jS(w:Wrk)(i:Nat)(n:Nod):(CR w i n).1.s.spc.mounts=w.s.spc.mounts:=by
 unfold CR
 split
 ·show(BO w _).1.s.spc.mounts=_
  unfold BO
  split<;>rfl
 rfl
theorem Ws{w w':Wrk}(hw:Dx w'.s w.s)(hmnt:w.s.spc.mounts=w'.s.spc.mounts)(a:A9):Dx w'.s (G7 w a).1.s:=by
 intro m h
 have h2:=hw m h
 have hspc:(G7 w a).1.s.spc=w.s.spc:=Oi _ _
 refine⟨by rw[hspc];exact h2.spc,by rw[hspc,hmnt];exact Nat.le_trans h.few (Nat.le_succ _),?_,?_⟩
 ·unfold G7
  exact Rg (w:=OT w _) h2.tab (We h2.tab _ _ _)
 unfold G7
 exact Wr (w:=OT w _) h2.num (jR h2.num _ _ _)
theorem jT(w:Wrk):Dx w.s (C9 w).1.s:=by
 unfold C9
 repeat' split
 all_goals first|exact GD _|exact Rk w _ _|exact Ws (GD _) rfl _|exact Ws (Rk w _ _) (jS _ _ _) _
theorem jU(w:Wrk):Dx w.s (EO w).1.s:=by
 unfold EO
 repeat' split
 all_goals first|exact GD _|skip
 exact LZ (w:=w) (R:=Dd w.s.spc.files _ _ _) (fun h=>UC h.files _ _ _) fun h0 _ a _ ha=>j5 h0 ha
theorem Wt{w:Wrk}{R:DR}(h:Dx w.s (BO w R).1.s):Dx w.s (G8 w R).1.s:=by
 unfold G8
 split
 ·exact GD _
 exact h
theorem jV(w:Wrk):Dx w.s (Df w).1.s:=by
 unfold Df
 repeat' split
 all_goals first|exact GD _|skip
 ·exact Wt (LZ (fun h=>Zj h.files _ _) fun h0 _ a _ ha=>j6 h0 ha)
 rename_i c _
 refine Wt (LZ (fun h=>Zk h.files _ _) fun h0 _ a hc ha=>j7 h0 ha ?_)
 rintro rfl
 refine c ?_
 unfold Fh
 rw[hc]
 rfl
theorem jW{w:Wrk}{R:DR}{x:A9}(h:Dx w.s (BO w R).1.s):Dx w.s (GZ w R x).1.s:=by
 unfold GZ
 repeat' split
 all_goals first|exact GD _|exact h
theorem jX(w:Wrk):Dx w.s (Dg w).1.s:=by
 unfold Dg
 repeat' split
 all_goals first|exact GD _|skip
 rename_i c
 refine jW (LZ (fun h=>Qe h.files _ _ _ _) fun h0 _ a hc ha=>j9 h0 ha fun e1 e2 e3=>c ⟨e1,e2,?_,?_⟩)
 ·rw[←e3];exact ha
 rw[←e3];unfold Fh;rw[hc];rfl
theorem jY{w:Wrk}(b:A9)(x y z:Int):Dx w.s (Hm w (EL w.s.spc.files b x y z)).1.s:=by
 unfold Hm
 exact LZ (fun h=>Zl h.files _ _ _ _) fun h0 _ a _ ha=>j8 h0 ha
theorem jZ(w:Wrk):Dx w.s (Ea w).1.s:=by
 unfold Ea
 repeat' split
 all_goals first|exact GD _|exact jY _ _ _ _
theorem kA(w:Wrk)(dev:Int)(a:A9):Dx w.s (Hn w (DN w.s.spc dev a)).1.s:=by
 intro m h
 unfold Hn
 split
 ·rename_i h0
  obtain⟨k1,k2⟩:=Zt h.spc dev a h0
  refine⟨k1,?_,h.tab,h.num⟩
  show(DN w.s.spc dev a).1.mounts.length≤m+1
  rw[k2]
  have:=h.few
  simp only[List.length_append,List.length_singleton]
  omega
 exact h.mono (Nat.le_succ _)
theorem kC(w:Wrk)(dev:Int):Dx w.s (Ho w (FD w.s.spc dev)).1.s:=by
 intro m h
 unfold Ho
 split
 ·rename_i h0
  obtain⟨k1,k2⟩:=dR h.spc dev h0
  refine⟨k1,?_,h.tab,h.num⟩
  show(FD w.s.spc dev).1.mounts.length≤m+1
  rw[k2]
  exact Nat.le_trans (List.length_filter_le _ _) (Nat.le_trans h.few (Nat.le_succ _))
 exact h.mono (Nat.le_succ _)
theorem kF(w:Wrk):Dx w.s (D9 w).1.s:=by
 unfold D9
 repeat' split
 all_goals first|exact GD _|exact kA w _ _|exact JN (fun m h=>⟨jG h.tab _ _ _,jP h.num _ _ _⟩)|exact JN (fun m h=>⟨jF h.tab _ _,jO h.num _ _⟩)
theorem kH(w:Wrk):Dx w.s (Eb w).1.s:=by
 unfold Eb
 repeat' split
 all_goals first|exact GD _|exact Rk w _ _
theorem kJ(w:Wrk):Dx w.s (Ey w).1.s:=by
 unfold Ey
 repeat' split
 all_goals first|exact GD _|exact kC w _
theorem kK(w:Wrk):Dx w.s (Dw w).1.s:=by
 unfold Dw
 repeat' split
 all_goals first
  |exact GD _
  |exact kJ w
  |exact JN (w:=LL w _) (R:=((Ef w.s.tab w.p.pid).1,(Ef w.s.tab w.p.pid).2.2)) (fun m h=>⟨jA h.tab _,jJ h.num _⟩)
  |exact JN (fun m h=>⟨Wp h.tab _,Wq h.num _⟩)
  |exact JN (fun m h=>⟨jB h.tab _ _,jK h.num _ _⟩)
  |exact JN (fun m h=>⟨jC h.tab _ _,jL h.num _ _⟩)
  |exact JN (fun m h=>⟨jD h.tab _ _,jM h.num _ _⟩)
  |exact JN (fun m h=>⟨jE h.tab _ _,jN h.num _ _⟩)
  |exact JN (fun m h=>⟨jH h.tab _ _ _,jQ h.num _ _ _⟩)
theorem kM(w:Wrk):Dx w.s (B9 w).1.s:=by
 unfold B9
 repeat' split
 all_goals first|exact jT w|exact jU w|exact jV w|exact jX w|exact jZ w|exact kF w|exact kH w|exact kK w
theorem Oo{s:Syst}{m:Nat}(h:SysV s m)(pid:Int)(c:Cal):SysV (Bh s pid c).1 (m+1):=by
 have ha:=kM (EC s pid c) m h
 unfold Bh
 repeat' split
 all_goals first|exact h.mono (Nat.le_succ _)|exact ha
theorem kO(a:A9):TabB (LD a):=⟨by show(1:Nat)≤16;decide,fun p hp=>by
 simp only[LD,List.mem_singleton]at hp
 subst hp
 exact Nat.zero_le _,by show(2:Int)≤1073741824;decide,by show(1:Int)≤1073741824;decide⟩
theorem kQ(a:A9):Cx (LD a):=⟨by show(0:Int)≤2;decide,by show(0:Int)≤1;decide⟩
theorem kT{n:Int}(h1:1≤n)(h2:n≤3):SysV (Ga n).1 0:=by
 unfold Ga
 have h:=UJ h1 h2
 split
 ·rename_i c
  exfalso
  refine c ?_
  unfold EU
  split
  ·omega
  rfl
 exact⟨⟨h.1,h.2,fun i m hm=>by cases hm⟩,Nat.zero_le _,kO _,kQ _⟩
theorem kU{a b:Nat}(h:a<b):Nat.blt a b=true:=by rw[Nat.blt_eq];exact h
theorem SetAt.sym{α:Type}{x:α}:∀{row:List α} {o:Nat},o<row.length→SetAt row o [x] (row.set o x)
 |[],_,h=>by simp at h
 |y::ys,0,_=>SetAt.here y x ys [] ys (SetAt.nil ys 0)
 |y::ys,o+1,h=>SetAt.there y x ys [] (ys.set o x) o (SetAt.sym (by simpa using h))
theorem kV(n:Int):0≤(Bj n).2.1∧(Bj n).2.1≤2∧0≤(Bj n).2.2.1∧(Bj n).2.2.1≤2∧0≤(Bj n).2.2.2.1∧(Bj n).2.2.2.1≤(Bj n).2.2.2.2∧(Bj n).2.2.2.2≤100:=by
 unfold Bj
 split
 ·decide
 rename_i h
 obtain⟨m,rfl⟩:=Int.eq_ofNat_of_zero_le (show 0≤n by omega)
 have hm:m<22:=by omega
 have key:∀m,m<22→0≤((EA[m]?).getD (⟨#[]⟩,0,0,0,0)).2.1∧((EA[m]?).getD (⟨#[]⟩,0,0,0,0)).2.1≤2∧0≤((EA[m]?).getD (⟨#[]⟩,0,0,0,0)).2.2.1∧((EA[m]?).getD (⟨#[]⟩,0,0,0,0)).2.2.1≤2∧0≤((EA[m]?).getD (⟨#[]⟩,0,0,0,0)).2.2.2.1∧((EA[m]?).getD (⟨#[]⟩,0,0,0,0)).2.2.2.1≤((EA[m]?).getD (⟨#[]⟩,0,0,0,0)).2.2.2.2∧((EA[m]?).getD (⟨#[]⟩,0,0,0,0)).2.2.2.2≤100:=by decide
 exact key m hm
def La(p:Prc)(c:Cal)(r:Res):List AV:=[.v (.int .i64 2), .v (.int .i64 p.pid), .v (.int .i64 p.ppid), .v (.int .i64 p.uid), .v (.int .i64 p.euid), .v (.int .i64 p.gid), .v (.int .i64 p.egid), .v (.int .i64 p.auid), .v (.int .i64 p.ses), .v (.int .i64 p.cwd.1), .v (.int .i64 p.cwd.2), .v (.string p.comm), .v (.string p.exe), .sl 4 (p.opens.map Ez) none, .v (.bool p.audited),
 .v (.int .i64 c.num), .v (.int .i64 c.a0), .v (.int .i64 c.a1), .v (.int .i64 c.a2), .v (.int .i64 c.a3), .sl 1 (c.paths.map Ct) none, .sl 1 (c.args.map Ct) none, .v (.int .i64 r.exit), .sl 13 (r.items.map BY) none, .v (.int .i64 0)]
def kX:List AV:=[.v (.int .i64 0), .v (.int .i64 0), .v (.int .i64 0), .v (.int .i64 0), .v (.int .i64 0), .v (.int .i64 0), .v (.int .i64 0), .v (.int .i64 0), .v (.int .i64 0), .v (.int .i64 0), .v (.int .i64 0), .v (.string ⟨#[]⟩), .v (.string ⟨#[]⟩), .v (.slice none 0 0), .v (.bool false), .v (.int .i64 0), .v (.int .i64 0), .v (.int .i64 0), .v (.int .i64 0), .v (.int .i64 0), .v (.slice none 0 0), .v (.slice none 0 0), .v (.int .i64 0), .v (.slice none 0 0), .v (.int .i64 0)]
theorem kY(s:Syst)(pid:Int)(c:Cal):(Bh s pid c).2.items.length≤c.paths.length:=by
 have hw:=(RS s pid c).2.2
 have hz:(c.paths.zip (C8 c)).length≤c.paths.length:=by rw[List.length_zip];omega
 have h1:(Dh s (AU s.tab pid) c).1.length≤c.paths.length:=by
  have:(EC s pid c).r.items=(Dh s (AU s.tab pid) c).1:=rfl
  rw[this]at hw
  omega
 have h2:(B9 (EC s pid c)).1.r.items.length≤c.paths.length:=by rw[Ra];omega
 unfold Bh
 repeat' split
 all_goals first|exact Nat.zero_le _|exact h1|exact h2
section
theorem kZ(n:Int):AFn Tryz.prog 69 [.v (.int .i64 n)] (fun r=>r= .tup [.v (.int .i64 (Bj n).2.1), .v (.int .i64 (Bj n).2.2.1), .v (.int .i64 (Bj n).2.2.2.1), .v (.int .i64 (Bj n).2.2.2.2)]):=by
 refine enter Tryz.func69 rfl rfl rfl rfl rfl 0 rfl ?_
 refine w_ (a_ (h:=a_ (h:=a_ (h:=a_ (h:=e_ (w_ (m_ (h:=?_))))))))
 refine A6 rfl (AK (VG n) ?_)
 rintro r rfl
 refine AW (h:=s_ (h:=e_ (q_ (DU 12 (h:=AE 0 (h:=AD 1 (h:=AE 2 (h:=AD 3 (h:=AE 4 (h:=AD 5 (h:=AE 6 (h:=AD 7 (h:=BB 8 (h:=BB 9 (h:=BB 10 (h:=BB 11 (h:=z_ (h:=t_ (A4 (?_))))))))))))))))))))
 refine AB ?_
 rfl
theorem N5(l:List Int)(a:Nat)(ha:a≤10000000000):FT Tryz.prog 37 l a [] 300 (fun r=>∃c:Cal,c.paths.length≤1000∧c.args.length≤1000∧r= .agg (DA c)):=by
 refine enter Tryz.func37 rfl rfl rfl rfl rfl 1 rfl ?_
 refine w_ (AW (h:=e_ (w_ (m_ (h:=Bk (h:=?_))))))
 refine A6 rfl (BU 0 (hc:=Hj l _ _ (fun _=>true) (by omega) (by rfl) (by rfl) (by rfl)) (hR:=?_))
 rintro r a1 ha1 ⟨k1,rfl,p1⟩
 refine⟨rfl,_,(by repeat constructor),?_⟩
 refine AT (h:=AW (h:=s_ (h:=e_ (w_ (f_ (h:=l_ (h:=?_)))))))
 refine A6 rfl (AK (kZ _) ?_)
 rintro r rfl
 obtain⟨q1,q2,q3,q4,q5,q6,q7⟩:=kV k1
 generalize (Bj k1).2.1=la at q1 q2 q3 q4 q5 q6 q7 ⊢
 generalize (Bj k1).2.2.1=lb at q1 q2 q3 q4 q5 q6 q7 ⊢
 generalize (Bj k1).2.2.2.1=lc at q1 q2 q3 q4 q5 q6 q7 ⊢
 generalize (Bj k1).2.2.2.2=ld at q1 q2 q3 q4 q5 q6 q7 ⊢
 obtain⟨na,rfl⟩:=Int.eq_ofNat_of_zero_le q1
 obtain⟨nb,rfl⟩:=Int.eq_ofNat_of_zero_le q3
 refine m_ (h:=x_ (h:=x_ (h:=x_ (h:=x_ (h:=a_ (h:=a_ (h:=a_ (h:=a_ (h:=e_ (q_ (w_ (a_ (h:=e_ (Am (?_)))))))))))))))
 refine Ba (fun n s=>∃(j b1:Nat) (n0 y0 y1 y2 y3:Int),j≤na∧n=na - j∧b1≤a+1+j∧s=⟨look [(0, .bp 0 0),(2, .bp 1 0),(3, .bp 2 0),(4, .v (.int .i64 (na:Int))),(5, .v (.int .i64 (nb:Int))),(6, .v (.int .i64 lc)),(7, .v (.int .i64 ld)),(8, .v (.int .i64 (j:Int)))],⟨[DQ l b1,[.v (.int .i64 0), .v (.int .i64 0), .v (.int .i64 0), .v (.int .i64 0), .v (.int .i64 0), .v (.slice none 0 0), .v (.slice none 0 0)],[.v (.int .i64 n0), .v (.int .i64 y0), .v (.int .i64 y1), .v (.int .i64 y2), .v (.int .i64 y3), .v (.slice none 0 0), .v (.slice none 0 0)]],[]⟩⟩) (na) ((wk 3 0)) (⟨0,_,_,_,_,_,_,by omega,rfl,by omega,rfl⟩) ?_
 rintro n s ⟨j,b1,n0,y0,y1,y2,y3,hj,rfl,hb1,rfl⟩
 refine q_ (w_ (m_ (h:=m_ (h:=BG (h:=e_ (?_))))))
 refine A8 rfl (fun hb1=>?_) (fun hb1=>?_)
 ·have hc1:=bp hb1
  refine AJ (q_ (Am (AP (m_ (h:=m_ (h:=Bk (h:=?_)))))))
  refine A6 rfl (BU 0 (hc:=Hj l _ _ (fun _=>true) (by omega) (by rfl) (by rfl) (by rfl)) (hR:=?_))
  rintro r a2 ha2 ⟨k2,rfl,p2⟩
  refine⟨rfl,_,(by repeat constructor),?_⟩
  refine f_ (h:=?_)
  refine A6 rfl (CG (len:=4) (sz:=1) (n:=j) (by kernel_rfl) rfl rfl rfl (kU (by omega)) ?_)
  refine K0 (Aw rfl rfl rfl rfl rfl rfl (SetAt.sym (by simp;omega)) (by repeat constructor) ?_)
  refine AO (Ax (t_ (AP (m_ (h:=B8 (h:=a_ (h:=AO (?_))))))))
  refine AF ?_
  have hj2:j=0∨j=1:=by omega
  rcases hj2 with rfl|rfl
  ·refine⟨_,_,?_,⟨1,_,_,_,_,_,_,by omega,rfl,?_,rfl⟩,(wk 3 0)⟩<;>omega
  refine⟨_,_,?_,⟨2,_,_,_,_,_,_,by omega,rfl,?_,rfl⟩,(wk 3 0)⟩<;>omega
 have hc1:=bp hb1
 refine BR (Aq (Aq (BS (t_ (?_)))))
 refine B5 (fun s=>∃(b2:Nat) (n1 x0 x1 x2 x3:Int),b2≤a+20∧s=⟨look [(0, .bp 0 0),(2, .bp 1 0),(3, .bp 2 0),(5, .v (.int .i64 (nb:Int))),(6, .v (.int .i64 lc)),(7, .v (.int .i64 ld))],⟨[DQ l b2,[.v (.int .i64 0), .v (.int .i64 0), .v (.int .i64 0), .v (.int .i64 0), .v (.int .i64 0), .v (.slice none 0 0), .v (.slice none 0 0)],[.v (.int .i64 n1), .v (.int .i64 x0), .v (.int .i64 x1), .v (.int .i64 x2), .v (.int .i64 x3), .v (.slice none 0 0), .v (.slice none 0 0)]],[]⟩⟩) ?_ ?_
 ·skip
  refine w_ (f_ (h:=l_ (h:=e_ (Am (w_ (AQ (h:=a_ (h:=e_ (?_)))))))))
  refine A8 rfl (fun hb2=>?_) (fun hb2=>?_)
  ·have hc2:=bp hb2
   refine AP (m_ (h:=Bk (h:=?_)))
   refine A6 rfl (BU 0 (hc:=Hj l _ _ (fun _=>true) (by omega) (by rfl) (by rfl) (by rfl)) (hR:=?_))
   rintro r a3 ha3 ⟨k3,rfl,p3⟩
   refine⟨rfl,_,(by repeat constructor),?_⟩
   refine m_ (h:=Bk (h:=?_))
   refine A6 rfl (BU 0 (hc:=Hj l _ _ (fun _=>true) (by omega) (by rfl) (by rfl) (by rfl)) (hR:=?_))
   rintro r a4 ha4 ⟨k4,rfl,p4⟩
   refine⟨rfl,_,(by repeat constructor),?_⟩
   refine AT (h:=f_ (h:=s_ (h:=AO (Ax (?_)))))
   refine AF ?_
   refine⟨_,⟨_,_,_,_,_,_,?_,rfl⟩,(wk 3 0)⟩<;>omega
  have hc2:=bp hb2
  refine w_ (AQ (h:=a_ (h:=e_ (?_))))
  refine A8 rfl (fun hb3=>?_) (fun hb3=>?_)
  ·have hc3:=bp hb3
   refine AP (m_ (h:=Bk (h:=?_)))
   refine A6 rfl (BU 0 (hc:=Hj l _ _ (fun _=>true) (by omega) (by rfl) (by rfl) (by rfl)) (hR:=?_))
   rintro r a5 ha5 ⟨k5,rfl,p5⟩
   refine⟨rfl,_,(by repeat constructor),?_⟩
   refine f_ (h:=?_)
   refine A6 rfl (CG (len:=4) (sz:=1) (n:=0) (by kernel_rfl) rfl rfl rfl rfl ?_)
   refine s_ (h:=AO (Ax (?_)))
   refine AF ?_
   refine⟨_,⟨_,_,_,_,_,_,?_,rfl⟩,(wk 3 0)⟩<;>omega
  have hc3:=bp hb3
  refine q_ (w_ (AQ (h:=a_ (h:=e_ (?_)))))
  refine A8 rfl (fun hb4=>?_) (fun hb4=>?_)
  ·have hc4:=bp hb4
   refine AJ (Bm (h:=AP (m_ (h:=?_))))
   refine A6 rfl (BU 0 (hc:=Gn l _ (3) (by omega) (by omega)) (hR:=?_))
   rintro r a6 ha6 ⟨k6,rfl,p6,q6,o6⟩
   refine⟨rfl,_,(by repeat constructor),?_⟩
   refine f_ (h:=?_)
   refine A6 rfl (CG (len:=4) (sz:=1) (n:=0) (by kernel_rfl) rfl rfl rfl rfl ?_)
   refine s_ (h:=AO (Ax (?_)))
   refine AF ?_
   refine⟨_,⟨_,_,_,_,_,_,?_,rfl⟩,(wk 3 0)⟩<;>omega
  have hc4:=bp hb4
  refine AP (AQ (h:=a_ (h:=e_ (?_))))
  refine A8 rfl (fun hb5=>?_) (fun hb5=>?_)
  ·have hc5:=bp hb5
   refine AP (m_ (h:=?_))
   refine A6 rfl (BU 0 (hc:=Gn l _ (3) (by omega) (by omega)) (hR:=?_))
   rintro r a7 ha7 ⟨k7,rfl,p7,q7,o7⟩
   refine⟨rfl,_,(by repeat constructor),?_⟩
   refine f_ (h:=?_)
   refine A6 rfl (CG (len:=4) (sz:=1) (n:=0) (by kernel_rfl) rfl rfl rfl rfl ?_)
   refine s_ (h:=AO (Ax (?_)))
   refine AF ?_
   refine⟨_,⟨_,_,_,_,_,_,?_,rfl⟩,(wk 3 0)⟩<;>omega
  have hc5:=bp hb5
  refine w_ (AQ (h:=a_ (h:=e_ (?_))))
  refine A8 rfl (fun hb6=>?_) (fun hb6=>?_)
  ·have hc6:=bp hb6
   refine AP (m_ (h:=?_))
   refine A6 rfl (BU 0 (hc:=Hi l _ (1) (4) (by omega) (by omega) (by omega) (by omega)) (hR:=?_))
   rintro r a8 ha8 ⟨k8,rfl,p8,q8⟩
   refine⟨rfl,_,(by repeat constructor),?_⟩
   refine m_ (h:=Bk (h:=?_))
   refine A6 rfl (BU 0 (hc:=Hj l _ _ (fun _=>true) (by omega) (by rfl) (by rfl) (by rfl)) (hR:=?_))
   rintro r a9 ha9 ⟨k9,rfl,p9⟩
   refine⟨rfl,_,(by repeat constructor),?_⟩
   refine AT (h:=f_ (h:=s_ (h:=AO (Ax (?_)))))
   refine AF ?_
   refine⟨_,⟨_,_,_,_,_,_,?_,rfl⟩,(wk 3 0)⟩<;>omega
  have hc6:=bp hb6
  refine BA (Ax (?_))
  refine AF ?_
  refine⟨_,⟨_,_,_,_,_,_,?_,rfl⟩,(wk 3 0)⟩<;>omega
 rintro s ⟨b2,n1,x0,x1,x2,x3,hb2,rfl⟩
 refine q_ (w_ (a_ (h:=e_ (Am (?_)))))
 refine Ko 2 5 9 1 rfl rfl (by repeat constructor) (by repeat constructor) (by repeat constructor) ?_
 refine Ba (fun n s=>∃(j b1:Nat) (ps:List AG),j≤nb∧n=nb - j∧b1≤b2+20 * j∧ps.length=j∧s=⟨look [(0, .bp 0 0),(2, .bp 1 0),(3, .bp 2 0),(5, .v (.int .i64 (nb:Int))),(6, .v (.int .i64 lc)),(7, .v (.int .i64 ld)),(9, .v (.int .i64 (j:Int)))],⟨[DQ l b1,[.v (.int .i64 0), .v (.int .i64 0), .v (.int .i64 0), .v (.int .i64 0), .v (.int .i64 0), .v (.slice none 0 0), .v (.slice none 0 0)],[.v (.int .i64 n1), .v (.int .i64 x0), .v (.int .i64 x1), .v (.int .i64 x2), .v (.int .i64 x3), .sl 1 (ps.map Ct) (some 0), .v (.slice none 0 0)]],[(9,1,ps.map Ct)]⟩⟩) (nb) ((wk 3 1)) (⟨0,b2,[],by omega,rfl,by omega,by simp,rfl⟩) ?_
 rintro n s ⟨j,b1,ps,hj,rfl,hb1,hps,rfl⟩
 refine q_ (w_ (m_ (h:=m_ (h:=BG (h:=e_ (?_))))))
 refine A8 rfl (fun hb7=>?_) (fun hb7=>?_)
 ·have hc7:=bp hb7
  refine AJ (q_ (Am (BF ([(1,[.v (.int .i64 0), .v (.int .i64 0), .v (.int .i64 0), .v (.int .i64 0), .v (.int .i64 0), .v (.slice none 0 0), .v (.slice none 0 0)]),(2,[.v (.int .i64 n1), .v (.int .i64 x0), .v (.int .i64 x1), .v (.int .i64 x2), .v (.int .i64 x3), .sl 1 (ps.map Ct) (some 0), .v (.slice none 0 0)])]) 7 (h:=AE 0 (h:=AD 1 (h:=AN 2 (h:=?_)))))))
  refine c_ 3 rfl (BU 0 (hc:=UH l _ (by omega)) (hR:=?_))
  rintro r a10 ha10 ⟨k10,rfl,p10⟩
  refine⟨rfl,_,(by repeat constructor),?_⟩
  refine o_ (h:=Hz 4 (h:=?_))
  refine c_ 5 rfl (Dz rfl rfl rfl (by simp<;>omega) (by repeat constructor) ?_)
  refine o_ (h:=AE 6 (h:=?_))
  refine Az 7 rfl (Aw rfl rfl rfl rfl rfl rfl (by repeat constructor) (by repeat constructor) ?_)
  refine o_ (h:=z_ (h:=Ax (t_ (AP (m_ (h:=B8 (h:=a_ (h:=AO (?_)))))))))
  refine AF ?_
  refine⟨_,_,?_,⟨j+1,_,ps++[_],by omega,rfl,?_,?_,rfl⟩,(by rw[List.map_append];exact B1 3 1 rfl rfl rfl rfl ((by repeat (first|exact Sub.nil|refine Sub.cons _ _ _ rfl rfl ?_|refine Sub.any _ _ ?_|refine Sub.sl _ _ _ _ _ rfl ?_|refine Sub.slnil _ _ _ rfl ?_))))⟩
  ·omega
  ·omega
  simp;omega
 have hc7:=bp hb7
 refine BR (Aq (Aq (BS (t_ (q_ (w_ (m_ (h:=m_ (h:=m_ (h:=?_))))))))))
 refine A6 rfl (BU 0 (hc:=Hi l _ lc ld (by omega) (by omega) (by omega) (by omega)) (hR:=?_))
 rintro r a11 ha11 ⟨k0,rfl,p0,p1⟩
 refine⟨rfl,_,(by repeat constructor),?_⟩
 obtain⟨m,rfl⟩:=Int.eq_ofNat_of_zero_le (show 0≤k0 by omega)
 refine a_ (h:=e_ (Am (?_)))
 refine Ko 2 6 9 1 rfl rfl (by repeat constructor) (by repeat constructor) (by repeat constructor) ?_
 refine Ba (fun n s=>∃(j b3:Nat) (rs:List AG),j≤m∧n=j∧b3≤b1+1+(m - j)∧rs.length=m - j∧s=⟨look [(0, .bp 0 0),(2, .bp 1 0),(3, .bp 2 0),(10, .v (.int .i64 (j:Int)))],⟨[DQ l b3,[.v (.int .i64 0), .v (.int .i64 0), .v (.int .i64 0), .v (.int .i64 0), .v (.int .i64 0), .v (.slice none 0 0), .v (.slice none 0 0)],[.v (.int .i64 n1), .v (.int .i64 x0), .v (.int .i64 x1), .v (.int .i64 x2), .v (.int .i64 x3), .sl 1 (ps.map Ct) (some 0), .sl 1 (rs.map Ct) (some 1)]],[(9,1,ps.map Ct),(9,1,rs.map Ct)]⟩⟩) (m) ((wk 3 2)) (⟨m,_,[],by omega,rfl,by omega,by simp,rfl⟩) ?_
 rintro n s ⟨j,b3,rs,hj,hn,hb3,hrs,rfl⟩
 subst n
 refine q_ (w_ (m_ (h:=CW (h:=e_ (?_)))))
 refine A8 rfl (fun hb8=>?_) (fun hb8=>?_)
 ·have hc8:=bp hb8
  refine AJ (q_ (Am (BF ([(1,[.v (.int .i64 0), .v (.int .i64 0), .v (.int .i64 0), .v (.int .i64 0), .v (.int .i64 0), .v (.slice none 0 0), .v (.slice none 0 0)]),(2,[.v (.int .i64 n1), .v (.int .i64 x0), .v (.int .i64 x1), .v (.int .i64 x2), .v (.int .i64 x3), .sl 1 (ps.map Ct) (some 0), .sl 1 (rs.map Ct) (some 1)])]) 8 (h:=AE 0 (h:=AD 1 (h:=AN 2 (h:=Hz 3 (h:=?_))))))))
  refine c_ 4 rfl (BU 0 (hc:=L8 l _ _ (fun _=>true) (by omega) (by rfl) (by rfl) (by rfl)) (hR:=?_))
  rintro r a12 ha12 ⟨k12,rfl,p12⟩
  refine⟨rfl,_,(by repeat constructor),?_⟩
  refine o_ (h:=Hz 5 (h:=?_))
  refine c_ 6 rfl (Dz rfl rfl rfl (by simp<;>omega) (by repeat constructor) ?_)
  refine o_ (h:=AE 7 (h:=?_))
  refine Az 8 rfl (Aw rfl rfl rfl rfl rfl rfl (by repeat constructor) (by repeat constructor) ?_)
  refine o_ (h:=z_ (h:=Ax (t_ (AP (m_ (h:=Nr (h:=a_ (h:=AO (?_)))))))))
  refine AF ?_
  obtain⟨j,rfl⟩:∃i,j=i+1:=⟨j - 1,by omega⟩
  refine⟨_,_,?_,⟨j,_,rs++[_],by omega,rfl,?_,?_,rfl⟩,(by rw[List.map_append];exact B1 3 2 rfl rfl rfl rfl (by repeat (first|exact Sub.nil|refine Sub.cons _ _ _ rfl rfl ?_|(apply Sub.of;(focus exact rfl);(focus exact LeA.of_eq (vi (by omega)));(focus exact rfl)))))⟩
  ·omega
  ·omega
  simp;omega
 have hc8:=bp hb8
 refine BR (Aq (Aq (BS (t_ (?_)))))
 refine B5 (fun S=>∃(b9:Nat) (n2 w0 w1 w2 w3:Int),b9≤a+300∧S=⟨look [(2, .bp 1 0),(3, .bp 2 0)],⟨[DQ l b9,[.v (.int .i64 0), .v (.int .i64 0), .v (.int .i64 0), .v (.int .i64 0), .v (.int .i64 0), .v (.slice none 0 0), .v (.slice none 0 0)],[.v (.int .i64 n2), .v (.int .i64 w0), .v (.int .i64 w1), .v (.int .i64 w2), .v (.int .i64 w3), .sl 1 (ps.map Ct) (some 0), .sl 1 (rs.map Ct) (some 1)]],[(9,1,ps.map Ct),(9,1,rs.map Ct)]⟩⟩) ?_ ?_
 ·skip
  refine w_ (m_ (h:=?_))
  refine A6 rfl (BU 0 (hc:=Gn l _ (40) (by omega) (by omega)) (hR:=?_))
  rintro r a13 ha13 ⟨k13,rfl,p13,q13,o13⟩
  refine⟨rfl,_,(by repeat constructor),?_⟩
  refine AQ (h:=e_ (?_))
  refine A8 rfl (fun hb9=>?_) (fun hb9=>?_)
  ·have hc9:=bp hb9
   refine AP (m_ (h:=?_))
   refine A6 rfl (BU 0 (hc:=Gn l _ (2) (by omega) (by omega)) (hR:=?_))
   rintro r a14 ha14 ⟨k14,rfl,p14,q14,o14⟩
   refine⟨rfl,_,(by repeat constructor),?_⟩
   refine m_ (h:=?_)
   refine A6 rfl (BU 0 (hc:=Hi l _ (-1) (33) (by omega) (by omega) (by omega) (by omega)) (hR:=?_))
   rintro r a15 ha15 ⟨k15,rfl,p15,q15⟩
   refine⟨rfl,_,(by repeat constructor),?_⟩
   refine f_ (h:=?_)
   refine A6 rfl (CG (len:=4) (sz:=1) (n:=3) (by kernel_rfl) rfl rfl rfl rfl ?_)
   refine s_ (h:=f_ (h:=s_ (h:=AO (?_))))
   refine AF ?_
   refine⟨_,⟨_,_,_,_,_,_,?_,rfl⟩,(wk 3 2)⟩
   omega
  have hc9:=bp hb9
  refine BA (?_)
  refine AF ?_
  refine⟨_,⟨_,_,_,_,_,_,?_,rfl⟩,(wk 3 2)⟩
  omega
 rintro S ⟨b9,n2,w0,w1,w2,w3,hb9,rfl⟩
 refine w_ (l_ (h:=s_ (h:=e_ (A4 (?_)))))
 refine Ai (r:= .agg (DA ⟨n2,w0,w1,w2,w3,ps,rs⟩)) none (h5:=?_) (h6:=⟨_,rfl,rfl,b9,by omega,rfl,⟨n2,w0,w1,w2,w3,ps,rs⟩,(by show ps.length≤1000;omega),(by show rs.length≤1000;omega),rfl⟩)
 exact LeA.agg (.cons (LeA.refl _) (.cons (LeA.refl _) (.cons (LeA.refl _) (.cons (LeA.refl _) (.cons (LeA.refl _) (.cons (LeA.tok _ _ _) (.cons (LeA.tok _ _ _) .nil)))))))
theorem l0(l:List Int)(a:Nat)(ha:a≤10000000000):FT Tryz.prog 29 l a [] 60 (fun r=>∃y:Itm,r= .agg (BY y)):=by
 refine enter Tryz.func29 rfl rfl rfl rfl rfl 1 rfl ?_
 refine w_ (AW (h:=e_ (w_ (m_ (h:=?_)))))
 refine A6 rfl (BU 0 (hc:=UH l _ (by omega)) (hR:=?_))
 rintro r a1 ha1 ⟨k1,rfl,p1⟩
 refine⟨rfl,_,(by repeat constructor),?_⟩
 refine m_ (h:=?_)
 refine A6 rfl (BU 0 (hc:=Hi l _ (1) (3) (by omega) (by omega) (by omega) (by omega)) (hR:=?_))
 rintro r a2 ha2 ⟨k2,rfl,p2,q2⟩
 refine⟨rfl,_,(by repeat constructor),?_⟩
 refine m_ (h:=?_)
 refine A6 rfl (BU 0 (hc:=Gn l _ (16) (by omega) (by omega)) (hR:=?_))
 rintro r a3 ha3 ⟨k3,rfl,p3,q3,o3⟩
 refine⟨rfl,_,(by repeat constructor),?_⟩
 refine AT (h:=AW (h:=s_ (h:=e_ (q_ (w_ (m_ (h:=?_)))))))
 refine A6 rfl (BU 0 (hc:=Gn l _ (4) (by omega) (by omega)) (hR:=?_))
 rintro r a4 ha4 ⟨k4,rfl,p4,q4,o4⟩
 refine⟨rfl,_,(by repeat constructor),?_⟩
 refine CW (h:=e_ (?_))
 refine A8 rfl (fun hb1=>?_) (fun hb1=>?_)
 ·have hc1:=bp hb1
  refine w_ (m_ (h:=?_))
  refine A6 rfl (BU 0 (hc:=Wc l _ (by omega)) (hR:=?_))
  rintro r a5 ha5 ⟨k5,rfl,p5⟩
  refine⟨rfl,_,(by repeat constructor),?_⟩
  refine m_ (h:=?_)
  refine A6 rfl (BU 0 (hc:=Hi l _ (1) (4) (by omega) (by omega) (by omega) (by omega)) (hR:=?_))
  rintro r a6 ha6 ⟨k6,rfl,p6,q6⟩
  refine⟨rfl,_,(by repeat constructor),?_⟩
  refine AT (h:=m_ (h:=?_))
  refine A6 rfl (BU 0 (hc:=Qf l _ (by omega)) (hR:=?_))
  rintro r a7 ha7 ⟨k7,rfl,p7⟩
  refine⟨rfl,_,(by repeat constructor),?_⟩
  refine f_ (h:=s_ (h:=f_ (h:=s_ (h:=f_ (h:=s_ (h:=e_ (AP (m_ (h:=?_)))))))))
  refine A6 rfl (BU 0 (hc:=Gn l _ (2) (by omega) (by omega)) (hR:=?_))
  rintro r a8 ha8 ⟨k8,rfl,p8,q8,o8⟩
  refine⟨rfl,_,(by repeat constructor),?_⟩
  refine m_ (h:=?_)
  refine A6 rfl (BU 0 (hc:=Gn l _ (5) (by omega) (by omega)) (hR:=?_))
  rintro r a9 ha9 ⟨k9,rfl,p9,q9,o9⟩
  refine⟨rfl,_,(by repeat constructor),?_⟩
  refine AT (h:=m_ (h:=?_))
  refine A6 rfl (BU 0 (hc:=Gn l _ (4) (by omega) (by omega)) (hR:=?_))
  rintro r a10 ha10 ⟨k10,rfl,p10,q10,o10⟩
  refine⟨rfl,_,(by repeat constructor),?_⟩
  refine m_ (h:=Bk (h:=?_))
  refine A6 rfl (BU 0 (hc:=Hj l _ _ (fun _=>true) (by omega) (by rfl) (by rfl) (by rfl)) (hR:=?_))
  rintro r a11 ha11 ⟨k11,rfl,p11⟩
  refine⟨rfl,_,(by repeat constructor),?_⟩
  refine m_ (h:=Bk (h:=?_))
  refine A6 rfl (BU 0 (hc:=Hj l _ _ (fun _=>true) (by omega) (by rfl) (by rfl) (by rfl)) (hR:=?_))
  rintro r a12 ha12 ⟨k12,rfl,p12⟩
  refine⟨rfl,_,(by repeat constructor),?_⟩
  refine f_ (h:=s_ (h:=f_ (h:=s_ (h:=f_ (h:=s_ (h:=f_ (h:=s_ (h:=f_ (h:=s_ (h:=e_ (w_ (l_ (h:=s_ (h:=e_ (A4 (?_))))))))))))))))
  refine Ai none (h5:=(LeA.refl _)) (h6:=⟨_,rfl,rfl,_,?_,rfl,⟨_,_,(_,_),_,(_,_),_,_,_,_,_,_⟩,rfl⟩)<;>omega
 have hc1:=bp hb1
 refine AJ (w_ (l_ (h:=s_ (h:=e_ (A4 (?_))))))
 refine Ai none (h5:=(LeA.refl _)) (h6:=⟨_,rfl,rfl,_,?_,rfl,⟨_,_,(_,_),_,(_,_),_,_,_,_,_,_⟩,rfl⟩)<;>omega
theorem Oq(l:List Int)(a:Nat)(t:Tab)(ha:a≤10000000000)(ht:TabB t):FT Tryz.prog 36 l a [.agg (As t)] 3 (fun r=>∃p:Int,r= .v (.int .i64 p)):=by
 have hfew:=ht.few
 have hpl:(t.ps.map Av).length=t.ps.length:=List.length_map _
 refine enter Tryz.func36 rfl rfl rfl rfl rfl 1 rfl ?_
 refine w_ (b_ (h:=a_ (h:=e_ (q_ (?_)))))
 refine B5 (fun S=>∃(b:Nat) (q:Bool),b≤a+1∧(q=false→0<t.ps.length)∧S=⟨look [(0, .bp 0 0),(3, .bp 1 0),(13, .v (.bool q))],⟨[DQ l b,As t],[]⟩⟩) ?_ ?_
 ·skip
  refine AP (f_ (h:=l_ (h:=n_ (h:=AQ (h:=m_ (h:=?_))))))
  refine Ay false rfl rfl (fun hb1=>?_) (fun hb1=>?_)
  ·have hc1:=bp hb1
   refine A3 (h:=A3 (h:=A3 (h:=Af (h:=AO (?_)))))
   refine AF ?_
   refine⟨_,⟨_,_,?_,?_,rfl⟩,B1 2 0 rfl rfl rfl rfl ((by repeat (first|exact Sub.nil|refine Sub.cons _ _ _ rfl rfl ?_|refine Sub.any _ _ ?_|refine Sub.sl _ _ _ _ _ rfl ?_|refine Sub.slnil _ _ _ rfl ?_)))⟩
   ·omega
   intro q
   (cases q;done)
  have hc1:=bp hb1
  refine m_ (h:=?_)
  refine B4 (BU 0 (hc:=Gn l _ (24) (by omega) (by omega)) (hR:=?_))
  rintro r a1 ha1 ⟨k1,rfl,p1,q1,o1⟩
  refine⟨rfl,_,(by repeat constructor),?_⟩
  refine AQ (h:=Ak (h:=AO (?_)))
  refine AF ?_
  refine⟨_,⟨_,_,?_,?_,rfl⟩,B1 2 0 rfl rfl rfl rfl ((by repeat (first|exact Sub.nil|refine Sub.cons _ _ _ rfl rfl ?_|refine Sub.any _ _ ?_|refine Sub.sl _ _ _ _ _ rfl ?_|refine Sub.slnil _ _ _ rfl ?_)))⟩
  ·omega
  intro q
  first|(cases q;done)|omega
 rintro S ⟨b,q,hb,hq,rfl⟩
 refine A8 rfl (fun hb2=>?_) (fun hb2=>?_)
 ·have hc2:=bp hb2
  refine w_ (m_ (h:=?_))
  refine A6 rfl (BU 0 (hc:=Hi l _ (0) (9) (by omega) (by omega) (by omega) (by omega)) (hR:=?_))
  rintro r a2 ha2 ⟨k2,rfl,p2,q2⟩
  refine⟨rfl,_,(by repeat constructor),?_⟩
  refine a_ (h:=e_ (A4 (A7 (?_))))
  refine Ai none (h5:=(LeA.refl _)) (h6:=⟨_,rfl,rfl,_,?_,rfl,_,rfl⟩)<;>omega
 have hc2:=bp hb2
 have hq0:0<t.ps.length:=hq (by assumption)
 refine AJ (q_ (BF ([(1,As t)]) 11 (h:=AE 0 (h:=AD 1 (h:=AN 2 (h:=AE 3 (h:=AD 4 (h:=K7 5 (h:=?_)))))))))
 refine c_ 6 rfl (BU 0 (hc:=Gn l _ ((t.ps.map Av).length:Int) (by omega) (by rw[hpl];omega)) (hR:=?_))
 rintro r a3 ha3 ⟨kn,rfl,p0,q0, -⟩
 refine⟨rfl,_,(by repeat constructor),?_⟩
 obtain⟨m,rfl⟩:=Int.eq_ofNat_of_zero_le p0
 have hm:m<t.ps.length:=by have:=q0 (by rw[hpl];omega);rw[hpl]at this;omega
 obtain⟨x,hx⟩:∃x,t.ps[m]?=some x:=⟨_,B3 hm⟩
 have hrow:(t.ps.map Av)[m]?=some (Av x):=by rw[List.getElem?_map,hx];rfl
 refine o_ (h:=?_)
 refine Bn 7 rfl (fun _ hS=>CF (n:=m) rfl rfl rfl hrow ⟨rfl,rfl⟩) ?_
 refine AE 8 (h:=AD 9 (h:=BB 10 (h:=z_ (h:=t_ (A4 (?_))))))
 refine Ai none (h5:=(LeA.refl _)) (h6:=⟨_,rfl,rfl,_,?_,rfl,_,rfl⟩)<;>omega
theorem l3(l:List Int)(a:Nat)(ha:a≤10000000):FT Tryz.prog 27 l a [] 6000 (fun r=>∃s,r= .agg (BZ s)∧SysV s 14):=by
 refine enter Tryz.func27 rfl rfl rfl rfl rfl 1 rfl ?_
 refine w_ (AW (h:=e_ (w_ (m_ (h:=?_)))))
 refine A6 rfl (BU 0 (hc:=Hi l _ (1) (3) (by omega) (by omega) (by omega) (by omega)) (hR:=?_))
 rintro r a1 ha1 ⟨k1,rfl,p1,q1⟩
 refine⟨rfl,_,(by repeat constructor),?_⟩
 refine A6 rfl (AK (Vo k1) ?_)
 rintro r rfl
 refine m_ (h:=x_ (h:=x_ (h:=AW (h:=s_ (h:=a_ (h:=e_ (q_ (w_ (m_ (h:=?_))))))))))
 refine A6 rfl (BU 0 (hc:=Hi l _ (3) (14) (by omega) (by omega) (by omega) (by omega)) (hR:=?_))
 rintro r a2 ha2 ⟨k2,rfl,p2,q2⟩
 refine⟨rfl,_,(by repeat constructor),?_⟩
 refine a_ (h:=e_ (Am (?_)))
 have hs0:=kT p1 q1
 obtain⟨M,rfl⟩:=Int.eq_ofNat_of_zero_le (show 0≤k2 by omega)
 refine Ba (fun n S=>∃(j b:Nat) (s:Syst),j≤M∧n=j∧b+400 * j≤a+2+400 * M∧SysV s (14 - j)∧S=⟨look [(0, .bp 0 0),(2, .bp 1 0),(3, .bp 2 0),(5, .v (.int .i64 (j:Int)))],⟨[DQ l b,Ei,BZ s],[]⟩⟩) (M) ((wk 3 0)) (⟨M,_,_,Nat.le_refl _,rfl,by omega,hs0.mono (Nat.zero_le _),rfl⟩) ?_
 rintro n S ⟨j,b,s,hj,rfl,hb,hs,rfl⟩
 refine q_ (w_ (m_ (h:=CW (h:=e_ (?_)))))
 refine A8 rfl (fun hb1=>?_) (fun hb1=>?_)
 ·have hc1:=bp hb1
  refine AJ (q_ (Am (BF ([(1,Ei)]) 12 (h:=AN 1 (h:=AE 2 (h:=AN 5 (h:=?_)))))))
  refine E0 0 3 rfl rfl ?_ ?_
  ·refine Fq rfl rfl rfl ?_
   refine o_ (h:=?_)
   refine c_ 3 rfl (FR rfl rfl rfl ?_)
   refine o_ (h:=?_)
   refine c_ 4 rfl (BU 0 (hc:=Oq l _ s.tab (by omega) hs.tab) (hR:=?_))
   rintro r a3 ha3 ⟨pid,rfl⟩
   refine⟨rfl,_,(by repeat constructor),?_⟩
   refine o_ (h:=?_)
   refine c_ 6 rfl (BU 0 (hc:=N5 l _ (by omega)) (hR:=?_))
   rintro r a4 ha4 ⟨c,hcp,hca,rfl⟩
   refine⟨rfl,_,(by repeat constructor),?_⟩
   refine o_ (h:=?_)
   refine c_ 7 rfl (AK (N1 s pid c hs.spc (by have:=hs.few;omega) hs.tab hs.num hcp hca) ?_)
   rintro r rfl
   refine o_ (h:=AN 8 (h:=B6 9 (h:=B6 10 (h:=?_))))
   refine Az 11 rfl (Aw rfl rfl rfl rfl rfl rfl (by repeat constructor) (by repeat constructor) ?_)
   refine o_ (h:=z_ (h:=Ax (t_ (AP (m_ (h:=?_))))))
   refine A6 rfl (JS rfl rfl (by omega) ?_)
   refine a_ (h:=AO (?_))
   refine AF ?_
   refine⟨n - 1,_,by omega,⟨n - 1,_,(Bh s pid c).1,by omega,rfl,?_,(Oo hs pid c).mono (by omega),rfl⟩,(by rw[show((n - 1:Nat):Int)=(n:Int) - 1 by omega];exact B1 3 0 rfl rfl rfl rfl ((by repeat (first|exact Sub.nil|refine Sub.cons _ _ _ rfl rfl ?_|refine Sub.any _ _ ?_|refine Sub.sl _ _ _ _ _ rfl ?_|refine Sub.slnil _ _ _ rfl ?_))))⟩
   omega
  refine FR rfl rfl rfl ?_
  refine o_ (h:=?_)
  refine E0 0 4 rfl rfl ?_ ?_
  ·refine Fq rfl rfl rfl ?_
   refine o_ (h:=?_)
   refine c_ 4 rfl (BU 0 (hc:=Oq l _ s.tab (by omega) hs.tab) (hR:=?_))
   rintro r a5 ha5 ⟨pid,rfl⟩
   refine⟨rfl,_,(by repeat constructor),?_⟩
   refine o_ (h:=?_)
   refine c_ 6 rfl (BU 0 (hc:=N5 l _ (by omega)) (hR:=?_))
   rintro r a6 ha6 ⟨c,hcp,hca,rfl⟩
   refine⟨rfl,_,(by repeat constructor),?_⟩
   refine o_ (h:=?_)
   refine c_ 7 rfl (AK (N1 s pid c hs.spc (by have:=hs.few;omega) hs.tab hs.num hcp hca) ?_)
   rintro r rfl
   refine o_ (h:=AN 8 (h:=B6 9 (h:=B6 10 (h:=?_))))
   refine Az 11 rfl (Aw rfl rfl rfl rfl rfl rfl (by repeat constructor) (by repeat constructor) ?_)
   refine o_ (h:=z_ (h:=Ax (t_ (AP (m_ (h:=?_))))))
   refine A6 rfl (JS rfl rfl (by omega) ?_)
   refine a_ (h:=AO (?_))
   refine AF ?_
   refine⟨n - 1,_,by omega,⟨n - 1,_,(Bh s pid c).1,by omega,rfl,?_,(Oo hs pid c).mono (by omega),rfl⟩,(by rw[show((n - 1:Nat):Int)=(n:Int) - 1 by omega];exact B1 3 0 rfl rfl rfl rfl ((by repeat (first|exact Sub.nil|refine Sub.cons _ _ _ rfl rfl ?_|refine Sub.any _ _ ?_|refine Sub.sl _ _ _ _ _ rfl ?_|refine Sub.slnil _ _ _ rfl ?_))))⟩
   omega
  refine BU 0 (hc:=Oq l _ s.tab (by omega) hs.tab) (hR:=?_)
  rintro r a7 ha7 ⟨pid,rfl⟩
  refine⟨rfl,_,(by repeat constructor),?_⟩
  refine o_ (h:=?_)
  refine E0 0 6 rfl rfl ?_ ?_
  ·refine Fq rfl rfl rfl ?_
   refine o_ (h:=?_)
   refine c_ 6 rfl (BU 0 (hc:=N5 l _ (by omega)) (hR:=?_))
   rintro r a8 ha8 ⟨c,hcp,hca,rfl⟩
   refine⟨rfl,_,(by repeat constructor),?_⟩
   refine o_ (h:=?_)
   refine c_ 7 rfl (AK (N1 s pid c hs.spc (by have:=hs.few;omega) hs.tab hs.num hcp hca) ?_)
   rintro r rfl
   refine o_ (h:=AN 8 (h:=B6 9 (h:=B6 10 (h:=?_))))
   refine Az 11 rfl (Aw rfl rfl rfl rfl rfl rfl (by repeat constructor) (by repeat constructor) ?_)
   refine o_ (h:=z_ (h:=Ax (t_ (AP (m_ (h:=?_))))))
   refine A6 rfl (JS rfl rfl (by omega) ?_)
   refine a_ (h:=AO (?_))
   refine AF ?_
   refine⟨n - 1,_,by omega,⟨n - 1,_,(Bh s pid c).1,by omega,rfl,?_,(Oo hs pid c).mono (by omega),rfl⟩,(by rw[show((n - 1:Nat):Int)=(n:Int) - 1 by omega];exact B1 3 0 rfl rfl rfl rfl ((by repeat (first|exact Sub.nil|refine Sub.cons _ _ _ rfl rfl ?_|refine Sub.any _ _ ?_|refine Sub.sl _ _ _ _ _ rfl ?_|refine Sub.slnil _ _ _ rfl ?_))))⟩
   omega
  refine BU 0 (hc:=N5 l _ (by omega)) (hR:=?_)
  rintro r a9 ha9 ⟨c,hcp,hca,rfl⟩
  refine⟨rfl,_,(by repeat constructor),?_⟩
  refine o_ (h:=?_)
  refine c_ 0 rfl (Fq rfl rfl rfl ?_)
  refine o_ (h:=?_)
  refine c_ 7 rfl (AK (N1 s pid c hs.spc (by have:=hs.few;omega) hs.tab hs.num hcp hca) ?_)
  rintro r rfl
  refine o_ (h:=AN 8 (h:=B6 9 (h:=B6 10 (h:=?_))))
  refine Az 11 rfl (Aw rfl rfl rfl rfl rfl rfl (by repeat constructor) (by repeat constructor) ?_)
  refine o_ (h:=z_ (h:=Ax (t_ (AP (m_ (h:=?_))))))
  refine A6 rfl (JS rfl rfl (by omega) ?_)
  refine a_ (h:=AO (?_))
  refine AF ?_
  refine⟨n - 1,_,by omega,⟨n - 1,_,(Bh s pid c).1,by omega,rfl,?_,(Oo hs pid c).mono (by omega),rfl⟩,(by rw[show((n - 1:Nat):Int)=(n:Int) - 1 by omega];exact B1 3 0 rfl rfl rfl rfl ((by repeat (first|exact Sub.nil|refine Sub.cons _ _ _ rfl rfl ?_|refine Sub.any _ _ ?_|refine Sub.sl _ _ _ _ _ rfl ?_|refine Sub.slnil _ _ _ rfl ?_))))⟩
  omega
 have hc1:=bp hb1
 refine BR (Aq (Aq (BS (t_ (w_ (l_ (h:=s_ (h:=e_ (A4 (?_))))))))))
 refine Ai none (h5:=(LeA.refl _)) (h6:=⟨_,rfl,rfl,b,by omega,rfl,s,rfl,hs.mono (by omega)⟩)
theorem l4(l:List Int)(a:Nat)(s:Syst)(ha:a≤100000000)(hs:SysV s 900):FT Tryz.prog 28 l a [.agg (BZ s)] 400 (fun r=>∃(pid:Int) (c:Cal) (p:Prc),c.paths.length≤1000∧c.args.length≤1000∧r= .tup [.agg (La p c (Bh s pid c).2), .agg (BZ (Bh s pid c).1), .agg (Di (Bh s pid c).2)]):=by
 have hfew:=hs.tab.few
 refine enter Tryz.func28 rfl rfl rfl rfl rfl 1 rfl ?_
 refine w_ (b_ (h:=AW (h:=AW (h:=AW (h:=e_ (w_ (m_ (h:=f_ (h:=l_ (h:=?_))))))))))
 refine A6 rfl (BU 0 (hc:=Oq l _ s.tab (by omega) hs.tab) (hR:=?_))
 rintro r a1 ha1 ⟨pid,rfl⟩
 refine⟨rfl,_,(by repeat constructor),?_⟩
 refine m_ (h:=?_)
 refine A6 rfl (BU 0 (hc:=N5 l _ (by omega)) (hR:=?_))
 rintro r a2 ha2 ⟨c,hcp,hca,rfl⟩
 refine⟨rfl,_,(by repeat constructor),?_⟩
 refine AW (h:=a_ (h:=s_ (h:=e_ (w_ (l_ (h:=m_ (h:=l_ (h:=?_))))))))
 refine A6 rfl (AK (N1 s pid c hs.spc (by have:=hs.few;omega) hs.tab hs.num hcp hca) ?_)
 rintro r rfl
 refine m_ (h:=x_ (h:=x_ (h:=AW (h:=AW (h:=s_ (h:=s_ (h:=e_ (w_ (l_ (h:=f_ (h:=l_ (h:=f_ (h:=l_ (h:=?_))))))))))))))
 refine A6 rfl (ET (y:= .agg (La R6 c (Bh s pid c).2)) (Co ⟨rfl,rfl⟩) ?_)
 refine AW (h:=s_ (h:=e_ (q_ (w_ (a_ (h:=e_ (Am (?_))))))))
 obtain⟨b1,hb1⟩:∃b,b=a2:=⟨_,rfl⟩
 subst hb1
 refine Ba (fun n S=>∃(j:Nat) (p:Prc),j≤s.tab.ps.length∧n=s.tab.ps.length - j∧S=⟨look [(0, .bp 0 0),(3, .bp 1 0),(4, .bp 2 0),(5, .bp 3 0),(6, .bp 4 0),(7, .v (.int .i64 pid)),(9, .bp 6 0),(10, .bp 7 0),(11, .bp 8 0),(12, .v (.int .i64 (j:Int)))],⟨[DQ l b1,BZ s,kX,Ei,FG,DA c,BZ (Bh s pid c).1,Di (Bh s pid c).2,La p c (Bh s pid c).2],[]⟩⟩) (s.tab.ps.length) ((wk 9 0)) (⟨0,R6,Nat.zero_le _,rfl,rfl⟩) ?_
 rintro n S ⟨j,p,hj,rfl,rfl⟩
 refine q_ (w_ (m_ (h:=f_ (h:=f_ (h:=l_ (h:=n_ (h:=BG (h:=e_ (?_)))))))))
 refine A8 rfl (fun hb1=>?_) (fun hb1=>?_)
 ·have hc1:=bp hb1
  obtain⟨hlt,x,hy,hrow, -⟩:=CZ Av hc1
  refine AJ (q_ (Am (w_ (f_ (h:=f_ (h:=l_ (h:=m_ (h:=i_ (h:=f_ (h:=l_ (h:=m_ (h:=AQ (h:=e_ (?_))))))))))))))
  refine A8 rfl (fun hb2=>?_) (fun hb2=>?_)
  ·have hc2:=bp hb2
   refine AP (f_ (h:=f_ (h:=l_ (h:=m_ (h:=i_ (h:=l_ (h:=f_ (h:=s_ (h:=AO (Ax (t_ (AP (m_ (h:=B8 (h:=a_ (h:=AO (?_)))))))))))))))))
   refine AF ?_
   exact⟨s.tab.ps.length - (j+1),_,by omega,⟨j+1,x,by omega,rfl,rfl⟩,B1 9 0 rfl rfl rfl rfl ((by repeat (first|exact Sub.nil|refine Sub.cons _ _ _ rfl rfl ?_|refine Sub.any _ _ ?_|refine Sub.sl _ _ _ _ _ rfl ?_|refine Sub.slnil _ _ _ rfl ?_)))⟩
  have hc2:=bp hb2
  refine BA (Ax (t_ (AP (m_ (h:=B8 (h:=a_ (h:=AO (?_))))))))
  refine AF ?_
  first|exact⟨s.tab.ps.length - (j+1),_,by omega,⟨j+1,x,by omega,rfl,rfl⟩,B1 9 0 rfl rfl rfl rfl ((by repeat (first|exact Sub.nil|refine Sub.cons _ _ _ rfl rfl ?_|refine Sub.any _ _ ?_|refine Sub.sl _ _ _ _ _ rfl ?_|refine Sub.slnil _ _ _ rfl ?_)))⟩|exact⟨s.tab.ps.length - (j+1),_,by omega,⟨j+1,p,by omega,rfl,rfl⟩,B1 9 0 rfl rfl rfl rfl ((by repeat (first|exact Sub.nil|refine Sub.cons _ _ _ rfl rfl ?_|refine Sub.any _ _ ?_|refine Sub.sl _ _ _ _ _ rfl ?_|refine Sub.slnil _ _ _ rfl ?_)))⟩
 have hc1:=bp hb1
 refine BR (Aq (Aq (BS (t_ (q_ (BF ([(0,DQ l b1),(1,BZ s),(5,DA c),(6,BZ (Bh s pid c).1),(7,Di (Bh s pid c).2),(8,La p c (Bh s pid c).2)]) 6 (h:=AD 0 (h:=AD 1 (h:=AD 2 (h:=?_))))))))))
 refine Az 3 rfl (Aw rfl rfl rfl rfl rfl rfl (by repeat constructor) (by repeat constructor) ?_)
 refine o_ (h:=?_)
 refine Az 4 rfl (Aw rfl rfl rfl rfl rfl rfl (by repeat constructor) (by repeat constructor) ?_)
 refine o_ (h:=?_)
 refine Az 5 rfl (Aw rfl rfl rfl rfl rfl rfl (by repeat constructor) (by repeat constructor) ?_)
 refine o_ (h:=z_ (h:=t_ (A4 (?_))))
 refine Ai none (h5:=(LeA.refl _)) (h6:=⟨_,rfl,rfl,_,?_,rfl,pid,c,p,hcp,hca,rfl⟩)
 omega
end
theorem Wu{s:Spc}{a b:A9}(h:AY s.files b=false):decide (a∈BH s (BQ s.files) b)=false:=by
 have e:BH s (BQ s.files) b=[]:=by
  cases BQ s.files with
  |zero=>rfl
  |succ k=>unfold BH;rw[h];rfl
 rw[e]
 rfl
section
variable {ev:Operand→Option AV}{h:AH}{R:AV→AH→Prop}{d:Option Tmp}{ty:TypeId}{pos:String}{af:Array Edge}{gd:Option (Nat×Bool)}
theorem l6{x ix:Operand}{a b:A9}(j:Nat)(hx:ev x=some (.agg [.v (.int .i64 a.1), .v (.int .i64 a.2), .v (.int .i64 b.1), .v (.int .i64 b.2)]))(hi:ev ix=some (.v (.int .i64 (j:Int))))(hj:j<2)(hR:R (.agg (AA (if j=0 then a else b))) h):AStep Tryz.prog ⟨d, .index 122 x ix,ty,pos,af,gd⟩ ev h R:=by
 refine D4 (fun _ G w ec _ he=>?_) hR
 have h1:=he x (by simp[Op.operands]) _ hx
 have h2:=he ix (by simp[Op.operands]) _ hi
 simp only[rep]at h1 h2
 obtain⟨ys,h3,h4⟩:=h1
 simp only[AX,rep]at h4
 obtain⟨v1,q1,rfl,rfl,v2,q2,rfl,rfl,v3,q3,rfl,rfl,v4,q4,rfl,rfl,rfl⟩:=h4
 have u1:=Tryz.underlying122
 have u2:=Tryz.isAgg36
 have u3:=Tryz.sizeOf36
 match j,hj with
 |0,_=>
   refine⟨.agg #[.int .i64 a.1, .int .i64 a.2],?_,by simp[rep,AX,AA]⟩
   simp[execOp,h2,h3,Instr.index,asIntOf,part]
 |1,_=>
   refine⟨.agg #[.int .i64 b.1, .int .i64 b.2],?_,by simp[rep,AX,AA]⟩
   simp[execOp,h2,h3,Instr.index,asIntOf,part]
end
theorem Fo{s:Spc}{w:Wch}{d f:A9}{n:AG}(hk:w.kind=1):Bz s w d n f=((!decide (w.file=(0,0))&&decide (w.file=f))||(!decide (n=⟨#[]⟩)&&decide (d=w.dir)&&decide (n=w.name))):=by
 unfold Bz
 rw[if_pos hk]
 have e1:decide (w.file≠(0,0))= !decide (w.file=(0,0)):=by simp
 have e2:decide (n≠⟨#[]⟩)= !decide (n=⟨#[]⟩):=by simp
 have e3:decide (f=w.file)=decide (w.file=f):=decide_eq_decide.2 ⟨Eq.symm,Eq.symm⟩
 rw[e1,e2,e3]
section
theorem Wv(s:Spc)(w:Wch)(y:Itm)(hs:SpcB s):AFn Tryz.prog 30 [.agg (Ah s), .agg (CM w), .agg (BY y)] (fun r=>r= .v (.bool (Bz s w y.dir y.name y.file))):=by
 refine enter Tryz.func30 rfl rfl rfl rfl rfl 0 rfl ?_
 refine w_ (b_ (h:=b_ (h:=b_ (h:=a_ (h:=e_ (q_ (w_ (f_ (h:=l_ (h:=e_ (Am (w_ (AQ (h:=a_ (h:=e_ (?_))))))))))))))))
 refine A8 rfl (fun hb1=>?_) (fun hb1=>?_)
 ·have hc1:=bp hb1
  refine q_ (?_)
  refine B5 (fun S=>S=⟨look [(3, .bp 0 0),(4, .bp 1 0),(5, .bp 2 0),(23, .v (.bool (!decide (w.file=(0,0))&&decide (w.file=y.file))))],⟨[Ah s,CM w,BY y],[]⟩⟩) ?_ ?_
  ·skip
   refine AP (f_ (h:=l_ (h:=AT (h:=?_))))
   refine A6 rfl (ER rfl rfl (by repeat constructor) (by repeat constructor) (fun W=>WS w.file (0,0) W) (by kernel_rfl) ?_)
   refine m_ (h:=?_)
   refine Ay true rfl rfl (fun hb2=>?_) (fun hb2=>?_)
   ·have hc2:=bp hb2
    refine f_ (h:=l_ (h:=f_ (h:=l_ (h:=?_))))
    refine B4 (ER rfl rfl (by repeat constructor) (by repeat constructor) (fun W=>Jo w.file y.file W) (by kernel_rfl) ?_)
    refine Af (h:=AO (?_))
    refine AF ?_
    exact⟨_,rfl,C5 3 0 rfl⟩
   have hc2:=bp hb2
   refine A3 (h:=A3 (h:=A3 (h:=A3 (h:=A3 (h:=Ak (h:=AO (?_)))))))
   refine AF ?_
   exact⟨_,rfl,C5 3 0 rfl⟩
  rintro S rfl
  refine A8 rfl (fun hb3=>?_) (fun hb3=>?_)
  ·have hc3:=bp hb3
   refine w_ (a_ (h:=e_ (A4 (A7 (AR (A7 (?_)))))))
   refine AB ?_
   first|(exfalso;first|contradiction|omega)|(exact vb (by first|(rw[Fo hc1,hc3];simp[*];done)|(rw[Fo hc1,hc3];rfl)|(have hj3:j=0∨j=1:=(by omega);rcases hj3 with rfl|rfl<;>simp_all [Bz];done)|(simp[Bz,hj1 (by omega),hj2 (by omega), *];done)|(simp[Bz, *];done)))
  have hc3:=bp hb3
  refine AJ (w_ (f_ (h:=l_ (h:=BK (h:=m_ (h:=?_))))))
  refine Ay true rfl rfl (fun hb4=>?_) (fun hb4=>?_)
  ·have hc4:=bp hb4
   refine f_ (h:=l_ (h:=f_ (h:=l_ (h:=?_))))
   refine B4 (ER rfl rfl (by repeat constructor) (by repeat constructor) (fun W=>Jo y.dir w.dir W) (by kernel_rfl) ?_)
   refine Af (h:=m_ (h:=?_))
   refine Ay true rfl rfl (fun hb5=>?_) (fun hb5=>?_)
   ·have hc5:=bp hb5
    refine f_ (h:=l_ (h:=f_ (h:=l_ (h:=AQ (h:=Af (h:=a_ (h:=e_ (A4 (AR (A7 (?_)))))))))))
    refine AB ?_
    first|(exfalso;first|contradiction|omega)|(exact vb (by first|(rw[Fo hc1,hc3];simp[*];done)|(rw[Fo hc1,hc3];rfl)|(have hj3:j=0∨j=1:=(by omega);rcases hj3 with rfl|rfl<;>simp_all [Bz];done)|(simp[Bz,hj1 (by omega),hj2 (by omega), *];done)|(simp[Bz, *];done)))
   have hc5:=bp hb5
   refine A3 (h:=A3 (h:=A3 (h:=A3 (h:=A3 (h:=Ak (h:=a_ (h:=e_ (A4 (AR (A7 (?_)))))))))))
   refine AB ?_
   first|(exfalso;first|contradiction|omega)|(exact vb (by first|(rw[Fo hc1,hc3];simp[*];done)|(rw[Fo hc1,hc3];rfl)|(have hj3:j=0∨j=1:=(by omega);rcases hj3 with rfl|rfl<;>simp_all [Bz];done)|(simp[Bz,hj1 (by omega),hj2 (by omega), *];done)|(simp[Bz, *];done)))
  have hc4:=bp hb4
  refine A3 (h:=A3 (h:=A3 (h:=A3 (h:=A3 (h:=Ak (h:=m_ (h:=A3 (h:=A3 (h:=A3 (h:=A3 (h:=A3 (h:=Ak (h:=a_ (h:=e_ (A4 (AR (A7 (?_))))))))))))))))))
  refine AB ?_
  first|(exfalso;first|contradiction|omega)|(exact vb (by first|(rw[Fo hc1,hc3];simp[*];done)|(rw[Fo hc1,hc3];rfl)|(have hj3:j=0∨j=1:=(by omega);rcases hj3 with rfl|rfl<;>simp_all [Bz];done)|(simp[Bz,hj1 (by omega),hj2 (by omega), *];done)|(simp[Bz, *];done)))
 have hc1:=bp hb1
 refine w_ (AQ (h:=a_ (h:=e_ (?_))))
 refine A8 rfl (fun hb6=>?_) (fun hb6=>?_)
 ·have hc6:=bp hb6
  refine w_ (f_ (h:=l_ (h:=f_ (h:=l_ (h:=AT (h:=m_ (h:=e_ (Am (?_)))))))))
  refine Ba (fun m S=>∃j:Nat,j≤2∧m=2 - j∧(0<j→DZ s w.file y.dir=false)∧(1<j→DZ s w.file y.file=false)∧S=⟨look [(3, .bp 0 0),(4, .bp 1 0),(5, .bp 2 0),(47, .agg [.v (.int .i64 y.dir.1), .v (.int .i64 y.dir.2), .v (.int .i64 y.file.1), .v (.int .i64 y.file.2)]),(48, .v (.int .i64 (j:Int)))],⟨[Ah s,CM w,BY y],[]⟩⟩) (2) ((wk 3 0)) (⟨0,by omega,rfl,fun q=>by omega,fun q=>by omega,rfl⟩) ?_
  rintro m S ⟨j,hj,rfl,hj1,hj2,rfl⟩
  refine w_ (BG (h:=e_ (q_ (?_))))
  refine A8 rfl (fun hb7=>?_) (fun hb7=>?_)
  ·have hc7:=bp hb7
   refine AJ (q_ (Am (?_)))
   refine B5 (fun S=>∃z,z=(if j=0 then y.dir else y.file)∧S=⟨look [(3, .bp 0 0),(4, .bp 1 0),(5, .bp 2 0),(8, .bp 3 0),(47, .agg [.v (.int .i64 y.dir.1), .v (.int .i64 y.dir.2), .v (.int .i64 y.file.1), .v (.int .i64 y.file.2)]),(48, .v (.int .i64 (j:Int)))],⟨[Ah s,CM w,BY y,AA z],[]⟩⟩) ?_ ?_
   ·skip
    refine AP (?_)
    refine A6 rfl (l6 j rfl rfl (by omega) ?_)
    refine AW (h:=s_ (h:=AO (?_)))
    refine AF ?_
    exact⟨_,⟨_,rfl,rfl⟩,B1 4 0 rfl rfl rfl rfl ((by repeat (first|exact Sub.nil|refine Sub.cons _ _ _ rfl rfl ?_|refine Sub.any _ _ ?_|refine Sub.sl _ _ _ _ _ rfl ?_|refine Sub.slnil _ _ _ rfl ?_)))⟩
   rintro S ⟨z,hz,rfl⟩
   refine B5 (fun S=>S=⟨look [(3, .bp 0 0),(4, .bp 1 0),(5, .bp 2 0),(47, .agg [.v (.int .i64 y.dir.1), .v (.int .i64 y.dir.2), .v (.int .i64 y.file.1), .v (.int .i64 y.file.2)]),(48, .v (.int .i64 (j:Int))),(60, .v (.bool (DZ s w.file z)))],⟨[Ah s,CM w,BY y],[]⟩⟩) ?_ ?_
   ·skip
    refine AP (l_ (h:=l_ (h:=?_)))
    refine A6 rfl (AK (Rd s z hs) ?_)
    rintro r rfl
    refine m_ (h:=?_)
    refine Ay true rfl rfl (fun hb8=>?_) (fun hb8=>?_)
    ·have hc8:=bp hb8
     refine l_ (h:=f_ (h:=l_ (h:=l_ (h:=?_))))
     refine B4 (AK (aU s hs w.file z) ?_)
     rintro r rfl
     refine Af (h:=AO (?_))
     refine AF ?_
     refine⟨_,rfl,B1 3 0 rfl rfl rfl rfl (by repeat (first|exact Sub.nil|refine Sub.cons _ _ _ rfl rfl ?_|(apply Sub.of;(focus exact rfl);(focus exact LeA.of_eq (vb (by first|rfl|exact(Wu ‹_›).symm)));(focus exact rfl))))⟩
    have hc8:=bp hb8
    refine A3 (h:=A3 (h:=A3 (h:=A3 (h:=A3 (h:=Ak (h:=AO (?_)))))))
    refine AF ?_
    refine⟨_,rfl,B1 3 0 rfl rfl rfl rfl (by repeat (first|exact Sub.nil|refine Sub.cons _ _ _ rfl rfl ?_|(apply Sub.of;(focus exact rfl);(focus exact LeA.of_eq (vb (by first|rfl|exact(Wu ‹_›).symm)));(focus exact rfl))))⟩
   rintro S rfl
   refine A8 rfl (fun hb9=>?_) (fun hb9=>?_)
   ·have hc9:=bp hb9
    refine w_ (a_ (h:=e_ (A4 (AR (A7 (A7 (AR (AR (A7 (?_))))))))))
    refine AB ?_
    first|(exfalso;first|contradiction|omega)|(exact vb (by first|(rw[Fo hc1,hc3];simp[*];done)|(rw[Fo hc1,hc3];rfl)|(have hj3:j=0∨j=1:=(by omega);rcases hj3 with rfl|rfl<;>simp_all [Bz];done)|(simp[Bz,hj1 (by omega),hj2 (by omega), *];done)|(simp[Bz, *];done)))
   have hc9:=bp hb9
   refine BA (Ax (t_ (AP (B8 (h:=m_ (h:=AO (?_)))))))
   refine AF ?_
   have hj3:j=0∨j=1:=by omega
   refine⟨_,_,?_,⟨j+1,by omega,rfl,?_,?_,rfl⟩,B1 3 0 rfl rfl rfl rfl ((by repeat (first|exact Sub.nil|refine Sub.cons _ _ _ rfl rfl ?_|refine Sub.any _ _ ?_|refine Sub.sl _ _ _ _ _ rfl ?_|refine Sub.slnil _ _ _ rfl ?_)))⟩
   ·omega
   ·intro _
    rcases hj3 with rfl|rfl
    ·rw[if_pos rfl]at hz;rw[←hz];assumption
    exact hj1 (by omega)
   intro q
   rcases hj3 with rfl|rfl
   ·omega
   rw[if_neg (by omega)]at hz;rw[←hz];assumption
  have hc7:=bp hb7
  refine BR (Aq (Aq (BS (Ax (t_ (w_ (a_ (h:=e_ (A4 (?_))))))))))
  refine AB ?_
  first|(exfalso;first|contradiction|omega)|(exact vb (by first|(rw[Fo hc1,hc3];simp[*];done)|(rw[Fo hc1,hc3];rfl)|(have hj3:j=0∨j=1:=(by omega);rcases hj3 with rfl|rfl<;>simp_all [Bz];done)|(simp[Bz,hj1 (by omega),hj2 (by omega), *];done)|(simp[Bz, *];done)))
 have hc6:=bp hb6
 refine BA (Ax (t_ (w_ (a_ (h:=e_ (A4 (?_)))))))
 refine AB ?_
 first|(exfalso;first|contradiction|omega)|(exact vb (by first|(rw[Fo hc1,hc3];simp[*];done)|(rw[Fo hc1,hc3];rfl)|(have hj3:j=0∨j=1:=(by omega);rcases hj3 with rfl|rfl<;>simp_all [Bz];done)|(simp[Bz,hj1 (by omega),hj2 (by omega), *];done)|(simp[Bz, *];done)))
theorem Ww(s:Spc)(w:Wch)(y:Itm)(hs:SpcB s)(hw:w.kind=2→SpcV s):AFn Tryz.prog 31 [.agg (Ah s), .agg (CM w), .agg (BY y)] (fun r=>r= .v (.bool (Bz s w y.dir y.name y.file))):=by
 refine enter Tryz.func31 rfl rfl rfl rfl rfl 0 rfl ?_
 refine w_ (b_ (h:=b_ (h:=b_ (h:=a_ (h:=e_ (q_ (w_ (f_ (h:=l_ (h:=e_ (Am (w_ (AQ (h:=a_ (h:=e_ (?_))))))))))))))))
 refine A8 rfl (fun hb1=>?_) (fun hb1=>?_)
 ·have hc1:=bp hb1
  refine w_ (f_ (h:=l_ (h:=AT (h:=?_))))
  refine A6 rfl (ER rfl rfl (by repeat constructor) (by repeat constructor) (fun W=>WS w.file (0,0) W) (by kernel_rfl) ?_)
  refine m_ (h:=?_)
  refine Ay true rfl rfl (fun hb2=>?_) (fun hb2=>?_)
  ·have hc2:=bp hb2
   refine f_ (h:=l_ (h:=f_ (h:=l_ (h:=?_))))
   refine B4 (ER rfl rfl (by repeat constructor) (by repeat constructor) (fun W=>Jo y.file w.file W) (by kernel_rfl) ?_)
   refine Af (h:=m_ (h:=?_))
   refine Ay false rfl rfl (fun hb3=>?_) (fun hb3=>?_)
   ·have hc3:=bp hb3
    refine A3 (h:=A3 (h:=A3 (h:=A3 (h:=Db (h:=Db (h:=Db (h:=Db (h:=Db (h:=A3 (h:=A3 (h:=Db (h:=Db (h:=Db (h:=Db (h:=Db (h:=A3 (h:=Af (h:=a_ (h:=e_ (A4 (AR (A7 (?_)))))))))))))))))))))))
    refine AB ?_
    first|(exfalso;first|contradiction|omega)|(exact vb (by first|(simp[Bz,DZ, *];done)|(simp[Bz,DZ, *,eq_comm];done)))
   have hc3:=bp hb3
   refine f_ (h:=l_ (h:=BK (h:=m_ (h:=?_))))
   refine Ay true rfl rfl (fun hb4=>?_) (fun hb4=>?_)
   ·have hc4:=bp hb4
    refine f_ (h:=l_ (h:=f_ (h:=l_ (h:=?_))))
    refine B4 (ER rfl rfl (by repeat constructor) (by repeat constructor) (fun W=>Jo y.dir w.dir W) (by kernel_rfl) ?_)
    refine Af (h:=m_ (h:=?_))
    refine Ay true rfl rfl (fun hb5=>?_) (fun hb5=>?_)
    ·have hc5:=bp hb5
     refine f_ (h:=l_ (h:=f_ (h:=l_ (h:=AQ (h:=Af (h:=Ak (h:=a_ (h:=e_ (A4 (AR (A7 (?_))))))))))))
     refine AB ?_
     first|(exfalso;first|contradiction|omega)|(exact vb (by first|(simp[Bz,DZ, *];done)|(simp[Bz,DZ, *,eq_comm];done)))
    have hc5:=bp hb5
    refine A3 (h:=A3 (h:=A3 (h:=A3 (h:=A3 (h:=Ak (h:=Ak (h:=a_ (h:=e_ (A4 (AR (A7 (?_))))))))))))
    refine AB ?_
    first|(exfalso;first|contradiction|omega)|(exact vb (by first|(simp[Bz,DZ, *];done)|(simp[Bz,DZ, *,eq_comm];done)))
   have hc4:=bp hb4
   refine A3 (h:=A3 (h:=A3 (h:=A3 (h:=A3 (h:=Ak (h:=m_ (h:=A3 (h:=A3 (h:=A3 (h:=A3 (h:=A3 (h:=Ak (h:=Ak (h:=a_ (h:=e_ (A4 (AR (A7 (?_)))))))))))))))))))
   refine AB ?_
   first|(exfalso;first|contradiction|omega)|(exact vb (by first|(simp[Bz,DZ, *];done)|(simp[Bz,DZ, *,eq_comm];done)))
  have hc2:=bp hb2
  refine A3 (h:=A3 (h:=A3 (h:=A3 (h:=A3 (h:=Ak (h:=m_ (h:=f_ (h:=l_ (h:=BK (h:=m_ (h:=?_)))))))))))
  refine Ay true rfl rfl (fun hb6=>?_) (fun hb6=>?_)
  ·have hc6:=bp hb6
   refine f_ (h:=l_ (h:=f_ (h:=l_ (h:=?_))))
   refine B4 (ER rfl rfl (by repeat constructor) (by repeat constructor) (fun W=>Jo y.dir w.dir W) (by kernel_rfl) ?_)
   refine Af (h:=m_ (h:=?_))
   refine Ay true rfl rfl (fun hb7=>?_) (fun hb7=>?_)
   ·have hc7:=bp hb7
    refine f_ (h:=l_ (h:=f_ (h:=l_ (h:=AQ (h:=Af (h:=Ak (h:=a_ (h:=e_ (A4 (AR (A7 (?_))))))))))))
    refine AB ?_
    first|(exfalso;first|contradiction|omega)|(exact vb (by first|(simp[Bz,DZ, *];done)|(simp[Bz,DZ, *,eq_comm];done)))
   have hc7:=bp hb7
   refine A3 (h:=A3 (h:=A3 (h:=A3 (h:=A3 (h:=Ak (h:=Ak (h:=a_ (h:=e_ (A4 (AR (A7 (?_))))))))))))
   refine AB ?_
   first|(exfalso;first|contradiction|omega)|(exact vb (by first|(simp[Bz,DZ, *];done)|(simp[Bz,DZ, *,eq_comm];done)))
  have hc6:=bp hb6
  refine A3 (h:=A3 (h:=A3 (h:=A3 (h:=A3 (h:=Ak (h:=m_ (h:=A3 (h:=A3 (h:=A3 (h:=A3 (h:=A3 (h:=Ak (h:=Ak (h:=a_ (h:=e_ (A4 (AR (A7 (?_)))))))))))))))))))
  refine AB ?_
  first|(exfalso;first|contradiction|omega)|(exact vb (by first|(simp[Bz,DZ, *];done)|(simp[Bz,DZ, *,eq_comm];done)))
 have hc1:=bp hb1
 refine w_ (AQ (h:=a_ (h:=e_ (?_))))
 refine A8 rfl (fun hb8=>?_) (fun hb8=>?_)
 ·have hc8:=bp hb8
  have hv:=hw hc8
  have hmo:BQ s.files≤5000:=by have:=Qm hv.files;omega
  refine w_ (l_ (h:=f_ (h:=l_ (h:=f_ (h:=l_ (h:=?_))))))
  refine A6 rfl (AK (Ub hs hv hmo w.file y.dir) ?_)
  rintro r rfl
  refine m_ (h:=?_)
  refine Ay false rfl rfl (fun hb9=>?_) (fun hb9=>?_)
  ·have hc9:=bp hb9
   refine A3 (h:=A3 (h:=A3 (h:=A3 (h:=A3 (h:=A3 (h:=Af (h:=a_ (h:=e_ (A4 (AR (A7 (?_))))))))))))
   refine AB ?_
   first|(exfalso;first|contradiction|omega)|(exact vb (by first|(simp[Bz,DZ, *];done)|(simp[Bz,DZ, *,eq_comm];done)))
  have hc9:=bp hb9
  refine l_ (h:=f_ (h:=l_ (h:=f_ (h:=l_ (h:=?_)))))
  refine B4 (AK (Ub hs hv hmo w.file y.file) ?_)
  rintro r rfl
  refine Ak (h:=a_ (h:=e_ (A4 (AR (A7 (?_))))))
  refine AB ?_
  first|(exfalso;first|contradiction|omega)|(exact vb (by first|(simp[Bz,DZ, *];done)|(simp[Bz,DZ, *,eq_comm];done)))
 have hc8:=bp hb8
 refine BA (Ax (t_ (w_ (a_ (h:=e_ (A4 (?_)))))))
 refine AB ?_
 first|(exfalso;first|contradiction|omega)|(exact vb (by first|(simp[Bz,DZ, *];done)|(simp[Bz,DZ, *,eq_comm];done)))
end
section
variable {P:Program}{ev:Operand→Option AV}{h:AH}{R:AV→AH→Prop}{d:Option Tmp}{ty:TypeId}{pos:String}{af:Array Edge}{gd:Option (Nat×Bool)}
theorem Wx{T yT:TypeId}{x y:Operand}(a:Bool)(hu:P.underlying T=some .bool)(hx:ev x=some (.v (.bool a)))(hy:ev y=some (.v (.bool a)))(hR:R (.v (.bool false)) h):AStep P ⟨d, .binOp .neq T x y yT,ty,pos,af,gd⟩ ev h R:=
 Lu hu hx hy (by cases a<;>exact hR)
end
section
theorem l7(l:List Int)(raw:Itm)(kind:Int):AFn Tryz.prog 5 [.sl 1 (l.map CB) none, .agg (BY raw), .v (.int .i64 kind)] (fun r=>r= .v (.bool true)):=by
 refine enter Tryz.func5 rfl rfl rfl rfl rfl 0 rfl ?_
 refine w_ (b_ (h:=a_ (h:=e_ (q_ (w_ (f_ (h:=l_ (h:=n_ (h:=CW (h:=e_ (?_)))))))))))
 refine A8 rfl (fun hb1=>?_) (fun hb1=>?_)
 ·have hc1:=bp hb1
  refine w_ (?_)
  refine A6 rfl (AK (Wl) ?_)
  rintro r rfl
  refine a_ (h:=e_ (A4 (A7 (?_))))
  refine AB ?_
  rfl
 have hc1:=bp hb1
 refine AJ (w_ (m_ (h:=?_)))
 refine A6 rfl (Xe rfl (by repeat (first|exact Args.nil|refine Args.cons _ _ _ _ _ rfl (Kn rfl) ?_|refine Args.cons _ _ _ _ _ rfl (Ls _) ?_|refine Args.cons _ _ _ _ _ rfl (Km _) ?_|refine Args.cons _ _ _ _ _ rfl (Lw rfl (by repeat (first|exact LeA.refl _|exact LeA.nil _|exact LeL.refl _|refine LeA.agg ?_|refine LeA.tup ?_|exact LeL.nil|refine LeL.cons ?_ ?_|exact LeA.any _))) ?_)) rfl (Zr l) (by repeat constructor) ?_)
 skip
 refine a_ (h:=e_ (w_ (m_ (h:=?_))))
 refine A6 rfl (BU 1 (hc:=l3 l _ (by omega)) (hR:=?_))
 rintro r a1 ha1 ⟨s,rfl,hs⟩
 refine⟨rfl,_,(by repeat constructor),?_⟩
 have hm0:s.spc.mounts.length≤1000:=by have:=hs.few;omega
 have hsb:=hs.spc.b hm0
 refine AW (h:=s_ (h:=e_ (w_ (m_ (h:=f_ (h:=l_ (h:=?_)))))))
 refine A6 rfl (BU 1 (hc:=iZ l _ s.spc (by omega) hs.spc hm0) (hR:=?_))
 rintro r a2 ha2 ⟨w,wb,rfl,hwn0,hw1,hw2⟩
 refine⟨rfl,_,(by repeat constructor),?_⟩
 obtain⟨v,hv⟩:∃v:Wch,v={w with kind:=kind}:=⟨_,rfl⟩
 refine m_ (h:=x_ (h:=x_ (h:=AW (h:=s_ (h:=a_ (h:=e_ (w_ (l_ (h:=AW (h:=s_ (h:=e_ (?_))))))))))))
 refine B5 (fun S=>S=⟨look [(4, .bp 0 0),(7, .bp 1 0),(8, .bp 2 0),(9, .bp 3 0),(11, .bp 4 0)],⟨[BY raw,DQ l a2,BZ s,CM w,CM v],[]⟩⟩) ?_ ?_
 ·skip
  refine AP (m_ (h:=f_ (h:=s_ (h:=AO (?_)))))
  refine AF ?_
  rw[hv]
  exact⟨_,rfl,B1 5 0 rfl rfl rfl rfl ((by repeat (first|exact Sub.nil|refine Sub.cons _ _ _ rfl rfl ?_|refine Sub.any _ _ ?_|refine Sub.sl _ _ _ _ _ rfl ?_|refine Sub.slnil _ _ _ rfl ?_)))⟩
 rintro S rfl
 refine q_ (w_ (a_ (h:=e_ (Am (?_)))))
 refine Ba (fun n S=>∃(j b0:Nat),j≤4∧n=4 - j∧b0≤a2+500 * j∧S=⟨look [(4, .bp 0 0),(7, .bp 1 0),(8, .bp 2 0),(9, .bp 3 0),(11, .bp 4 0),(12, .v (.int .i64 (j:Int)))],⟨[BY raw,DQ l b0,BZ s,CM w,CM v],[]⟩⟩) (4) ((wk 5 0)) (⟨0,_,by omega,rfl,by omega,rfl⟩) ?_
 rintro n S ⟨j,b0,hj,rfl,hb0,rfl⟩
 refine q_ (w_ (m_ (h:=BG (h:=e_ (?_)))))
 refine A8 rfl (fun hb2=>?_) (fun hb2=>?_)
 ·have hc2:=bp hb2
  refine AJ (q_ (Am (?_)))
  refine B5 (fun S=>∃(p:Prc) (c:Cal) (r:Res) (b1:Nat),r.items.length≤1000∧b1≤b0+400∧S=⟨look [(4, .bp 0 0),(7, .bp 1 0),(8, .bp 2 0),(9, .bp 3 0),(11, .bp 4 0),(12, .v (.int .i64 (j:Int))),(13, .bp 5 0)],⟨[BY raw,DQ l b1,BZ s,CM w,CM v,La p c r],[]⟩⟩) ?_ ?_
  ·skip
   refine AP (m_ (h:=l_ (h:=?_)))
   refine A6 rfl (BU 1 (hc:=l4 l _ s (by omega) (hs.mono (by omega))) (hR:=?_))
   rintro r a3 ha3 ⟨pid,c,p,hcp,hca,rfl⟩
   refine⟨rfl,_,(by repeat constructor),?_⟩
   have hri:=kY s pid c
   refine m_ (h:=x_ (h:=x_ (h:=x_ (h:=AW (h:=AW (h:=AW (h:=s_ (h:=s_ (h:=s_ (h:=AO (?_)))))))))))
   refine AF ?_
   exact⟨_,⟨p,c,(Bh s pid c).2,_,(by omega),(by omega),rfl⟩,B1 6 0 rfl rfl rfl rfl ((by repeat (first|exact Sub.nil|refine Sub.cons _ _ _ rfl rfl ?_|refine Sub.any _ _ ?_|refine Sub.sl _ _ _ _ _ rfl ?_|refine Sub.slnil _ _ _ rfl ?_)))⟩
  rintro S ⟨p,c,r,b1,hri,hb1,rfl⟩
  have hril:(r.items.map BY).length=r.items.length:=List.length_map _
  refine B5 (fun S=>∃(its:List Itm) (b2:Nat),its.length≤1002∧b2≤b0+500∧S=⟨look [(4, .bp 0 0),(7, .bp 1 0),(8, .bp 2 0),(9, .bp 3 0),(11, .bp 4 0),(12, .v (.int .i64 (j:Int))),(16, .sl 13 (its.map BY) none)],⟨[BY raw,DQ l b2,BZ s,CM w,CM v],[]⟩⟩) ?_ ?_
  ·skip
   refine BF ([(0,BY raw),(2,BZ s),(3,CM w),(4,CM v),(5,La p c r)]) 8 (h:=AD 0 (h:=AN 1 (h:=AE 4 (h:=AD 5 (h:=?_)))))
   refine c_ 2 rfl (BU 1 (hc:=l0 l _ (by omega)) (hR:=?_))
   rintro r a4 ha4 ⟨it,rfl⟩
   refine⟨rfl,_,(by repeat constructor),?_⟩
   refine o_ (h:=?_)
   refine c_ 3 rfl (SS (by repeat (first|exact DenseA.nil _|(apply DenseA.cons;(focus exact rfl);(focus exact rfl);(focus exact rfl);(focus exact rfl))|(apply DenseA.consE;(focus exact rfl);(focus exact rfl);(focus exact rfl)))) rfl rfl rfl rfl (by repeat constructor) ?_)
   refine o_ (h:=?_)
   refine c_ 6 rfl (Dz rfl rfl rfl (by simp<;>omega) (by repeat constructor) ?_)
   refine o_ (h:=BB 7 (h:=z_ (h:=?_)))
   refine AF ?_
   exact⟨_,⟨raw::it::r.items,_,(by simp;omega),(by omega),rfl⟩,B1 5 0 rfl rfl rfl rfl ((by repeat (first|exact Sub.nil|refine Sub.cons _ _ _ rfl rfl ?_|refine Sub.any _ _ ?_|refine Sub.sl _ _ _ _ _ rfl ?_|refine Sub.slnil _ _ _ rfl ?_)))⟩
  rintro S ⟨its,b2,hits,hb2,rfl⟩
  refine w_ (a_ (h:=e_ (Am (?_))))
  refine Ba (fun n S=>∃k:Nat,k≤its.length∧n=its.length - k∧S=⟨look [(4, .bp 0 0),(7, .bp 1 0),(8, .bp 2 0),(9, .bp 3 0),(11, .bp 4 0),(12, .v (.int .i64 (j:Int))),(16, .sl 13 (its.map BY) none),(17, .v (.int .i64 (k:Int)))],⟨[BY raw,DQ l b2,BZ s,CM w,CM v],[]⟩⟩) (its.length) ((wk 5 0)) (⟨0,by omega,rfl,rfl⟩) ?_
  rintro n S ⟨k,hk,rfl,rfl⟩
  refine q_ (w_ (m_ (h:=m_ (h:=n_ (h:=BG (h:=e_ (?_)))))))
  refine A8 rfl (fun hb3=>?_) (fun hb3=>?_)
  ·have hc3:=bp hb3
   obtain⟨hlt,y,hy,hrow, -⟩:=CZ BY hc3
   refine AJ (q_ (Am (q_ (DU 36 (h:=AE 0 (h:=AD 1 (h:=AD 2 (h:=AN 3 (h:=AN 4 (h:=?_))))))))))
   refine EF (i:=5) rfl (CF (n:=k) rfl rfl rfl hrow ⟨rfl,rfl⟩) ?_
   refine AD 6 (h:=AE 8 (h:=AD 9 (h:=AD 10 (h:=AN 11 (h:=AN 12 (h:=?_))))))
   refine EF (i:=13) rfl (CF (n:=k) rfl rfl rfl hrow ⟨rfl,rfl⟩) ?_
   refine AD 14 (h:=?_)
   refine c_ 7 rfl (AK (Wv s.spc w y hsb) ?_)
   rintro r rfl
   refine o_ (h:=?_)
   refine c_ 15 rfl (AK (Ww s.spc w y hsb (fun _=>hs.spc)) ?_)
   rintro r rfl
   refine o_ (h:=?_)
   refine EF (i:=16) rfl (Wx (Bz s.spc w y.dir y.name y.file) (by kernel_rfl) rfl rfl ⟨rfl,rfl⟩) ?_
   refine AN 17 (h:=?_)
   refine H8 (j:=17) rfl (fun hb4=>?_) (fun hb4=>?_)
   ·have hc4:=bp hb4
    refine BE 18 (h:=BE 19 (h:=BE 20 (h:=BE 21 (h:=BE 22 (h:=BE 23 (h:=BE 24 (h:=BE 25 (h:=BE 26 (h:=BE 27 (h:=BE 28 (h:=BE 29 (h:=BE 30 (h:=BE 31 (h:=BE 32 (h:=BE 33 (h:=BE 34 (h:=HQ 35 (h:=z_ (h:=t_ (Bm (h:=w_ (a_ (h:=e_ (?_))))))))))))))))))))))))
    refine A4 (AR (A7 (A7 (AR (AR (A7 (A7 (AR (A7 (?_))))))))))
    refine AB ?_
    first|rfl|(exfalso;first|contradiction|omega|(simp_all;done))
   have hc4:=bp hb4
   refine AE 18 (h:=AD 19 (h:=AD 20 (h:=AN 21 (h:=AN 22 (h:=?_)))))
   refine EF (i:=23) rfl (CF (n:=k) rfl rfl rfl hrow ⟨rfl,rfl⟩) ?_
   refine AD 24 (h:=AE 26 (h:=AD 27 (h:=AD 28 (h:=AN 29 (h:=AN 30 (h:=?_))))))
   refine EF (i:=31) rfl (CF (n:=k) rfl rfl rfl hrow ⟨rfl,rfl⟩) ?_
   refine AD 32 (h:=?_)
   refine c_ 25 rfl (AK (Wv s.spc v y hsb) ?_)
   rintro r rfl
   refine o_ (h:=?_)
   refine c_ 33 rfl (AK (Ww s.spc v y hsb (fun _=>hs.spc)) ?_)
   rintro r rfl
   refine o_ (h:=?_)
   refine EF (i:=34) rfl (Wx (Bz s.spc v y.dir y.name y.file) (by kernel_rfl) rfl rfl ⟨rfl,rfl⟩) ?_
   refine FW 35 (h:=z_ (h:=t_ (?_)))
   refine A8 rfl (fun hb5=>?_) (fun hb5=>?_)
   ·have hc5:=bp hb5
    refine w_ (a_ (h:=e_ (A4 (AR (A7 (A7 (AR (AR (A7 (A7 (AR (A7 (?_)))))))))))))
    refine AB ?_
    first|rfl|(exfalso;first|contradiction|omega|(simp_all;done))
   have hc5:=bp hb5
   refine BA (Ax (t_ (AP (m_ (h:=B8 (h:=a_ (h:=AO (?_))))))))
   refine AF ?_
   refine⟨_,_,?_,⟨k+1,by omega,rfl,rfl⟩,B1 5 0 rfl rfl rfl rfl ((by repeat (first|exact Sub.nil|refine Sub.cons _ _ _ rfl rfl ?_|refine Sub.any _ _ ?_|refine Sub.sl _ _ _ _ _ rfl ?_|refine Sub.slnil _ _ _ rfl ?_)))⟩
   omega
  have hc3:=bp hb3
  refine BR (Aq (Aq (BS (Ax (t_ (AP (m_ (h:=B8 (h:=a_ (h:=AO (?_)))))))))))
  refine AF ?_
  refine⟨_,_,?_,⟨j+1,_,by omega,rfl,?_,rfl⟩,B1 5 0 rfl rfl rfl rfl ((by repeat (first|exact Sub.nil|refine Sub.cons _ _ _ rfl rfl ?_|refine Sub.any _ _ ?_|refine Sub.sl _ _ _ _ _ rfl ?_|refine Sub.slnil _ _ _ rfl ?_)))⟩<;>omega
 have hc2:=bp hb2
 refine BR (Aq (Aq (BS (t_ (w_ (?_))))))
 refine A6 rfl (AK (Wl) ?_)
 rintro r rfl
 refine a_ (h:=e_ (A4 (?_)))
 refine AB ?_
 rfl
end
abbrev l8(r:List AV):Prop:=∃n,r=[.v (.int .i64 n)]∧(Lit.int .i64 n).wf=true
theorem Jp:Opens Tryz.prog 3 l8:=UU Tryz.underlying3
theorem Wy:Opens Tryz.prog 36 (fun r=>∃x:A9,r=AA x):=
 (UX (l:=[(0,3,1),(1,3,1)]) (n:=2) (by kernel_rfl) (.cons _ _ _ _ _ _ _ Jp (.cons _ _ _ _ _ _ _ Jp (.nil _)))).mono (by
   rintro r ⟨_,_,⟨a,rfl,_⟩,⟨_,_,⟨b,rfl,_⟩,rfl,rfl⟩,rfl⟩
   exact⟨(a,b),rfl⟩)
theorem l9:Opens Tryz.prog 52 (fun r=>∃x:Itm,r=BY x):=
 (UX (l:=[(0,9,1),(1,9,1),(2,36,2),(4,9,1),(5,36,2),(7,3,1),(8,3,1),(9,3,1),(10,3,1),(11,3,1),(12,3,1)]) (n:=13) (by kernel_rfl)
   (.cons _ _ _ _ _ _ _ (Qn Tryz.underlying9) (.cons _ _ _ _ _ _ _ (Qn Tryz.underlying9) (.cons _ _ _ _ _ _ _ Wy (.cons _ _ _ _ _ _ _ (Qn Tryz.underlying9) (.cons _ _ _ _ _ _ _ Wy (.cons _ _ _ _ _ _ _ Jp (.cons _ _ _ _ _ _ _ Jp (.cons _ _ _ _ _ _ _ Jp (.cons _ _ _ _ _ _ _ Jp (.cons _ _ _ _ _ _ _ Jp (.cons _ _ _ _ _ _ _ Jp (.nil _))))))))))))).mono (by
   rintro r ⟨_,_,⟨a,rfl,_⟩,⟨_,_,⟨b,rfl,_⟩,⟨_,_,⟨c,rfl⟩,⟨_,_,⟨d,rfl,_⟩,⟨_,_,⟨e,rfl⟩,⟨_,_,⟨f,rfl,_⟩,⟨_,_,⟨g,rfl,_⟩,⟨_,_,⟨h,rfl,_⟩,⟨_,_,⟨i,rfl,_⟩,⟨_,_,⟨j,rfl,_⟩,⟨_,_,⟨k,rfl,_⟩,rfl,rfl⟩,rfl⟩,rfl⟩,rfl⟩,rfl⟩,rfl⟩,rfl⟩,rfl⟩,rfl⟩,rfl⟩,rfl⟩
   exact⟨⟨a,b,c,d,e,f,g,h,i,j,k⟩,rfl⟩)
theorem WatchHits_walk{H:Type}{enc:TypeId×Value→H}{sp:Nat→Bool}{held:Bool}{base:Nat}(a:Option Addr)(n c:Nat)(cs:Array Value)(k:Int)(w:World){d d2:DataW H}{p p2:List MemPlace}(h:DataW.Trod enc Tryz.prog w base sp held 22 (.slice a n c) d p)(h2:DataW.Trod enc Tryz.prog w base sp held 52 (.agg cs) d2 p2)(_: -9223372036854775808≤k)(_:k≤9223372036854775807):
    Calls Tryz.prog 5 #[.slice a n c, .agg cs, .int .i64 k] w fun e w'=>e= .returned (.bool true)∧Below w.heap.size w w':=by
 obtain⟨l,q⟩:=b8 h
 obtain⟨r2,⟨x,rfl⟩,k2⟩:=l9.agg h2
 refine Xf (vs:=[.slice a n c, .agg cs, .int .i64 k]) (l7 l x k) (GS w) (fun b o h=>h) ?_
 simp only[AX]
 exact⟨_,_,rfl,q,_,_,rfl,FQ (G:=⟨GS w,[],[]⟩) _ _ k2,_,_,rfl,by simp only[rep],rfl⟩
end Go.Proofs.YtbglbmnhgbgelaaGreatDoor
