/-
  Part 15 of the proof of WatchFollowsP: what the statement's proof uses of the texts in wip/tpl.
-/
import Derived.Test.YtbglbmnhgbgelaaGreatDoorQf14
open Go.Proofs.Tryz (prog)
set_option maxRecDepth 10000
set_option maxHeartbeats 4000000
set_option linter.unusedVariables false
set_option linter.unusedSimpArgs false
namespace Go.Proofs.YtbglbmnhgbgelaaGreatDoor
open Go.RowKit
def FQ(n:Int):Int:=IntKind.i64.wrap (0 - n)
def Bv(s:Syst)(pid:Int)(c:Cal):Syst×Res:=
 if C8 s.tab pid=false then(s,{Dr with exit:= -4})else if Bi c≠0 then(s,{Dr with exit:= -22})
 else if(EL s (AW s.tab pid) c).2.2≠0 then(s,{Dr with exit:=FQ (EL s (AW s.tab pid) c).2.2,items:=(EL s (AW s.tab pid) c).1})
 else if(BD (Ej s pid c)).2≠0 then(s,{Dr with exit:=FQ (BD (Ej s pid c)).2,items:=(EL s (AW s.tab pid) c).1})
 else((BD (Ej s pid c)).1.s,(BD (Ej s pid c)).1.r)
def Jb(R:Syst×Res):AV:= .tup [.agg (Bn R.1), .agg (Dz R.2)]
theorem Wr{α:Type}{sz:Nat}{F:α→List AV}(hF:RowF sz F)(l:List α)(cap0 cap:Nat):((LB sz F l cap0).drop 0).take (l.length * sz)++List.replicate ((cap - l.length) * sz) .any=LB sz F l cap:=by
 unfold LB;have h:=Tp (cap:=cap0) (Kn hF l);rw[List.length_map]at h;rw[h];unfold CT;rw[List.length_map]
def FR:List AV:=[.v (.slice none 0 0), .v (.slice none 0 0), .v (.int .i64 0), .v (.int .i64 0), .v (.slice none 0 0)]
def Fl:List AV:=[.v (.int .i64 0), .v (.int .i64 0), .v (.int .i64 0), .v (.slice none 0 0), .v (.slice none 0 0)]
def GC(r:Res)(I:AV):List AV:=[.v (.int .i64 r.exit), .v (.int .i64 r.child), .v (.int .i64 r.gone),I, .sl 7 (r.changes.map CY) none]
def CW(s:Syst)(pid:Int)(c:Cal):Wrk:=⟨s,AW s.tab pid,c,[],Dr⟩
theorem S9(s:Syst)(pid:Int)(c:Cal):LeA (.agg (Bn s++(B1 (AW s.tab pid)++(Dc c++[.v (.slice none 0 0), .v (.int .i64 0), .v (.int .i64 0), .v (.int .i64 0), .v (.slice none 0 0), .v (.slice none 0 0)])))) (.agg (D6 (CW s pid c) (.v (.slice none 0 0)) (.v (.slice none 0 0)))):=by
 refine LeA.agg ?_
 repeat (first|exact LeL.nil|refine LeL.cons (A9 _) ?_|refine LeL.cons (LeA.nil _) ?_)
theorem Lw(w:Wrk)(R:Cp):(BT w R).1.r.items.length=w.r.items.length:=by
 unfold BT;split<;>rfl
theorem PJ(w:Wrk)(R:Tab×Int):(C5 w R).1.r.items.length=w.r.items.length:=by
 unfold C5;split<;>rfl
theorem SA(w:Wrk)(i:Nat)(a:AA):(Gz w i a).r.items.length=w.r.items.length:=List.length_modify ..
theorem Ws(w:Wrk)(i:Nat)(r:Int):(G6 w i r).r.items.length=w.r.items.length:=List.length_modify ..
theorem SB(w:Wrk)(i:Nat)(n:Nod):(CO w i n).1.r.items.length=w.r.items.length:=by
 unfold CO;split
 ·rw[SA,Lw]
 rfl
theorem Wt(w:Wrk)(a:AA):(Fj w a).1.r.items.length=w.r.items.length:=by
 unfold Fj;rw[PJ];rfl
theorem Wu(w:Wrk):(CB w).1.r.items.length=w.r.items.length:=by
 unfold CB
 repeat' split
 all_goals first|rfl|exact SB _ _ _|exact Wt _ _|exact(Wt _ _).trans (SB _ _ _)
theorem jB(w:Wrk)(R:Cp)(x:AA):(G7 w R x).1.r.items.length=w.r.items.length:=by
 unfold G7
 repeat' split
 all_goals first|rfl|exact Lw _ _|exact(SA _ _ _).trans ((Ws _ _ _).trans (Lw _ _))
theorem Wv(w:Wrk):(Dl w).1.r.items.length=w.r.items.length:=by
 unfold Dl
 repeat' split
 all_goals first|rfl|exact jB _ _ _
theorem jC{w:Wrk}(h:w.c.num=6∨w.c.num=13):(BD w).1.r.items.length=w.r.items.length:=by
 rcases h with h|h
 ·rw[BD,if_pos h];exact Wu w
 rw[BD,if_neg (show¬w.c.num=6 by omega),if_neg (show¬w.c.num=8 by omega),if_neg (show¬(w.c.num=10∨w.c.num=12) by omega),if_pos h];exact Wv w
section
variable {P:Program}{ev:Operand→Option AV}{h:AH}{R:AV→AH→Prop}{d:Option Tmp}{ty:TypeId}{pos:String}{af:Array Edge}{gd:Option (Nat×Bool)}
theorem SC{T:TypeId}{x:Operand}{a:Int}(hx:ev x=some (.v (.int .i64 a)))(hR:R (.v (.int .i64 (FQ a))) h):AStep P ⟨d, .unOp .neg T x,ty,pos,af,gd⟩ ev h R:=
 DN (fun _ G w ec _ he=>⟨.int .i64 (FQ a),by
  have h1:=he x (by simp[Op.operands]) _ hx;simp only[rep]at h1
  simp[execOp,h1,Op.unary,Op.intArith,FQ],by simp only[rep]⟩) hR
end
section
theorem jD(w:Wrk)(cap:Nat)(hv:SpcV w.s.spc)(hm:w.s.spc.mounts.length≤1000)(htb:TabB w.s.tab)(hnm:∀f∈w.found,f.name.size≤12)(h6:(w.c.num=6∧1≤w.found.length∧1≤w.r.items.length)∨(w.c.num=13∧2≤w.found.length∧2≤w.r.items.length)):ACall prog 68 [.bp 0 0] [WA w cap,IB w cap] (fun r b t=>t=[]∧r= .v (.int .i64 (BD w).2)∧b=[WA (BD w).1 cap,IB (BD w).1 cap]):=by
 have hps:w.s.tab.ps.length≤1000:=by have:=htb.few;omega
 refine enter Tryz.func68 rfl rfl rfl rfl rfl 2 rfl ?_;refine w_ (a_ (h:=e_ (q_ (w_ (m_ (h:=k_ (h:=f_ (h:=f_ (h:=l_ (h:=e_ (Av (w_ (AR (h:=a_ (h:=e_ (?_))))))))))))))));refine A8 rfl (fun hb1=>?_) (fun hb1=>?_)
 ·have hc1:=bp hb1;obtain⟨f,hf⟩:∃f,w.found[0]?=some f:=⟨_,B9 (by omega)⟩;obtain⟨x,hx⟩:∃x,w.r.items[0]?=some x:=⟨_,B9 (by omega)⟩;have hact:BD w=CB w:=by rw[BD,if_pos hc1]
  refine w_ (m_ (h:=?_));refine A6 rfl (Bf [0,1] rfl (.cons _ _ _ _ _ rfl (A9 _) .nil) (by decide) (.cons _ _ _ _ _ rfl rfl (.cons _ _ _ _ _ rfl (Cr B6 _ _ _) .nil)) (Wh w cap f x hv hm htb hf hx (by have:=hnm f (Al hf);omega)) ?_);rintro r bc tc ⟨rfl,rfl,rfl⟩;refine⟨rfl,_,DH rfl (CB w).1 cap,?_⟩;refine a_ (h:=e_ (A4 (AY (A7 (?_)))));refine BU (r:= .v (.int .i64 (BD w).2)) none (h5:=(by rw[hact];exact A9 _)) (h6:=⟨rfl,rfl,?_⟩);rw[hact];rfl
 have hc1:=bp hb1;refine w_ (AR (h:=a_ (h:=e_ (?_))));refine A8 rfl (fun hb2=>?_) (fun hb2=>?_)
 ·have hc2:=bp hb2;exfalso;first|contradiction|omega
 have hc2:=bp hb2;refine q_ (w_ (AR (h:=a_ (h:=e_ (?_)))));refine A8 rfl (fun hb3=>?_) (fun hb3=>?_)
 ·have hc3:=bp hb3;exfalso;first|contradiction|omega
 have hc3:=bp hb3;refine AQ (AR (h:=a_ (h:=e_ (?_))));refine A8 rfl (fun hb4=>?_) (fun hb4=>?_)
 ·have hc4:=bp hb4;exfalso;first|contradiction|omega
 have hc4:=bp hb4;refine w_ (AR (h:=a_ (h:=e_ (?_))));refine A8 rfl (fun hb5=>?_) (fun hb5=>?_)
 ·have hc5:=bp hb5;obtain⟨f,hf⟩:∃f,w.found[0]?=some f:=⟨_,B9 (by omega)⟩;obtain⟨g,hg⟩:∃f,w.found[1]?=some f:=⟨_,B9 (by omega)⟩;obtain⟨x,hx⟩:∃x,w.r.items[0]?=some x:=⟨_,B9 (by omega)⟩;obtain⟨x1,hx1⟩:∃x,w.r.items[1]?=some x:=⟨_,B9 (by omega)⟩;have hact:BD w=Dl w:=by rw[BD,if_neg (show¬w.c.num=6 by omega),if_neg (show¬w.c.num=8 by omega),if_neg (show¬(w.c.num=10∨w.c.num=12) by omega),if_pos hc5]
  refine w_ (m_ (h:=?_));refine A6 rfl (Bf [0,1] rfl (.cons _ _ _ _ _ rfl (A9 _) .nil) (by decide) (.cons _ _ _ _ _ rfl rfl (.cons _ _ _ _ _ rfl (Cr B6 _ _ _) .nil)) (Wo w cap f g x x1 hv hm hps hf hg hx hx1 (by have:=hnm f (Al hf);omega) (by have:=hnm g (Al hg);omega)) ?_);rintro r bc tc ⟨rfl,rfl,rfl⟩;refine⟨rfl,_,DH rfl (Dl w).1 cap,?_⟩;refine a_ (h:=e_ (A4 (AY (A7 (?_)))));refine BU (r:= .v (.int .i64 (BD w).2)) none (h5:=(by rw[hact];exact A9 _)) (h6:=⟨rfl,rfl,?_⟩);rw[hact];rfl
 have hc5:=bp hb5;exfalso;first|contradiction|omega
theorem SD(s:Syst)(pid:Int)(c:Cal)(hv:SpcV s.spc)(hm:s.spc.mounts.length≤1000)(ht:TabB s.tab)(hcp:c.paths.length≤1000)(hca:c.args.length≤1000)(h6:c.num=6∨c.num=13):AFn prog 35 [.agg (Bn s), .v (.int .i64 pid), .agg (Dc c)] (fun r=>r=Jb (Bv s pid c)):=by
 have hsb:=hv.b hm;obtain⟨W1,hW1⟩:∃W,W=Ej s pid c:=⟨_,rfl⟩;have hwf:=Wq s pid c;rw[←hW1]at hwf;have hWs:W1.s=s:=by rw[hW1];rfl
 have hWc:W1.c=c:=by rw[hW1];rfl
 refine enter Tryz.func35 rfl rfl rfl rfl rfl 0 rfl ?_;refine w_ (b_ (h:=b_ (h:=AZ (h:=AZ (h:=e_ (w_ (f_ (h:=l_ (h:=m_ (h:=?_))))))))));refine A6 rfl (AK (GA s.tab pid ht) ?_);rintro r rfl;refine m_ (h:=x_ (h:=x_ (h:=AZ (h:=s_ (h:=a_ (h:=e_ (q_ (w_ (m_ (h:=BG (h:=e_ (?_))))))))))));refine A8 rfl (fun hb1=>?_) (fun hb1=>?_)
 ·have hc1:=bp hb1;have hno:C8 s.tab pid=false:=by simpa using hc1
  refine w_ (l_ (h:=?_));refine A6 rfl (AK (H9 s hsb ht) ?_);rintro r rfl;refine A6 rfl (Ex (y:= .agg (Dz {Dr with exit:= -4})) (DD ⟨rfl,rfl⟩) ?_);refine s_ (h:=s_ (h:=e_ (A4 (A7 (?_)))));refine AJ ?_;rw[Bv,if_pos hno];rfl
 have hc1:=bp hb1;have hno:¬C8 s.tab pid=false:=by simpa using hc1
 refine AN (q_ (w_ (l_ (h:=?_))));refine A6 rfl (AK (Rn c hcp hca) ?_);rintro r rfl;refine BV (h:=e_ (?_));refine A8 rfl (fun hb2=>?_) (fun hb2=>?_)
 ·have hc2:=bp hb2;have hck:Bi c≠0:=by simpa using hc2
  refine w_ (l_ (h:=?_));refine A6 rfl (AK (H9 s hsb ht) ?_);rintro r rfl;refine A6 rfl (Ex (y:= .agg (Dz {Dr with exit:= -22})) (DD ⟨rfl,rfl⟩) ?_);refine s_ (h:=s_ (h:=e_ (A4 (A7 (?_)))));refine AJ ?_;rw[Bv,if_neg hno,if_pos hck];rfl
 have hc2:=bp hb2;have hck:Bi c=0:=by simpa using hc2
 obtain⟨hk1,hk2,hk3,hk4,hk5⟩:=S7 hck;have hargs:∀p∈(CW s pid c).c.args,p.size≤1000:=fun p hp=>by have:=hk5 p hp;omega
 have hpaths:∀p∈(CW s pid c).c.paths,p.size≤100000:=fun p hp=>by have:=hk4 p hp;omega
 have hpn:(c.num=6∧c.paths.length=1∧(CK c).length=1)∨(c.num=13∧c.paths.length=2∧(CK c).length=2):=by
  rcases h6 with h|h
  ·refine .inl ⟨h,?_,?_⟩
   ·rw[h]at hk1;have:(Br 6).2.2.1=1:=rfl;omega
   simp[CK,h]
  refine .inr ⟨h,?_,?_⟩
  ·rw[h]at hk1;have:(Br 13).2.2.1=2:=rfl;omega
  simp[CK,h]
 have hpp:(CW s pid c).c.paths.length=(CK (CW s pid c).c).length:=by show c.paths.length=(CK c).length;omega
 have hp0:0<(CW s pid c).c.paths.length:=by show 0<c.paths.length;omega
 have hzl:(c.paths.zip (CK c)).length=c.paths.length:=by rw[List.length_zip];omega
 have hil0:0<W1.r.items.length:=by rw[hwf.2.2,hzl];omega
 refine AN (q_ (BO ([(0,Bn s),(1,Dc c),(4,B1 (AW s.tab pid))]) 7 (h:=?_)));refine AM 0 (h:=?_);refine AM 2 (h:=?_);refine AM 3 (h:=?_);refine c_ 1 rfl (AK (H9 s hsb ht) ?_);rintro r rfl;refine o_ (h:=?_);refine Bz 4 rfl (fun _ hS=>FF (y:= .agg (D6 (CW s pid c) (.v (.slice none 0 0)) (.v (.slice none 0 0)))) (DD ⟨rfl,rfl⟩) (S9 s pid c) ⟨rfl,rfl⟩) ?_;refine c_ 5 rfl (MQ rfl rfl (by repeat constructor) ?_);refine o_ (h:=BK 6 (h:=z_ (h:=t_ (?_))));refine BE (fun S=>∃cap,W1.r.items.length≤cap∧S=⟨look [(3, .bp 2 0),(6, .bp 3 0),(7, .bp 4 0),(10, .bp 0 0),(11, .v (.int .i64 (EL s (AW s.tab pid) c).2.2))],⟨[WA W1 cap,IB W1 cap,Bn s,FR,Fl],[]⟩⟩) ?_ ?_
 ·skip
  refine AQ (m_ (h:=m_ (h:=?_)));refine A6 rfl (Cn 1 rfl (.cons _ _ _ _ _ rfl (LeA.of_eq rfl) .nil) (S8 (CW s pid c) (.v (.slice none 0 0)) (.v (.slice none 0 0)) (fun h=>by have:c.num=9:=h;omega) hargs) ?_);rintro r rfl;refine⟨rfl,?_⟩;refine A6 rfl (Bf [5] rfl (.cons _ _ _ _ _ rfl (A9 _) (.cons _ _ _ _ _ rfl (A9 _) .nil)) (by decide) (.cons _ _ _ _ _ rfl rfl .nil) (We (CW s pid c) (Cl (AW s.tab pid) c) hv hm hpp (by show c.paths.length≤1000;omega) hp0 hpaths) ?_);rintro r bc tc ⟨rfl,cap,hcap,rfl,rfl⟩;refine⟨rfl,_,Wp (CW s pid c) _ _ cap _,?_⟩;refine a_ (h:=AP (?_));refine AF ?_;rw[hW1];exact⟨_,⟨cap,hcap,rfl⟩,EB [5,6,0,2,3] (fun i hi=>absurd hi (Nat.not_lt_zero i)) (by decide) (.cons _ _ _ _ _ rfl rfl (.cons _ _ _ _ _ rfl (H7 B6 _ _ _) (.cons _ _ _ _ _ rfl rfl (.cons _ _ _ _ _ rfl rfl (.cons _ _ _ _ _ rfl rfl .nil))))) (by repeat (first|exact SubK.nil|refine SubK.cons _ _ _ _ rfl (A9 _) ?_))⟩
 rintro S ⟨cap,hcap,rfl⟩;refine w_ (m_ (h:=k_ (h:=f_ (h:=f_ (h:=l_ (h:=?_))))));refine A6 rfl (MX rfl rfl (SrcA.bs 1 0 _ cap _ rfl (by rw[show IB W1 cap=LB 13 CL W1.r.items cap from rfl,NR B6 hcap];omega)) hil0 (by rw[hwf.2.2,hzl];omega) ?_);rintro cap2 k bx2 hcp2 hs;rw[show((IB W1 cap).drop 0).take (W1.r.items.length * 13)++List.replicate ((cap2 - W1.r.items.length) * 13) AV.any=LB 13 CL W1.r.items cap2 from Wr B6 _ cap cap2]at hs;obtain⟨rfl,rfl⟩:k=5∧bx2=[_,_,_,_,_,_]:=hs.eq;refine a_ (h:=e_ (?_));refine BE (fun S=>∃(W2:Wrk) (E2:Int),((¬(EL s (AW s.tab pid) c).2.2=0∧E2=(EL s (AW s.tab pid) c).2.2)∨((EL s (AW s.tab pid) c).2.2=0∧W2=(BD W1).1∧E2=(BD W1).2))∧S=⟨look [(3, .bp 2 0),(6, .bp 3 0),(7, .bp 4 0),(10, .bp 0 0),(11, .v (.int .i64 E2)),(12, .bs 5 0 13 W1.r.items.length cap2)],⟨[WA W2 cap,IB W2 cap,Bn s,FR,Fl,LB 13 CL W1.r.items cap2],[]⟩⟩) ?_ ?_
 ·skip
  refine w_ (m_ (h:=AR (h:=e_ (?_))));refine A8 rfl (fun hb3=>?_) (fun hb3=>?_)
  ·have hc3:=bp hb3;have he1:(EL s (AW s.tab pid) c).2.2=0:=by simpa using hc3
   refine AQ (m_ (h:=?_));refine A6 rfl (Bf [0,1] rfl (.cons _ _ _ _ _ rfl (A9 _) .nil) (by decide) (.cons _ _ _ _ _ rfl rfl (.cons _ _ _ _ _ rfl (Cr B6 _ _ _) .nil)) (jD W1 cap (by rw[hWs];exact hv) (by rw[hWs];exact hm) (by rw[hWs];exact ht) hwf.1 (by rw[hWc,hwf.2.1,hwf.2.2,hzl];omega)) ?_);rintro r bc tc ⟨rfl,rfl,rfl⟩;refine⟨rfl,_,DH rfl (BD W1).1 cap,?_⟩;refine a_ (h:=AP (?_));refine AF ?_;exact⟨_,⟨(BD W1).1,(BD W1).2, .inr ⟨he1,rfl,rfl⟩,rfl⟩,Az 6 0 rfl rfl rfl (by simp[Ai,Ac,Ab,Bj B6,BL,WA,IB,CN,Bn,FR,Fl]) ((by repeat (first|exact Sub.nil|refine B0 rfl rfl ?_|refine B2 ?_|refine B3 rfl ?_|refine B4 rfl ?_)))⟩
  have hc3:=bp hb3;have he1:¬(EL s (AW s.tab pid) c).2.2=0:=by simpa using hc3
  refine BM (?_);refine AF ?_
  first|exact⟨_,⟨(BD W1).1,(BD W1).2, .inr ⟨he1,rfl,rfl⟩,rfl⟩,Az 6 0 rfl rfl rfl (by simp[Ai,Ac,Ab,Bj B6,BL,WA,IB,CN,Bn,FR,Fl]) ((by repeat (first|exact Sub.nil|refine B0 rfl rfl ?_|refine B2 ?_|refine B3 rfl ?_|refine B4 rfl ?_)))⟩|exact⟨_,⟨W1,_, .inl ⟨he1,rfl⟩,rfl⟩,Az 6 0 rfl rfl rfl (by simp[Ai,Ac,Ab,Bj B6,BL,WA,IB,CN,Bn,FR,Fl]) ((by repeat (first|exact Sub.nil|refine B0 rfl rfl ?_|refine B2 ?_|refine B3 rfl ?_|refine B4 rfl ?_)))⟩
 rintro S ⟨W2,E2,hQ,rfl⟩;refine q_ (w_ (m_ (h:=BV (h:=e_ (?_)))));refine A8 rfl (fun hb4=>?_) (fun hb4=>?_)
 ·have hc4:=bp hb4;have he2:E2≠0:=by simpa using hc4
  have hrun:Bv s pid c=(s,{Dr with exit:=FQ E2,items:=W1.r.items}):=by
   rw[Bv,if_neg hno,if_neg (by simp[hck])];rcases hQ with⟨q1,q2⟩|⟨q1,q2,q3⟩
   ·rw[if_pos q1,←q2,hW1];rfl
   rw[if_neg (by simp[q1]),←hW1,←q3,if_pos he2,hW1];rfl
  refine BE (fun S=>S=⟨look [(6, .bp 0 0),(7, .bp 1 0)],⟨[Bn s,GC {Dr with exit:=FQ E2} (.sl 13 (W1.r.items.map CL) none)],[]⟩⟩) ?_ ?_
  ·skip
   refine AQ (l_ (h:=?_));refine A6 rfl (AK (H9 s hsb ht) ?_);rintro r rfl;refine m_ (h:=?_);refine A6 rfl (SC rfl ?_);refine m_ (h:=?_);refine A6 rfl (Ex (y:= .agg (GC {Dr with exit:=FQ E2} (.bs 5 0 13 W1.r.items.length cap2))) (DD ⟨rfl,rfl⟩) ?_);refine s_ (h:=s_ (h:=AP (?_)));refine AF ?_;refine⟨_,rfl,(EB [3,4,5] (rows:=[Bn s,GC {Dr with exit:=FQ E2} (.bs 2 0 13 W1.r.items.length cap2),LB 13 CL W1.r.items cap2]) (l:=[(6, .bp 0 0),(7, .bp 1 0)]) (fun i hi=>absurd hi (Nat.not_lt_zero i)) (by decide) (.cons _ _ _ _ _ rfl rfl (.cons _ _ _ _ _ rfl rfl (.cons _ _ _ _ _ rfl (H7 B6 _ _ _) .nil))) (by repeat (first|exact SubK.nil|refine SubK.cons _ _ _ _ rfl (A9 _) ?_))).trans (FJ 2 1 rfl (congrArg (fun x=>[Bn s,GC {Dr with exit:=FQ E2} x]) (Ko B6 rfl rfl hcp2)) (.cons _ _ _ _ rfl (A9 _) (.cons _ _ _ _ rfl (A9 _) .nil)))⟩
  rintro S rfl;refine A4 (A7 (?_));refine Am (r:=Jb (Bv s pid c)) none (h5:=(by rw[hrun];exact(by repeat (first|exact A9 _|exact LeA.nil _|exact LeL.refl _|refine LeA.agg ?_|refine LeA.tup ?_|exact LeL.nil|refine LeL.cons ?_ ?_|exact LeA.any _)))) (h6:=⟨rfl,rfl,rfl⟩)
 have hc4:=bp hb4;have he2:E2=0:=by simpa using hc4
 have hlen2:W2.r.items.length≤cap:=by
  rcases hQ with⟨q1,q2⟩|⟨q1,q2,q3⟩
  ·exact absurd (q2.symm.trans he2) q1
  rw[q2,jC (by rw[hWc];exact h6)];exact hcap
 have hrun:Bv s pid c=(W2.s,W2.r):=by
  rcases hQ with⟨q1,q2⟩|⟨q1,q2,q3⟩
  ·exact absurd (q2.symm.trans he2) q1
  rw[Bv,if_neg hno,if_neg (by simp[hck]),if_neg (by simp[q1]),←hW1,←q3,if_neg (by simp[he2]),q2]
 refine AN (?_);refine BE (fun S=>S=⟨look [(6, .bp 0 0),(7, .bp 1 0)],⟨[Bn W2.s,GC W2.r (.sl 13 (W2.r.items.map CL) none)],[]⟩⟩) ?_ ?_
 ·skip
  refine BO ([(0,WA W2 cap)]) 10 (h:=AO 0 (h:=BC 1 (h:=AG 2 (h:=AM 3 (h:=AO 4 (h:=BC 5 (h:=AG 6 (h:=AM 7 (h:=?_)))))))));refine Aj 8 rfl (Af rfl rfl rfl rfl rfl rfl (by repeat constructor) (by repeat constructor) ?_);refine o_ (h:=?_);refine Aj 9 rfl (Af rfl rfl rfl rfl rfl rfl (by repeat constructor) (by repeat constructor) ?_);refine o_ (h:=z_ (h:=?_));refine AF ?_;refine⟨_,rfl,(EB [3,4,1] (rows:=[Bn W2.s,GC W2.r (.bs 2 0 13 W2.r.items.length cap),LB 13 CL W2.r.items cap]) (l:=[(6, .bp 0 0),(7, .bp 1 0)]) (fun i hi=>absurd hi (Nat.not_lt_zero i)) (by decide) (.cons _ _ _ _ _ rfl rfl (.cons _ _ _ _ _ rfl rfl (.cons _ _ _ _ _ rfl (H7 B6 _ _ _) .nil))) (by repeat (first|exact SubK.nil|refine SubK.cons _ _ _ _ rfl (A9 _) ?_))).trans (FJ 2 1 rfl (congrArg (fun x=>[Bn W2.s,GC W2.r x]) (Ko B6 rfl rfl hlen2)) (.cons _ _ _ _ rfl (A9 _) (.cons _ _ _ _ rfl (A9 _) .nil)))⟩
 rintro S rfl;refine A4 (?_);refine AJ ?_;rw[hrun];rfl
end
theorem Ww(w:Wrk)(R:Cp):(BT w R).1.r.items=w.r.items:=by
 unfold BT;split<;>rfl
section
theorem jE(w:Wrk)(cap:Nat)(f g:Fnd)(x1:Itm)(hv:SpcV w.s.spc)(hm:w.s.spc.mounts.length≤1000)(hf:w.found[0]?=some f)(hg:w.found[1]?=some g)(hx1:w.r.items[1]?=some x1)(hn2:g.name.size≤100000):ACall prog 115 [.bp 0 0] [WA w cap,IB w cap] (fun r b t=>t=[]∧r= .v (.int .i64 (EK w).2)∧b=[WA (EK w).1 cap,IB (EK w).1 cap]):=by
 have hsb:=hv.b hm;have hrow0:(w.found.map Aq)[0]?=some (Aq f):=by rw[List.getElem?_map,hf];rfl
 have hrow1:(w.found.map Aq)[1]?=some (Aq g):=by rw[List.getElem?_map,hg];rfl
 have hfn:B7 w 0=f:=by unfold B7;rw[hf];rfl
 have hgn:B7 w 1=g:=by unfold B7;rw[hg];rfl
 obtain⟨R,hR⟩:∃R,R=DP w.s.spc.files g.dir g.name f.file:=⟨_,rfl⟩;have hok:=RJ hv.files g.dir g.name f.file;rw[←hR]at hok;have hcall:AFn prog 46 [.agg (Ay w.s.spc.files), .agg (AE g.dir), .v (.string g.name), .agg (AE f.file)] (fun r=>r=CV R):=by rw[hR];exact b8 _ _ _ _ hv.files hn2
 have hlk:EK w=if f.ex=false then(w,2)else if AT w.s.spc.files f.file=true then(w,1)else if g.ex=true then(w,17)else if g.slash=true then(w,2)else if f.file.1≠g.dir.1 then(w,18)else if CA w g.dir 2=false then(w,13)else if R.2.2≠0 then(w,R.2.2)else(Gz (BT w R).1 1 f.file,0):=by
  unfold EK Gy;rw[hfn,hgn,←hR]
 clear hR;refine enter Tryz.func115 rfl rfl rfl rfl rfl 2 rfl ?_;refine w_ (a_ (h:=e_ (?_)));refine BE (fun S=>S=⟨look [(0, .bp 0 0),(3, .bp 2 0),(4, .bp 3 0)],⟨[WA w cap,IB w cap,Aq f,Aq g],[]⟩⟩) ?_ ?_
 ·skip
  refine BO ([(0,WA w cap)]) 16 (h:=AO 0 (h:=BC 1 (h:=AG 2 (h:=AM 3 (h:=?_)))));refine Bz 4 rfl (fun _ hS=>Ci (n:=0) rfl rfl rfl hrow0 ⟨rfl,rfl⟩) ?_;refine AM 5 (h:=AO 6 (h:=BC 7 (h:=AG 8 (h:=AM 9 (h:=?_)))));refine Bz 10 rfl (fun _ hS=>Ci (n:=1) rfl rfl rfl hrow1 ⟨rfl,rfl⟩) ?_;refine AM 11 (h:=?_);refine Co 12 13 rfl rfl ?_ ?_
  ·refine BQ (by repeat constructor) ?_;refine o_ (h:=?_);refine c_ 13 rfl (BQ (by repeat constructor) ?_);refine o_ (h:=?_);refine Aj 14 rfl (Af rfl rfl rfl rfl rfl rfl (by repeat constructor) (by repeat constructor) ?_);refine o_ (h:=?_);refine Aj 15 rfl (Af rfl rfl rfl rfl rfl rfl (by repeat constructor) (by repeat constructor) ?_);refine o_ (h:=z_ (h:=?_));refine AF ?_;exact⟨_,rfl,Cc 4 0⟩
  refine BQ (by repeat constructor) ?_;refine o_ (h:=?_);refine c_ 12 rfl (BQ (by repeat constructor) ?_);refine o_ (h:=?_);refine Aj 14 rfl (Af rfl rfl rfl rfl rfl rfl (by repeat constructor) (by repeat constructor) ?_);refine o_ (h:=?_);refine Aj 15 rfl (Af rfl rfl rfl rfl rfl rfl (by repeat constructor) (by repeat constructor) ?_);refine o_ (h:=z_ (h:=?_));refine AF ?_
  first|exact⟨_,rfl,Cc 4 0⟩|exact⟨_,rfl,EB [0,1,3,2] Om (by decide) (.cons _ _ _ _ _ rfl rfl (.cons _ _ _ _ _ rfl (H7 B6 _ _ _) (.cons _ _ _ _ _ rfl rfl (.cons _ _ _ _ _ rfl rfl .nil)))) (by repeat (first|exact SubK.nil|refine SubK.cons _ _ _ _ rfl (A9 _) ?_))⟩
 rintro S rfl;refine q_ (Av (w_ (f_ (h:=l_ (h:=BG (h:=a_ (h:=e_ (?_))))))));refine A8 rfl (fun hb1=>?_) (fun hb1=>?_)
 ·have hc1:=bp hb1;have k1:f.ex=false:=by simpa using hc1
  refine w_ (a_ (h:=e_ (A4 (AY (A7 (?_))))));refine BU (r:= .v (.int .i64 (EK w).2)) none (h5:=(by rw[hlk,if_pos k1];exact A9 _)) (h6:=⟨rfl,rfl,?_⟩);rw[hlk,if_pos k1];rfl
 have hc1:=bp hb1;have k1:¬f.ex=false:=by simpa using hc1
 refine w_ (m_ (h:=?_));refine A6 rfl (Cn 1 rfl (.cons _ _ _ _ _ rfl (LeA.of_eq rfl) (.cons _ _ _ _ _ rfl (A9 _) .nil)) (KE w .any 0 f hsb hf) ?_);rintro r rfl;refine⟨rfl,?_⟩;refine a_ (h:=e_ (?_));refine A8 rfl (fun hb2=>?_) (fun hb2=>?_)
 ·have hc2:=bp hb2;have k2:AT w.s.spc.files f.file=true:=hc2;refine w_ (a_ (h:=e_ (A4 (AY (A7 (?_))))));refine BU (r:= .v (.int .i64 (EK w).2)) none (h5:=(by rw[hlk,if_neg k1,if_pos k2];exact A9 _)) (h6:=⟨rfl,rfl,?_⟩);rw[hlk,if_neg k1,if_pos k2];rfl
 have hc2:=bp hb2;have k2:¬AT w.s.spc.files f.file=true:=by simpa using hc2
 refine w_ (f_ (h:=l_ (h:=a_ (h:=e_ (?_)))));refine A8 rfl (fun hb3=>?_) (fun hb3=>?_)
 ·have hc3:=bp hb3;have k3:g.ex=true:=hc3;refine w_ (a_ (h:=e_ (A4 (AY (A7 (?_))))));refine BU (r:= .v (.int .i64 (EK w).2)) none (h5:=(by rw[hlk,if_neg k1,if_neg k2,if_pos k3];exact A9 _)) (h6:=⟨rfl,rfl,?_⟩);rw[hlk,if_neg k1,if_neg k2,if_pos k3];rfl
 have hc3:=bp hb3;have k3:¬g.ex=true:=by simpa using hc3
 refine w_ (f_ (h:=l_ (h:=a_ (h:=e_ (?_)))));refine A8 rfl (fun hb4=>?_) (fun hb4=>?_)
 ·have hc4:=bp hb4;have k4:g.slash=true:=hc4;refine w_ (a_ (h:=e_ (A4 (AY (A7 (?_))))));refine BU (r:= .v (.int .i64 (EK w).2)) none (h5:=(by rw[hlk,if_neg k1,if_neg k2,if_neg k3,if_pos k4];exact A9 _)) (h6:=⟨rfl,rfl,?_⟩);rw[hlk,if_neg k1,if_neg k2,if_neg k3,if_pos k4];rfl
 have hc4:=bp hb4;have k4:¬g.slash=true:=by simpa using hc4
 refine w_ (f_ (h:=f_ (h:=l_ (h:=f_ (h:=f_ (h:=l_ (h:=BV (h:=a_ (h:=e_ (?_))))))))));refine A8 rfl (fun hb5=>?_) (fun hb5=>?_)
 ·have hc5:=bp hb5;have k5:f.file.1≠g.dir.1:=by simpa using hc5
  refine w_ (a_ (h:=e_ (A4 (AY (A7 (?_))))));refine BU (r:= .v (.int .i64 (EK w).2)) none (h5:=(by rw[hlk,if_neg k1,if_neg k2,if_neg k3,if_neg k4,if_pos k5];exact A9 _)) (h6:=⟨rfl,rfl,?_⟩);rw[hlk,if_neg k1,if_neg k2,if_neg k3,if_neg k4,if_pos k5];rfl
 have hc5:=bp hb5;have k5:¬f.file.1≠g.dir.1:=by simpa using hc5
 refine w_ (m_ (h:=f_ (h:=l_ (h:=?_))));refine A6 rfl (Cn 1 rfl (.cons _ _ _ _ _ rfl (LeA.of_eq rfl) (.cons _ _ _ _ _ rfl (A9 _) (.cons _ _ _ _ _ rfl (A9 _) .nil))) (Hl w .any g.dir 2 hsb) ?_);rintro r rfl;refine⟨rfl,?_⟩;refine BG (h:=a_ (h:=e_ (?_)));refine A8 rfl (fun hb6=>?_) (fun hb6=>?_)
 ·have hc6:=bp hb6;have k6:CA w g.dir 2=false:=by simpa using hc6
  refine w_ (a_ (h:=e_ (A4 (AY (A7 (?_))))));refine BU (r:= .v (.int .i64 (EK w).2)) none (h5:=(by rw[hlk,if_neg k1,if_neg k2,if_neg k3,if_neg k4,if_neg k5,if_pos k6];exact A9 _)) (h6:=⟨rfl,rfl,?_⟩);rw[hlk,if_neg k1,if_neg k2,if_neg k3,if_neg k4,if_neg k5,if_pos k6];rfl
 have hc6:=bp hb6;have k6:¬CA w g.dir 2=false:=by simpa using hc6
 refine BM (B8 (t_ (?_)));refine BE (fun S=>S=⟨look [(0, .bp 0 0),(3, .bp 2 0),(5, .v (.int .i64 R.2.2))],⟨[WA (BT w R).1 cap,IB (BT w R).1 cap,Aq f],[]⟩⟩) ?_ ?_
 ·skip
  refine BO ([(0,WA w cap),(1,IB w cap),(2,Aq f),(3,Aq g)]) 17 (h:=AO 0 (h:=AO 1 (h:=BC 2 (h:=AG 3 (h:=AG 4 (h:=AG 5 (h:=AM 6 (h:=AG 7 (h:=AM 8 (h:=AG 9 (h:=AM 10 (h:=AG 11 (h:=AM 12 (h:=?_))))))))))))));refine c_ 13 rfl (AK (hcall) ?_);rintro r rfl;refine o_ (h:=Au 14 (h:=Au 15 (h:=Au 16 (h:=?_))));refine c_ 17 rfl (Bf [0,1] rfl (.cons _ _ _ _ _ rfl (A9 _) (.cons _ _ _ _ _ rfl (A9 _) (.cons _ _ _ _ _ rfl (A9 _) (.cons _ _ _ _ _ rfl (A9 _) .nil)))) (by decide) (.cons _ _ _ _ _ rfl rfl (.cons _ _ _ _ _ rfl (Cr B6 _ _ _) .nil)) (Lu w cap R.1 R.2.1 R.2.2) ?_);rintro r bc tc ⟨rfl,rfl,rfl⟩;refine⟨rfl,_,DH rfl ((BT w R).1) cap,?_⟩;refine o_ (h:=?_);refine c_ 18 rfl (Fe rfl ?_);refine o_ (h:=z_ (h:=?_));refine AF ?_;exact⟨_,rfl,Cc 3 0⟩
 rintro S rfl;refine q_ (w_ (m_ (h:=AR (h:=e_ (?_)))));refine A8 rfl (fun hb7=>?_) (fun hb7=>?_)
 ·have hc7:=bp hb7;have h0:R.2.2=0:=hc7;have hfb:FlsB (BT w R).1.s.spc.files:=by rw[Hm h0];exact(hok h0).1.b
  have hxr:(BT w R).1.r.items[1]?=some x1:=by rw[Ww];exact hx1
  refine AQ (m_ (h:=f_ (h:=l_ (h:=?_))));refine A6 rfl (Bf [0,1] rfl (.cons _ _ _ _ _ rfl (A9 _) (.cons _ _ _ _ _ rfl (A9 _) (.cons _ _ _ _ _ rfl (A9 _) .nil))) (by decide) (.cons _ _ _ _ _ rfl rfl (.cons _ _ _ _ _ rfl (Cr B6 _ _ _) .nil)) (S4 (BT w R).1 cap 1 f.file x1 hfb hxr) ?_);rintro r bc tc ⟨rfl,rfl,rfl⟩;refine⟨rfl,_,DH rfl (Gz (BT w R).1 1 f.file) cap,?_⟩;refine e_ (w_ (m_ (h:=a_ (h:=e_ (A4 (?_))))));refine BU (r:= .v (.int .i64 (EK w).2)) none (h5:=(by rw[hlk,if_neg k1,if_neg k2,if_neg k3,if_neg k4,if_neg k5,if_neg k6,if_neg (by simp[h0])];exact LeA.of_eq (vi h0))) (h6:=⟨rfl,rfl,?_⟩);rw[hlk,if_neg k1,if_neg k2,if_neg k3,if_neg k4,if_neg k5,if_neg k6,if_neg (by simp[h0])];rfl
 have hc7:=bp hb7;have h0:¬R.2.2=0:=hc7;refine AN (w_ (m_ (h:=a_ (h:=e_ (A4 (?_))))));refine BU (r:= .v (.int .i64 (EK w).2)) none (h5:=(by rw[hlk,if_neg k1,if_neg k2,if_neg k3,if_neg k4,if_neg k5,if_neg k6,if_pos h0];exact A9 _)) (h6:=⟨rfl,rfl,?_⟩);rw[hlk,if_neg k1,if_neg k2,if_neg k3,if_neg k4,if_neg k5,if_neg k6,if_pos h0];rw[Lv h0];rfl
theorem Wx(w:Wrk)(cap:Nat)(f:Fnd)(x0:Itm)(hv:SpcV w.s.spc)(hm:w.s.spc.mounts.length≤1000)(hps:w.s.tab.ps.length≤1000)(hf:w.found[0]?=some f)(hx0:w.r.items[0]?=some x0)(hn:f.name.size≤100000):ACall prog 116 [.bp 0 0] [WA w cap,IB w cap] (fun r b t=>t=[]∧r= .v (.int .i64 (Dk w).2)∧b=[WA (Dk w).1 cap,IB (Dk w).1 cap]):=by
 have hsb:=hv.b hm;have hrow0:(w.found.map Aq)[0]?=some (Aq f):=by rw[List.getElem?_map,hf];rfl
 have hfn:B7 w 0=f:=by unfold B7;rw[hf];rfl
 have hil:0<w.r.items.length:=(As.1 hx0).1;obtain⟨R1,hR1⟩:∃R,R=EG w.s.spc.files f.dir f.name:=⟨_,rfl⟩;obtain⟨R2,hR2⟩:∃R,R=Dw w.s.spc.files f.dir f.name:=⟨_,rfl⟩;have hcall1:AFn prog 47 [.agg (Ay w.s.spc.files), .agg (AE f.dir), .v (.string f.name)] (fun r=>r=CV R1):=by rw[hR1];exact bB _ _ _ hv.files hn
 have hcall2:AFn prog 126 [.agg (Ay w.s.spc.files), .agg (AE f.dir), .v (.string f.name)] (fun r=>r=CV R2):=by rw[hR2];exact bC _ _ _ hv.files hn
 obtain⟨y,hyd⟩:∃y,y=(AB w.s.spc.files f.dir f.name).1:=⟨_,rfl⟩;have hl1:AFn prog 38 [.agg (Ay w.s.spc.files), .agg (AE f.dir), .v (.string f.name)] (fun r=>r= .tup [.agg (AE y), .v (.int .i64 (AB w.s.spc.files f.dir f.name).2)]):=by rw[hyd];exact Gm _ _ _ hsb.files
 have hrm:Dk w=if f.ex=false then(w,2)else if w.c.num=10 then(if f.name=⟨#[]⟩∨AT w.s.spc.files f.file=true then(w,21)else if CA w f.dir 2=false then(w,13)else Fk w R1)else(if f.name=⟨#[]⟩then(w,16)else if AT w.s.spc.files f.file=false then(w,20)else if G5 w y=true then(w,16)else if CA w f.dir 2=false then(w,13)else Fk w R2):=by
  unfold Dk Gy;rw[hfn,←hR1,←hR2,←hyd]
 clear hR1 hR2 hyd;refine enter Tryz.func116 rfl rfl rfl rfl rfl 2 rfl ?_;refine w_ (a_ (h:=e_ (w_ (m_ (h:=k_ (h:=f_ (h:=l_ (h:=?_))))))));refine A6 rfl (Ci (n:=0) rfl rfl rfl hrow0 ?_);refine l_ (h:=AZ (h:=s_ (h:=e_ (q_ (w_ (f_ (h:=l_ (h:=BG (h:=e_ (?_))))))))));refine A8 rfl (fun hb1=>?_) (fun hb1=>?_)
 ·have hc1:=bp hb1;have k1:f.ex=false:=by simpa using hc1
  refine w_ (a_ (h:=e_ (A4 (A7 (?_)))));refine BU (r:= .v (.int .i64 (Dk w).2)) none (h5:=(by rw[hrm,if_pos k1];exact A9 _)) (h6:=⟨rfl,rfl,?_⟩);rw[hrm,if_pos k1];rfl
 have hc1:=bp hb1;have k1:¬f.ex=false:=by simpa using hc1
 refine AN (w_ (a_ (h:=e_ (?_))));refine BE (fun S=>∃R,Dk w=Fk w R∧S=⟨look [(0, .bp 0 0),(4, .v (.int .i64 R.2.2))],⟨[WA (BT w R).1 cap,IB (BT w R).1 cap],[]⟩⟩) ?_ ?_
 ·skip
  refine w_ (m_ (h:=k_ (h:=f_ (h:=f_ (h:=l_ (h:=AR (h:=e_ (?_))))))));refine A8 rfl (fun hb2=>?_) (fun hb2=>?_)
  ·have hc2:=bp hb2;have k2:w.c.num=10:=hc2;refine q_ (?_);refine BE (fun S=>S=⟨look [(0, .bp 0 0),(3, .bp 2 0),(28, .v (.bool (decide (f.name=⟨#[]⟩)||AT w.s.spc.files f.file)))],⟨[WA w cap,IB w cap,Aq f],[]⟩⟩) ?_ ?_
   ·skip
    refine AQ (f_ (h:=l_ (h:=AR (h:=m_ (h:=?_)))));refine B5 false rfl rfl (fun hb3=>?_) (fun hb3=>?_)
    ·have hc3:=bp hb3;refine A3 (h:=A3 (h:=Ag (h:=AP (?_))));refine AF ?_;exact⟨_,rfl,CM 3 0 (by simp[Ai,Ac,Ab,Bj B6,BL,WA,IB,CN,Aq,Ak,AE,Ax,Ao,Ay])⟩
    have hc3:=bp hb3;refine m_ (h:=?_);refine BB (Cn 1 rfl (.cons _ _ _ _ _ rfl (LeA.of_eq rfl) (.cons _ _ _ _ _ rfl (A9 _) .nil)) (KE w .any 0 f hsb hf) ?_);rintro r rfl;refine⟨rfl,?_⟩;refine Ar (h:=AP (?_));refine AF ?_;exact⟨_,rfl,CM 3 0 (by simp[Ai,Ac,Ab,Bj B6,BL,WA,IB,CN,Aq,Ak,AE,Ax,Ao,Ay])⟩
   rintro S rfl;refine A8 rfl (fun hb4=>?_) (fun hb4=>?_)
   ·have hc4:=bp hb4;have k3:f.name=⟨#[]⟩∨AT w.s.spc.files f.file=true:=by simpa using hc4
    refine w_ (a_ (h:=e_ (A4 (A7 (A7 (?_))))));refine BU (r:= .v (.int .i64 (Dk w).2)) none (h5:=(by rw[hrm,if_neg k1,if_pos k2,if_pos k3];exact A9 _)) (h6:=⟨rfl,rfl,?_⟩);rw[hrm,if_neg k1,if_pos k2,if_pos k3];rfl
   have hc4:=bp hb4;have k3:¬(f.name=⟨#[]⟩∨AT w.s.spc.files f.file=true):=by simpa using hc4
   refine AN (q_ (w_ (m_ (h:=f_ (h:=l_ (h:=?_))))));refine A6 rfl (Cn 1 rfl (.cons _ _ _ _ _ rfl (LeA.of_eq rfl) (.cons _ _ _ _ _ rfl (A9 _) (.cons _ _ _ _ _ rfl (A9 _) .nil))) (Hl w .any f.dir 2 hsb) ?_);rintro r rfl;refine⟨rfl,?_⟩;refine BG (h:=e_ (?_));refine A8 rfl (fun hb5=>?_) (fun hb5=>?_)
   ·have hc5:=bp hb5;have k4:CA w f.dir 2=false:=by simpa using hc5
    refine w_ (a_ (h:=e_ (A4 (A7 (A7 (?_))))));refine BU (r:= .v (.int .i64 (Dk w).2)) none (h5:=(by rw[hrm,if_neg k1,if_pos k2,if_neg k3,if_pos k4];exact A9 _)) (h6:=⟨rfl,rfl,?_⟩);rw[hrm,if_neg k1,if_pos k2,if_neg k3,if_pos k4];rfl
   have hc5:=bp hb5;have k4:¬CA w f.dir 2=false:=by simpa using hc5
   refine AN (BO ([(0,WA w cap),(1,IB w cap),(2,Aq f)]) 15 (h:=AO 0 (h:=AO 1 (h:=BC 2 (h:=AG 3 (h:=AG 4 (h:=AG 5 (h:=AM 6 (h:=AG 7 (h:=AM 8 (h:=AG 9 (h:=AM 10 (h:=?_)))))))))))));refine c_ 11 rfl (AK (hcall1) ?_);rintro r rfl;refine o_ (h:=Au 12 (h:=Au 13 (h:=Au 14 (h:=?_))));refine c_ 15 rfl (Bf [0,1] rfl (.cons _ _ _ _ _ rfl (A9 _) (.cons _ _ _ _ _ rfl (A9 _) (.cons _ _ _ _ _ rfl (A9 _) (.cons _ _ _ _ _ rfl (A9 _) .nil)))) (by decide) (.cons _ _ _ _ _ rfl rfl (.cons _ _ _ _ _ rfl (Cr B6 _ _ _) .nil)) (Lu w cap R1.1 R1.2.1 R1.2.2) ?_);rintro r bc tc ⟨rfl,rfl,rfl⟩;refine⟨rfl,_,DH rfl ((BT w R1).1) cap,?_⟩;refine o_ (h:=?_);refine c_ 16 rfl (Fe rfl ?_);refine o_ (h:=z_ (h:=?_));refine AF ?_;exact⟨_,⟨R1,(by rw[hrm,if_neg k1,if_pos k2,if_neg k3,if_neg k4]),rfl⟩,Cc 2 0⟩
  have hc2:=bp hb2;have k2:¬w.c.num=10:=hc2;refine q_ (w_ (f_ (h:=l_ (h:=AR (h:=e_ (?_))))));refine A8 rfl (fun hb6=>?_) (fun hb6=>?_)
  ·have hc6:=bp hb6;have k3:f.name=⟨#[]⟩:=hc6;refine w_ (a_ (h:=e_ (A4 (A7 (A7 (?_))))));refine BU (r:= .v (.int .i64 (Dk w).2)) none (h5:=(by rw[hrm,if_neg k1,if_neg k2,if_pos k3];exact A9 _)) (h6:=⟨rfl,rfl,?_⟩);rw[hrm,if_neg k1,if_neg k2,if_pos k3];rfl
  have hc6:=bp hb6;have k3:¬f.name=⟨#[]⟩:=hc6;refine AN (q_ (w_ (m_ (h:=?_))));refine A6 rfl (Cn 1 rfl (.cons _ _ _ _ _ rfl (LeA.of_eq rfl) (.cons _ _ _ _ _ rfl (A9 _) .nil)) (KE w .any 0 f hsb hf) ?_);rintro r rfl;refine⟨rfl,?_⟩;refine BG (h:=e_ (?_));refine A8 rfl (fun hb7=>?_) (fun hb7=>?_)
  ·have hc7:=bp hb7;have k4:AT w.s.spc.files f.file=false:=by simpa using hc7
   refine w_ (a_ (h:=e_ (A4 (A7 (A7 (?_))))));refine BU (r:= .v (.int .i64 (Dk w).2)) none (h5:=(by rw[hrm,if_neg k1,if_neg k2,if_neg k3,if_pos k4];exact A9 _)) (h6:=⟨rfl,rfl,?_⟩);rw[hrm,if_neg k1,if_neg k2,if_neg k3,if_pos k4];rfl
  have hc7:=bp hb7;have k4:¬AT w.s.spc.files f.file=false:=by simpa using hc7
  refine AN (?_);refine BE (fun S=>S=⟨look [(0, .bp 0 0),(3, .bp 2 0),(5, .bp 3 0)],⟨[WA w cap,IB w cap,Aq f,AE y],[]⟩⟩) ?_ ?_
  ·skip
   refine BO ([(0,WA w cap),(1,IB w cap),(2,Aq f)]) 17 (h:=AO 0 (h:=BC 1 (h:=AG 2 (h:=AG 3 (h:=AG 4 (h:=AM 5 (h:=AG 6 (h:=AM 7 (h:=AG 8 (h:=AM 9 (h:=?_)))))))))));refine Co 10 14 rfl rfl ?_ ?_
   ·refine AK (hl1) ?_;rintro r rfl;refine o_ (h:=?_);refine AO 11 (h:=Au 12 (h:=Au 13 (h:=?_)));refine c_ 14 rfl (BQ (by repeat constructor) ?_);refine o_ (h:=?_);refine Aj 15 rfl (Af rfl rfl rfl rfl rfl rfl (by repeat constructor) (by repeat constructor) ?_);refine o_ (h:=BK 16 (h:=z_ (h:=?_)));refine AF ?_;exact⟨_,rfl,Cc 4 0⟩
   refine BQ (by repeat constructor) ?_;refine o_ (h:=?_);refine c_ 10 rfl (AK (hl1) ?_);rintro r rfl;refine o_ (h:=AO 11 (h:=Au 12 (h:=Au 13 (h:=?_))));refine Aj 15 rfl (Af rfl rfl rfl rfl rfl rfl (by repeat constructor) (by repeat constructor) ?_);refine o_ (h:=BK 16 (h:=z_ (h:=?_)));refine AF ?_;exact⟨_,rfl,Cc 4 0⟩
  rintro S rfl;refine q_ (w_ (m_ (h:=l_ (h:=?_))));refine A6 rfl (Cn 1 rfl (.cons _ _ _ _ _ rfl (LeA.of_eq rfl) (.cons _ _ _ _ _ rfl (A9 _) .nil)) (Wc w .any y hsb hps) ?_);rintro r rfl;refine⟨rfl,?_⟩;refine e_ (?_);refine A8 rfl (fun hb8=>?_) (fun hb8=>?_)
  ·have hc8:=bp hb8;have k5:G5 w y=true:=hc8;refine w_ (a_ (h:=e_ (A4 (A7 (A7 (?_))))));refine BU (r:= .v (.int .i64 (Dk w).2)) none (h5:=(by rw[hrm,if_neg k1,if_neg k2,if_neg k3,if_neg k4,if_pos k5];exact A9 _)) (h6:=⟨rfl,rfl,?_⟩);rw[hrm,if_neg k1,if_neg k2,if_neg k3,if_neg k4,if_pos k5];rfl
  have hc8:=bp hb8;have k5:¬G5 w y=true:=by simpa using hc8
  refine AN (q_ (w_ (m_ (h:=f_ (h:=l_ (h:=?_))))));refine A6 rfl (Cn 1 rfl (.cons _ _ _ _ _ rfl (LeA.of_eq rfl) (.cons _ _ _ _ _ rfl (A9 _) (.cons _ _ _ _ _ rfl (A9 _) .nil))) (Hl w .any f.dir 2 hsb) ?_);rintro r rfl;refine⟨rfl,?_⟩;refine BG (h:=e_ (?_));refine A8 rfl (fun hb9=>?_) (fun hb9=>?_)
  ·have hc9:=bp hb9;have k6:CA w f.dir 2=false:=by simpa using hc9
   refine w_ (a_ (h:=e_ (A4 (A7 (A7 (?_))))));refine BU (r:= .v (.int .i64 (Dk w).2)) none (h5:=(by rw[hrm,if_neg k1,if_neg k2,if_neg k3,if_neg k4,if_neg k5,if_pos k6];exact A9 _)) (h6:=⟨rfl,rfl,?_⟩);rw[hrm,if_neg k1,if_neg k2,if_neg k3,if_neg k4,if_neg k5,if_pos k6];rfl
  have hc9:=bp hb9;have k6:¬CA w f.dir 2=false:=by simpa using hc9
  refine AN (BO ([(0,WA w cap),(1,IB w cap),(2,Aq f)]) 15 (h:=AO 0 (h:=AO 1 (h:=BC 2 (h:=AG 3 (h:=AG 4 (h:=AG 5 (h:=AM 6 (h:=AG 7 (h:=AM 8 (h:=AG 9 (h:=AM 10 (h:=?_)))))))))))));refine c_ 11 rfl (AK (hcall2) ?_);rintro r rfl;refine o_ (h:=Au 12 (h:=Au 13 (h:=Au 14 (h:=?_))));refine c_ 15 rfl (Bf [0,1] rfl (.cons _ _ _ _ _ rfl (A9 _) (.cons _ _ _ _ _ rfl (A9 _) (.cons _ _ _ _ _ rfl (A9 _) (.cons _ _ _ _ _ rfl (A9 _) .nil)))) (by decide) (.cons _ _ _ _ _ rfl rfl (.cons _ _ _ _ _ rfl (Cr B6 _ _ _) .nil)) (Lu w cap R2.1 R2.2.1 R2.2.2) ?_);rintro r bc tc ⟨rfl,rfl,rfl⟩;refine⟨rfl,_,DH rfl ((BT w R2).1) cap,?_⟩;refine o_ (h:=?_);refine c_ 16 rfl (Fe rfl ?_);refine o_ (h:=z_ (h:=?_));refine AF ?_
  first|exact⟨_,⟨R1,(by rw[hrm,if_neg k1,if_pos k2,if_neg k3,if_neg k4]),rfl⟩,Cc 2 0⟩|exact⟨_,⟨R2,(by rw[hrm,if_neg k1,if_neg k2,if_neg k3,if_neg k4,if_neg k5,if_neg k6]),rfl⟩,Cc 2 0⟩
 rintro S ⟨R,hrm2,rfl⟩;have hit:(BT w R).1.r.items=w.r.items:=Ww w R;have hxa:(BT w R).1.r.items[0]?=some x0:=by rw[hit];exact hx0
 have hil1:0<(BT w R).1.r.items.length:=by rw[hit];exact hil
 refine q_ (w_ (m_ (h:=AR (h:=e_ (?_)))));refine A8 rfl (fun hb10=>?_) (fun hb10=>?_)
 ·have hc10:=bp hb10;have h0:R.2.2=0:=hc10;refine AQ (m_ (h:=k_ (h:=f_ (h:=f_ (h:=l_ (h:=?_))))));refine A6 rfl (DZ (m:=0) rfl rfl rfl hil1 ?_);refine f_ (h:=?_);refine KQ (Af rfl rfl rfl rfl rfl rfl (JZ B6 (x':={x0 with role:=3}) hxa (by repeat constructor) (List.cons_ne_nil _ _)) (by repeat constructor) ?_);refine e_ (w_ (m_ (h:=a_ (h:=e_ (A4 (?_))))));refine BU (r:= .v (.int .i64 (Dk w).2)) none (h5:=(by rw[hrm2,Fk,if_neg (by simp[h0])];exact LeA.of_eq (vi h0))) (h6:=⟨rfl,rfl,?_⟩);rw[hrm2,Fk,if_neg (by simp[h0])];rw[Wm,Wn hxa];rfl
 have hc10:=bp hb10;have h0:¬R.2.2=0:=hc10;refine AN (w_ (m_ (h:=a_ (h:=e_ (A4 (?_))))));refine BU (r:= .v (.int .i64 (Dk w).2)) none (h5:=(by rw[hrm2,Fk,if_pos h0];exact A9 _)) (h6:=⟨rfl,rfl,?_⟩);rw[hrm2,Fk,if_pos h0];rw[Lv h0];rfl
theorem Wy(w:Wrk)(cap:Nat)(f:Fnd)(hv:SpcV w.s.spc)(hm:w.s.spc.mounts.length≤1000)(hf:w.found[0]?=some f):ACall prog 118 [.bp 0 0] [WA w cap,IB w cap] (fun r b t=>t=[]∧r= .v (.int .i64 (EW w).2)∧b=[WA (EW w).1 cap,IB (EW w).1 cap]):=by
 have hsb:=hv.b hm;have hrow0:(w.found.map Aq)[0]?=some (Aq f):=by rw[List.getElem?_map,hf];rfl
 have hfn:B7 w 0=f:=by unfold B7;rw[hf];rfl
 obtain⟨n,hnd⟩:∃n,n=Ah w.s.spc.files f.file:=⟨_,rfl⟩;have hnode:AFn prog 70 [.agg (Ay w.s.spc.files), .agg (AE f.file)] (fun r=>r= .tup [.agg (Ak n), .v (.bool (D1 w.s.spc.files f.file))]):=by rw[hnd];exact ED _ _ hsb.files
 have hat:EW w=if f.ex=false then(w,2)else if w.c.num=14 then(if w.p.euid≠0∧w.p.euid≠n.uid then(w,1)else H3 w (DE w.s.spc.files f.file w.c.a0 n.uid n.gid))else if w.p.euid≠0 then(w,1)else H3 w (DE w.s.spc.files f.file n.mode w.c.a0 w.c.a1):=by
  unfold EW;rw[hfn,←hnd]
 clear hnd;refine enter Tryz.func118 rfl rfl rfl rfl rfl 2 rfl ?_;refine w_ (a_ (h:=e_ (w_ (m_ (h:=k_ (h:=f_ (h:=l_ (h:=?_))))))));refine A6 rfl (Ci (n:=0) rfl rfl rfl hrow0 ?_);refine l_ (h:=AZ (h:=s_ (h:=e_ (q_ (w_ (f_ (h:=l_ (h:=BG (h:=e_ (?_))))))))));refine A8 rfl (fun hb1=>?_) (fun hb1=>?_)
 ·have hc1:=bp hb1;have k1:f.ex=false:=by simpa using hc1
  refine w_ (a_ (h:=e_ (A4 (A7 (?_)))));refine BU (r:= .v (.int .i64 (EW w).2)) none (h5:=(by rw[hat,if_pos k1];exact A9 _)) (h6:=⟨rfl,rfl,?_⟩);rw[hat,if_pos k1];rfl
 have hc1:=bp hb1;have k1:¬f.ex=false:=by simpa using hc1
 refine AN (?_);refine BE (fun S=>S=⟨look [(0, .bp 0 0),(3, .bp 2 0),(4, .bp 3 0)],⟨[WA w cap,IB w cap,Aq f,Ak n],[]⟩⟩) ?_ ?_
 ·skip
  refine BO ([(0,WA w cap),(1,IB w cap),(2,Aq f)]) 15 (h:=AO 0 (h:=BC 1 (h:=AG 2 (h:=AG 3 (h:=AG 4 (h:=AM 5 (h:=AG 6 (h:=AM 7 (h:=?_)))))))));refine Co 8 12 rfl rfl ?_ ?_
  ·refine AK (hnode) ?_;rintro r rfl;refine o_ (h:=?_);refine AO 9 (h:=Au 10 (h:=Au 11 (h:=?_)));refine c_ 12 rfl (BQ (by repeat constructor) ?_);refine o_ (h:=?_);refine Aj 13 rfl (Af rfl rfl rfl rfl rfl rfl (by repeat constructor) (by repeat constructor) ?_);refine o_ (h:=BK 14 (h:=z_ (h:=?_)));refine AF ?_;exact⟨_,rfl,Cc 4 0⟩
  refine BQ (by repeat constructor) ?_;refine o_ (h:=?_);refine c_ 8 rfl (AK (hnode) ?_);rintro r rfl;refine o_ (h:=AO 9 (h:=Au 10 (h:=Au 11 (h:=?_))));refine Aj 13 rfl (Af rfl rfl rfl rfl rfl rfl (by repeat constructor) (by repeat constructor) ?_);refine o_ (h:=BK 14 (h:=z_ (h:=?_)));refine AF ?_;exact⟨_,rfl,Cc 4 0⟩
 rintro S rfl;refine BE (fun S=>∃m u g,EW w=H3 w (DE w.s.spc.files f.file m u g)∧S=⟨look [(0, .bp 0 0),(3, .bp 2 0),(4, .bp 3 0)],⟨[WA w cap,IB w cap,Aq f,Ak {n with mode:=m,uid:=u,gid:=g}],[]⟩⟩) ?_ ?_
 ·skip
  refine w_ (m_ (h:=k_ (h:=f_ (h:=f_ (h:=l_ (h:=AR (h:=e_ (?_))))))));refine A8 rfl (fun hb2=>?_) (fun hb2=>?_)
  ·have hc2:=bp hb2;have k2:w.c.num=14:=hc2;refine q_ (?_);refine BE (fun S=>S=⟨look [(0, .bp 0 0),(3, .bp 2 0),(4, .bp 3 0),(50, .v (.bool (!decide (w.p.euid=0)&& !decide (w.p.euid=n.uid))))],⟨[WA w cap,IB w cap,Aq f,Ak n],[]⟩⟩) ?_ ?_
   ·skip
    refine E4 16 (h:=AO 0 (h:=BC 1 (h:=AG 2 (h:=AG 3 (h:=AM 4 (h:=LJ 5 (h:=AO 6 (h:=?_))))))));refine JE (j:=6) rfl (fun hb3=>?_) (fun hb3=>?_)
    ·have hc3:=bp hb3;refine AO 7 (h:=BC 8 (h:=AG 9 (h:=AG 10 (h:=AM 11 (h:=AG 12 (h:=AM 13 (h:=LJ 14 (h:=JL 15 (h:=z_ (h:=?_))))))))));refine AF ?_;exact⟨_,rfl,CM 4 0 (by simp[Ai,Ac,Ab,Bj B6,BL,WA,IB,CN,Aq,Ak,AE,Ax,Ao,Ay])⟩
    have hc3:=bp hb3;refine Bh 7 (h:=Bh 8 (h:=Bh 9 (h:=Bh 10 (h:=Bh 11 (h:=Bh 12 (h:=Bh 13 (h:=Bh 14 (h:=GK 15 (h:=z_ (h:=?_))))))))));refine AF ?_;exact⟨_,rfl,CM 4 0 (by simp[Ai,Ac,Ab,Bj B6,BL,WA,IB,CN,Aq,Ak,AE,Ax,Ao,Ay])⟩
   rintro S rfl;refine A8 rfl (fun hb4=>?_) (fun hb4=>?_)
   ·have hc4:=bp hb4;have k3:w.p.euid≠0∧w.p.euid≠n.uid:=by simpa using hc4
    refine w_ (a_ (h:=e_ (A4 (A7 (A7 (?_))))));refine BU (r:= .v (.int .i64 (EW w).2)) none (h5:=(by rw[hat,if_neg k1,if_pos k2,if_pos k3];exact A9 _)) (h6:=⟨rfl,rfl,?_⟩);rw[hat,if_neg k1,if_pos k2,if_pos k3];rfl
   have hc4:=bp hb4;have k3:¬(w.p.euid≠0∧w.p.euid≠n.uid):=by simpa using hc4
   refine AN (AQ (m_ (h:=k_ (h:=f_ (h:=f_ (h:=?_))))));refine A6 rfl (CR (len:=4) (sz:=1) (n:=0) (by kernel_rfl) rfl rfl rfl rfl ?_);refine l_ (h:=f_ (h:=s_ (h:=AP (?_))));refine AF ?_;exact⟨_,⟨w.c.a0,n.uid,n.gid,(by rw[hat,if_neg k1,if_pos k2,if_neg k3]),rfl⟩,Cc 4 0⟩
  have hc2:=bp hb2;have k2:¬w.c.num=14:=hc2;refine q_ (w_ (m_ (h:=k_ (h:=f_ (h:=f_ (h:=l_ (h:=BV (h:=e_ (?_)))))))));refine A8 rfl (fun hb5=>?_) (fun hb5=>?_)
  ·have hc5:=bp hb5;have k3:w.p.euid≠0:=by simpa using hc5
   refine w_ (a_ (h:=e_ (A4 (A7 (A7 (?_))))));refine BU (r:= .v (.int .i64 (EW w).2)) none (h5:=(by rw[hat,if_neg k1,if_neg k2,if_pos k3];exact A9 _)) (h6:=⟨rfl,rfl,?_⟩);rw[hat,if_neg k1,if_neg k2,if_pos k3];rfl
  have hc5:=bp hb5;have k3:¬w.p.euid≠0:=by simpa using hc5
  refine AN (BO ([(0,WA w cap),(1,IB w cap),(2,Aq f)]) 16 (h:=AO 0 (h:=BC 1 (h:=AG 2 (h:=AG 3 (h:=?_))))));refine Bz 4 rfl (fun _ hS=>CR (len:=4) (sz:=1) (n:=0) (by kernel_rfl) rfl rfl rfl rfl ⟨rfl,rfl⟩) ?_;refine AM 5 (h:=AO 6 (h:=BC 7 (h:=AG 8 (h:=AG 9 (h:=?_)))));refine Bz 10 rfl (fun _ hS=>CR (len:=4) (sz:=1) (n:=1) (by kernel_rfl) rfl rfl rfl rfl ⟨rfl,rfl⟩) ?_;refine AM 11 (h:=AG 12 (h:=?_));refine Aj 13 rfl (Af rfl rfl rfl rfl rfl rfl (by repeat constructor) (by repeat constructor) ?_);refine o_ (h:=AG 14 (h:=?_));refine Aj 15 rfl (Af rfl rfl rfl rfl rfl rfl (by repeat constructor) (by repeat constructor) ?_);refine o_ (h:=z_ (h:=?_));refine AF ?_
  first|exact⟨_,⟨w.c.a0,n.uid,n.gid,(by rw[hat,if_neg k1,if_pos k2,if_neg k3]),rfl⟩,Cc 4 0⟩|exact⟨_,⟨n.mode,w.c.a0,w.c.a1,(by rw[hat,if_neg k1,if_neg k2,if_neg k3]),rfl⟩,Cc 4 0⟩
 rintro S ⟨m,u,g,hat2,rfl⟩;obtain⟨R,hR⟩:∃R,R=DE w.s.spc.files f.file m u g:=⟨_,rfl⟩;have hset:AFn prog 127 [.agg (Ay w.s.spc.files), .agg (AE f.file), .v (.int .i64 m), .v (.int .i64 u), .v (.int .i64 g)] (fun r=>r=N8 R):=by rw[hR];exact bG _ _ _ _ _ hv.files
 rw[←hR]at hat2;clear hR;refine BE (fun S=>S=⟨look [(0, .bp 0 0),(6, .bp 4 0),(7, .v (.int .i64 R.2))],⟨[WA w cap,IB w cap,Aq f,Ak {n with mode:=m,uid:=u,gid:=g},Ay R.1],[]⟩⟩) ?_ ?_
 ·skip
  refine BO ([(0,WA w cap),(1,IB w cap),(2,Aq f),(3,Ak {n with mode:=m,uid:=u,gid:=g})]) 21 (h:=AO 0 (h:=BC 1 (h:=AG 2 (h:=AG 3 (h:=AG 4 (h:=AM 5 (h:=AG 6 (h:=AM 7 (h:=AG 8 (h:=AM 9 (h:=AG 10 (h:=AM 11 (h:=AG 12 (h:=AM 13 (h:=?_)))))))))))))));refine Co 14 18 rfl rfl ?_ ?_
  ·refine AK (hset) ?_;rintro r rfl;refine o_ (h:=?_);refine AO 15 (h:=Au 16 (h:=Au 17 (h:=?_)));refine c_ 18 rfl (BQ (by repeat constructor) ?_);refine o_ (h:=?_);refine Aj 19 rfl (Af rfl rfl rfl rfl rfl rfl (by repeat constructor) (by repeat constructor) ?_);refine o_ (h:=BK 20 (h:=z_ (h:=?_)));refine AF ?_;exact⟨_,rfl,Cc 5 0⟩
  refine BQ (by repeat constructor) ?_;refine o_ (h:=?_);refine c_ 14 rfl (AK (hset) ?_);rintro r rfl;refine o_ (h:=AO 15 (h:=Au 16 (h:=Au 17 (h:=?_))));refine Aj 19 rfl (Af rfl rfl rfl rfl rfl rfl (by repeat constructor) (by repeat constructor) ?_);refine o_ (h:=BK 20 (h:=z_ (h:=?_)));refine AF ?_;exact⟨_,rfl,Cc 5 0⟩
 rintro S rfl;refine w_ (m_ (h:=l_ (h:=m_ (h:=?_))));refine A6 rfl (Bf [0,1] rfl (.cons _ _ _ _ _ rfl (A9 _) (.cons _ _ _ _ _ rfl (A9 _) (.cons _ _ _ _ _ rfl (LeA.nil _) (.cons _ _ _ _ _ rfl (A9 _) .nil)))) (by decide) (.cons _ _ _ _ _ rfl rfl (.cons _ _ _ _ _ rfl (Cr B6 _ _ _) .nil)) (Lu w cap R.1 [] R.2) ?_);rintro r bc tc ⟨rfl,rfl,rfl⟩;refine⟨rfl,_,DH rfl (BT w (R.1,[],R.2)).1 cap,?_⟩;refine a_ (h:=e_ (A4 (?_)));refine BU (r:= .v (.int .i64 (EW w).2)) none (h5:=(by rw[hat2,H3,j4];exact A9 _)) (h6:=⟨rfl,rfl,?_⟩);rw[hat2,H3];rfl
end
def D9(t:Tab):Prop:=0≤t.next∧0≤t.nextS
theorem jF{t:Tab}{pid:Int}{j:Nat}{x:Prc}{acc:List Prc}(hy:t.ps[j]?=some x)(ha:((t.ps.take j).filter fun p=>decide (p.pid≠pid)).map (Fx pid)=acc):((t.ps.take (j+1)).filter fun p=>decide (p.pid≠pid)).map (Fx pid)=if x.pid≠pid then acc++[Fx pid x]else acc:=by
 rw[List.take_add_one,hy,List.filter_append,List.map_append,ha];by_cases h:x.pid=pid<;>simp[h]
section
theorem SE(n:Int):AFn prog 189 [.v (.int .i64 n)] (fun r=>r= .v (.bool (Gv n))):=by
 refine enter Tryz.func189 rfl rfl rfl rfl rfl 0 rfl ?_;refine w_ (a_ (h:=e_ (w_ (m_ (h:=GL (h:=m_ (h:=?_)))))));refine B5 true rfl rfl (fun hb1=>?_) (fun hb1=>?_)
 ·have hc1:=bp hb1;refine m_ (h:=BS (h:=Ag (h:=a_ (h:=e_ (A4 (?_))))));refine AJ ?_
  first|(exfalso;first|contradiction|omega)|(exact vb (by simp[Gv, *]))
 have hc1:=bp hb1;refine A3 (h:=A3 (h:=Ar (h:=a_ (h:=e_ (A4 (?_))))));refine AJ ?_
 first|(exfalso;first|contradiction|omega)|(exact vb (by simp[Gv, *]))
theorem Wz(b:Bool)(x y n:Int):AFn prog 190 [.v (.bool b), .v (.int .i64 x), .v (.int .i64 y), .v (.int .i64 n)] (fun r=>r= .tup [.v (.int .i64 (E7 b x y n).1), .v (.int .i64 (E7 b x y n).2.1), .v (.int .i64 (E7 b x y n).2.2)]):=by
 refine enter Tryz.func190 rfl rfl rfl rfl rfl 0 rfl ?_;refine w_ (a_ (h:=a_ (h:=a_ (h:=e_ (q_ (w_ (m_ (h:=e_ (?_)))))))));refine A8 rfl (fun hb1=>?_) (fun hb1=>?_)
 ·have hc1:=bp hb1;refine w_ (m_ (h:=m_ (h:=a_ (h:=a_ (h:=a_ (h:=e_ (A4 (A7 (?_)))))))));refine AJ ?_
  first|(exfalso;first|contradiction|omega)|(unfold E7;simp[*];rfl)
 have hc1:=bp hb1;refine AN (q_ (w_ (m_ (h:=m_ (h:=AR (h:=m_ (h:=?_)))))));refine B5 false rfl rfl (fun hb2=>?_) (fun hb2=>?_)
 ·have hc2:=bp hb2;refine A3 (h:=A3 (h:=A3 (h:=Ag (h:=e_ (C2 (h:=w_ (m_ (h:=m_ (h:=a_ (h:=a_ (h:=a_ (h:=e_ (A4 (A7 (?_)))))))))))))));refine AJ ?_
  first|(exfalso;first|contradiction|omega)|(unfold E7;simp[*];rfl)
 have hc2:=bp hb2;refine m_ (h:=m_ (h:=AR (h:=Ar (h:=e_ (?_)))));refine A8 rfl (fun hb3=>?_) (fun hb3=>?_)
 ·have hc3:=bp hb3;refine w_ (m_ (h:=m_ (h:=a_ (h:=a_ (h:=a_ (h:=e_ (A4 (A7 (?_)))))))));refine AJ ?_
  first|(exfalso;first|contradiction|omega)|(unfold E7;simp[*];rfl)
 have hc3:=bp hb3;refine AN (w_ (a_ (h:=a_ (h:=a_ (h:=e_ (A4 (?_)))))));refine AJ ?_
 first|(exfalso;first|contradiction|omega)|(unfold E7;simp[*];rfl)
theorem jG(t:Tab)(pid:Int)(a:AA)(ht:TabB t):AFn prog 158 [.agg (Ax t), .v (.int .i64 pid), .agg (AE a)] (fun r=>r=Cg (Hi t pid a)):=by
 have h8:=G9 ht pid;refine enter Tryz.func158 rfl rfl rfl rfl rfl 0 rfl ?_;refine w_ (b_ (h:=b_ (h:=AZ (h:=a_ (h:=e_ (w_ (l_ (h:=m_ (h:=?_)))))))));refine A6 rfl (AK (GA t pid ht) ?_);rintro r rfl;refine m_ (h:=x_ (h:=x_ (h:=AZ (h:=s_ (h:=a_ (h:=e_ (q_ (w_ (m_ (h:=BG (h:=e_ (?_))))))))))));refine A8 rfl (fun hb1=>?_) (fun hb1=>?_)
 ·have hc1:=bp hb1;have hno:C8 t pid=false:=by simpa using hc1
  refine w_ (AX (h:=s_ (h:=a_ (h:=e_ (A4 (A7 (?_)))))));refine Am (r:=Cg (Hi t pid a)) none (h5:=?_) (h6:=⟨rfl,rfl,rfl⟩);rw[Hi,if_pos hno];exact Ek _
 have hc1:=bp hb1;have hhas:C8 t pid=true:=by simpa using hc1
 refine AN (w_ (l_ (h:=f_ (h:=s_ (h:=e_ (w_ (l_ (h:=l_ (h:=?_)))))))));refine A6 rfl (AK (Kq t {AW t pid with cwd:=a} ht (KD hhas) (by show(AW t pid).opens.length≤1000;omega)) ?_);rintro r rfl;refine s_ (h:=a_ (h:=e_ (A4 (?_))));refine AJ ?_;rw[Hi,if_neg (by simp[hhas])];rfl
theorem jH(t:Tab)(pid:Int)(x y:AD)(ht:TabB t):AFn prog 157 [.agg (Ax t), .v (.int .i64 pid), .v (.string x), .v (.string y)] (fun r=>r=Cg (Hj t pid x y)):=by
 have h8:=G9 ht pid;refine enter Tryz.func157 rfl rfl rfl rfl rfl 0 rfl ?_;refine w_ (b_ (h:=AZ (h:=a_ (h:=e_ (w_ (l_ (h:=m_ (h:=?_))))))));refine A6 rfl (AK (GA t pid ht) ?_);rintro r rfl;refine m_ (h:=x_ (h:=x_ (h:=AZ (h:=s_ (h:=a_ (h:=e_ (q_ (w_ (m_ (h:=BG (h:=e_ (?_))))))))))));refine A8 rfl (fun hb1=>?_) (fun hb1=>?_)
 ·have hc1:=bp hb1;have hno:C8 t pid=false:=by simpa using hc1
  refine w_ (AX (h:=s_ (h:=a_ (h:=e_ (A4 (A7 (?_)))))));refine Am (r:=Cg (Hj t pid x y)) none (h5:=?_) (h6:=⟨rfl,rfl,rfl⟩);rw[Hj,if_pos hno];exact Ek _
 have hc1:=bp hb1;have hhas:C8 t pid=true:=by simpa using hc1
 refine AN (w_ (m_ (h:=m_ (h:=f_ (h:=s_ (h:=f_ (h:=s_ (h:=e_ (w_ (l_ (h:=l_ (h:=?_))))))))))));refine A6 rfl (AK (Kq t {AW t pid with exe:=x,comm:=y} ht (KD hhas) (by show(AW t pid).opens.length≤1000;omega)) ?_);rintro r rfl;refine s_ (h:=a_ (h:=e_ (A4 (?_))));refine AJ ?_;rw[Hj,if_neg (by simp[hhas])];rfl
theorem jJ(t:Tab)(pid u:Int)(ht:TabB t):AFn prog 161 [.agg (Ax t), .v (.int .i64 pid), .v (.int .i64 u)] (fun r=>r=Cg (Fz t pid u)):=by
 have h8:=G9 ht pid;refine enter Tryz.func161 rfl rfl rfl rfl rfl 0 rfl ?_;refine w_ (b_ (h:=AZ (h:=a_ (h:=e_ (w_ (l_ (h:=m_ (h:=?_))))))));refine A6 rfl (AK (GA t pid ht) ?_);rintro r rfl;refine m_ (h:=x_ (h:=x_ (h:=AZ (h:=s_ (h:=a_ (h:=e_ (q_ (w_ (m_ (h:=BG (h:=e_ (?_))))))))))));refine A8 rfl (fun hb1=>?_) (fun hb1=>?_)
 ·have hc1:=bp hb1;have hno:C8 t pid=false:=by simpa using hc1
  refine w_ (AX (h:=s_ (h:=a_ (h:=e_ (A4 (A7 (?_)))))));refine Am (r:=Cg (Fz t pid u)) none (h5:=?_) (h6:=⟨rfl,rfl,rfl⟩);rw[Fz,if_pos hno];exact Ek _
 have hc1:=bp hb1;have hhas:C8 t pid=true:=by simpa using hc1
 refine AN (q_ (w_ (m_ (h:=?_))));refine A6 rfl (AK (SE u) ?_);rintro r rfl;refine BG (h:=e_ (?_));refine A8 rfl (fun hb2=>?_) (fun hb2=>?_)
 ·have hc2:=bp hb2;have hid:Gv u=false:=by simpa using hc2
  refine w_ (AX (h:=s_ (h:=a_ (h:=e_ (A4 (A7 (?_)))))));refine Am (r:=Cg (Fz t pid u)) none (h5:=?_) (h6:=⟨rfl,rfl,rfl⟩);rw[Fz,if_neg (by simp[hhas]),if_pos hid];exact Ek _
 have hc2:=bp hb2;have hid:¬Gv u=false:=by simpa using hc2
 refine AN (w_ (a_ (h:=e_ (w_ (f_ (h:=l_ (h:=AR (h:=f_ (h:=l_ (h:=f_ (h:=l_ (h:=m_ (h:=?_)))))))))))));refine A6 rfl (AK (Wz (decide ((AW t pid).euid=0)) (AW t pid).uid (AW t pid).euid u) ?_);rintro r rfl;refine m_ (h:=x_ (h:=x_ (h:=x_ (h:=f_ (h:=s_ (h:=f_ (h:=s_ (h:=a_ (h:=e_ (q_ (w_ (m_ (h:=BV (h:=e_ (?_)))))))))))))));refine A8 rfl (fun hb3=>?_) (fun hb3=>?_)
 ·have hc3:=bp hb3;have hce:(E7 (decide ((AW t pid).euid=0)) (AW t pid).uid (AW t pid).euid u).2.2≠0:=by simpa using hc3
  refine w_ (AX (h:=m_ (h:=s_ (h:=a_ (h:=e_ (A4 (A7 (?_))))))));refine Am (r:=Cg (Fz t pid u)) none (h5:=?_) (h6:=⟨rfl,rfl,rfl⟩);rw[Fz,if_neg (by simp[hhas]),if_neg hid,if_pos hce];exact Ek _
 have hc3:=bp hb3;have hce:¬(E7 (decide ((AW t pid).euid=0)) (AW t pid).uid (AW t pid).euid u).2.2≠0:=by simpa using hc3
 refine AN (w_ (l_ (h:=l_ (h:=?_))));refine A6 rfl (AK (Kq t {AW t pid with uid:=(E7 (decide ((AW t pid).euid=0)) (AW t pid).uid (AW t pid).euid u).1,euid:=(E7 (decide ((AW t pid).euid=0)) (AW t pid).uid (AW t pid).euid u).2.1} ht (KD hhas) (by show(AW t pid).opens.length≤1000;omega)) ?_);rintro r rfl;refine s_ (h:=a_ (h:=e_ (A4 (?_))));refine AJ ?_;rw[Fz,if_neg (by simp[hhas]),if_neg hid,if_neg hce];rfl
theorem jK(t:Tab)(pid u:Int)(ht:TabB t):AFn prog 162 [.agg (Ax t), .v (.int .i64 pid), .v (.int .i64 u)] (fun r=>r=Cg (G0 t pid u)):=by
 have h8:=G9 ht pid;refine enter Tryz.func162 rfl rfl rfl rfl rfl 0 rfl ?_;refine w_ (b_ (h:=AZ (h:=a_ (h:=e_ (w_ (l_ (h:=m_ (h:=?_))))))));refine A6 rfl (AK (GA t pid ht) ?_);rintro r rfl;refine m_ (h:=x_ (h:=x_ (h:=AZ (h:=s_ (h:=a_ (h:=e_ (q_ (w_ (m_ (h:=BG (h:=e_ (?_))))))))))));refine A8 rfl (fun hb1=>?_) (fun hb1=>?_)
 ·have hc1:=bp hb1;have hno:C8 t pid=false:=by simpa using hc1
  refine w_ (AX (h:=s_ (h:=a_ (h:=e_ (A4 (A7 (?_)))))));refine Am (r:=Cg (G0 t pid u)) none (h5:=?_) (h6:=⟨rfl,rfl,rfl⟩);rw[G0,if_pos hno];exact Ek _
 have hc1:=bp hb1;have hhas:C8 t pid=true:=by simpa using hc1
 refine AN (q_ (w_ (m_ (h:=?_))));refine A6 rfl (AK (SE u) ?_);rintro r rfl;refine BG (h:=e_ (?_));refine A8 rfl (fun hb2=>?_) (fun hb2=>?_)
 ·have hc2:=bp hb2;have hid:Gv u=false:=by simpa using hc2
  refine w_ (AX (h:=s_ (h:=a_ (h:=e_ (A4 (A7 (?_)))))));refine Am (r:=Cg (G0 t pid u)) none (h5:=?_) (h6:=⟨rfl,rfl,rfl⟩);rw[G0,if_neg (by simp[hhas]),if_pos hid];exact Ek _
 have hc2:=bp hb2;have hid:¬Gv u=false:=by simpa using hc2
 refine AN (w_ (a_ (h:=e_ (w_ (f_ (h:=l_ (h:=AR (h:=f_ (h:=l_ (h:=f_ (h:=l_ (h:=m_ (h:=?_)))))))))))));refine A6 rfl (AK (Wz (decide ((AW t pid).euid=0)) (AW t pid).gid (AW t pid).egid u) ?_);rintro r rfl;refine m_ (h:=x_ (h:=x_ (h:=x_ (h:=f_ (h:=s_ (h:=f_ (h:=s_ (h:=a_ (h:=e_ (q_ (w_ (m_ (h:=BV (h:=e_ (?_)))))))))))))));refine A8 rfl (fun hb3=>?_) (fun hb3=>?_)
 ·have hc3:=bp hb3;have hce:(E7 (decide ((AW t pid).euid=0)) (AW t pid).gid (AW t pid).egid u).2.2≠0:=by simpa using hc3
  refine w_ (AX (h:=m_ (h:=s_ (h:=a_ (h:=e_ (A4 (A7 (?_))))))));refine Am (r:=Cg (G0 t pid u)) none (h5:=?_) (h6:=⟨rfl,rfl,rfl⟩);rw[G0,if_neg (by simp[hhas]),if_neg hid,if_pos hce];exact Ek _
 have hc3:=bp hb3;have hce:¬(E7 (decide ((AW t pid).euid=0)) (AW t pid).gid (AW t pid).egid u).2.2≠0:=by simpa using hc3
 refine AN (w_ (l_ (h:=l_ (h:=?_))));refine A6 rfl (AK (Kq t {AW t pid with gid:=(E7 (decide ((AW t pid).euid=0)) (AW t pid).gid (AW t pid).egid u).1,egid:=(E7 (decide ((AW t pid).euid=0)) (AW t pid).gid (AW t pid).egid u).2.1} ht (KD hhas) (by show(AW t pid).opens.length≤1000;omega)) ?_);rintro r rfl;refine s_ (h:=a_ (h:=e_ (A4 (?_))));refine AJ ?_;rw[G0,if_neg (by simp[hhas]),if_neg hid,if_neg hce];rfl
theorem jL(t:Tab)(pid u:Int)(ht:TabB t)(hn:D9 t):AFn prog 163 [.agg (Ax t), .v (.int .i64 pid), .v (.int .i64 u)] (fun r=>r=Cg (Es t pid u)):=by
 have h8:=G9 ht pid;have hn1:=hn.2;have hn2:=ht.nextS;obtain⟨tp,htp⟩:∃x,x=Fh t {AW t pid with auid:=u,ses:=t.nextS}:=⟨_,rfl⟩;have e1:tp.nextS=t.nextS:=by rw[htp];rfl
 have hput:C8 t pid=true→AFn prog 188 [.agg (Ax t), .agg (B1 {AW t pid with auid:=u,ses:=t.nextS})] (fun r=>r= .agg (Ax tp)):=fun h=>by rw[htp];exact Kq t _ ht (KD h) (by show(AW t pid).opens.length≤1000;omega)
 refine enter Tryz.func163 rfl rfl rfl rfl rfl 0 rfl ?_;refine w_ (b_ (h:=AZ (h:=a_ (h:=e_ (w_ (l_ (h:=m_ (h:=?_))))))));refine A6 rfl (AK (GA t pid ht) ?_);rintro r rfl;refine m_ (h:=x_ (h:=x_ (h:=AZ (h:=s_ (h:=a_ (h:=e_ (q_ (w_ (m_ (h:=BG (h:=e_ (?_))))))))))));refine A8 rfl (fun hb1=>?_) (fun hb1=>?_)
 ·have hc1:=bp hb1;have hno:C8 t pid=false:=by simpa using hc1
  refine w_ (AX (h:=s_ (h:=a_ (h:=e_ (A4 (A7 (?_)))))));refine Am (r:=Cg (Es t pid u)) none (h5:=?_) (h6:=⟨rfl,rfl,rfl⟩);rw[Es,if_pos hno];exact Ek _
 have hc1:=bp hb1;have hhas:C8 t pid=true:=by simpa using hc1
 refine AN (q_ (w_ (m_ (h:=?_))));refine A6 rfl (AK (SE u) ?_);rintro r rfl;refine BG (h:=e_ (?_));refine A8 rfl (fun hb2=>?_) (fun hb2=>?_)
 ·have hc2:=bp hb2;have hid:Gv u=false:=by simpa using hc2
  refine w_ (AX (h:=s_ (h:=a_ (h:=e_ (A4 (A7 (?_)))))));refine Am (r:=Cg (Es t pid u)) none (h5:=?_) (h6:=⟨rfl,rfl,rfl⟩);rw[Es,if_neg (by simp[hhas]),if_pos hid];exact Ek _
 have hc2:=bp hb2;have hid:¬Gv u=false:=by simpa using hc2
 refine AN (q_ (w_ (f_ (h:=l_ (h:=BV (h:=m_ (h:=?_)))))));refine B5 true rfl rfl (fun hb3=>?_) (fun hb3=>?_)
 ·have hc3:=bp hb3;refine f_ (h:=l_ (h:=BV (h:=Ag (h:=e_ (?_)))));refine A8 rfl (fun hb4=>?_) (fun hb4=>?_)
  ·have hc4:=bp hb4;refine w_ (AX (h:=s_ (h:=a_ (h:=e_ (A4 (A7 (?_)))))));refine Am (r:=Cg (Es t pid u)) none (h5:=?_) (h6:=⟨rfl,rfl,rfl⟩);rw[Es,if_neg (by simp[hhas]),if_neg hid,if_pos (by first|assumption|omega)];exact Ek _
  have hc4:=bp hb4;refine AN (q_ (w_ (f_ (h:=l_ (h:=AR (h:=e_ (?_)))))));refine A8 rfl (fun hb5=>?_) (fun hb5=>?_)
  ·have hc5:=bp hb5;have hse:t.nextS=1073741824:=hc5;refine w_ (AX (h:=s_ (h:=a_ (h:=e_ (A4 (A7 (?_)))))));refine Am (r:=Cg (Es t pid u)) none (h5:=?_) (h6:=⟨rfl,rfl,rfl⟩);rw[Es,if_neg (by simp[hhas]),if_neg hid,if_neg (by first|assumption|omega),if_pos hse];exact Ek _
  have hc5:=bp hb5;have hse:¬t.nextS=1073741824:=hc5;refine AN (q_ (BO ([(0,Ax t),(1,D7)]) 7 (h:=AO 0 (h:=AG 1 (h:=AM 2 (h:=AG 3 (h:=?_)))))));refine Aj 4 rfl (Af rfl rfl rfl rfl rfl rfl (by repeat constructor) (by repeat constructor) ?_);refine o_ (h:=AG 5 (h:=?_));refine Aj 6 rfl (Af rfl rfl rfl rfl rfl rfl (by repeat constructor) (by repeat constructor) ?_);refine o_ (h:=z_ (h:=t_ (w_ (l_ (h:=l_ (h:=?_))))));refine A6 rfl (AK (hput hhas) ?_);rintro r rfl;refine AZ (h:=s_ (h:=e_ (w_ (f_ (h:=l_ (h:=BH (h:=f_ (h:=s_ (h:=e_ (w_ (l_ (h:=s_ (h:=a_ (h:=e_ (A4 (?_))))))))))))))));refine AJ ?_;rw[Es,if_neg (by simp[hhas]),if_neg hid,if_neg (by first|assumption|omega),if_neg hse,←htp,←e1];exact congrArg (fun n=>AV.tup [.agg [.v (.int .i64 n), .v (.int .i64 (tp.nextS+1)), .sl 14 (tp.ps.map B1) none], .v (.int .i64 0)]) (by rw[htp];rfl)
 have hc3:=bp hb3;refine A3 (h:=A3 (h:=A3 (h:=Ar (h:=e_ (GJ (h:=AN (q_ (w_ (f_ (h:=l_ (h:=AR (h:=e_ (?_)))))))))))));refine A8 rfl (fun hb6=>?_) (fun hb6=>?_)
 ·have hc6:=bp hb6;have hse:t.nextS=1073741824:=hc6;refine w_ (AX (h:=s_ (h:=a_ (h:=e_ (A4 (A7 (?_)))))));refine Am (r:=Cg (Es t pid u)) none (h5:=?_) (h6:=⟨rfl,rfl,rfl⟩);rw[Es,if_neg (by simp[hhas]),if_neg hid,if_neg (by first|assumption|omega),if_pos hse];exact Ek _
 have hc6:=bp hb6;have hse:¬t.nextS=1073741824:=hc6;refine AN (q_ (BO ([(0,Ax t),(1,D7)]) 7 (h:=AO 0 (h:=AG 1 (h:=AM 2 (h:=AG 3 (h:=?_)))))));refine Aj 4 rfl (Af rfl rfl rfl rfl rfl rfl (by repeat constructor) (by repeat constructor) ?_);refine o_ (h:=AG 5 (h:=?_));refine Aj 6 rfl (Af rfl rfl rfl rfl rfl rfl (by repeat constructor) (by repeat constructor) ?_);refine o_ (h:=z_ (h:=t_ (w_ (l_ (h:=l_ (h:=?_))))));refine A6 rfl (AK (hput hhas) ?_);rintro r rfl;refine AZ (h:=s_ (h:=e_ (w_ (f_ (h:=l_ (h:=BH (h:=f_ (h:=s_ (h:=e_ (w_ (l_ (h:=s_ (h:=a_ (h:=e_ (A4 (?_))))))))))))))));refine AJ ?_;rw[Es,if_neg (by simp[hhas]),if_neg hid,if_neg (by first|assumption|omega),if_neg hse,←htp,←e1];exact congrArg (fun n=>AV.tup [.agg [.v (.int .i64 n), .v (.int .i64 (tp.nextS+1)), .sl 14 (tp.ps.map B1) none], .v (.int .i64 0)]) (by rw[htp];rfl)
theorem jM(t:Tab)(pid fd:Int)(ht:TabB t):AFn prog 164 [.agg (Ax t), .v (.int .i64 pid), .v (.int .i64 fd)] (fun r=>r=Cg (Gw t pid fd)):=by
 have h8:=G9 ht pid;have hol:((AW t pid).opens.map Fc).length=(AW t pid).opens.length:=List.length_map _;refine enter Tryz.func164 rfl rfl rfl rfl rfl 0 rfl ?_;refine w_ (b_ (h:=AZ (h:=a_ (h:=e_ (w_ (l_ (h:=m_ (h:=?_))))))));refine A6 rfl (AK (GA t pid ht) ?_);rintro r rfl;refine m_ (h:=x_ (h:=x_ (h:=AZ (h:=s_ (h:=a_ (h:=e_ (q_ (w_ (m_ (h:=BG (h:=e_ (?_))))))))))));refine A8 rfl (fun hb1=>?_) (fun hb1=>?_)
 ·have hc1:=bp hb1;have hno:C8 t pid=false:=by simpa using hc1
  refine w_ (AX (h:=s_ (h:=a_ (h:=e_ (A4 (A7 (?_)))))));refine Am (r:=Cg (Gw t pid fd)) none (h5:=?_) (h6:=⟨rfl,rfl,rfl⟩);rw[Gw,if_pos hno];exact Ek _
 have hc1:=bp hb1;have hhas:C8 t pid=true:=by simpa using hc1
 refine AN (w_ (a_ (h:=e_ (q_ (w_ (a_ (h:=e_ (Av (?_)))))))));refine O7 10 243 4 rfl (by repeat constructor) ?_;refine Bq (fun m s=>∃(j:Nat) (acc:List Dsc),j≤(AW t pid).opens.length∧m=(AW t pid).opens.length - j∧((AW t pid).opens.take j).filter (fun d=>decide (d.fd≠fd))=acc∧acc.length≤j∧s=⟨look [(2, .v (.int .i64 fd)),(3, .bp 0 0),(6, .bp 1 0),(8, .bp 2 0),(10, .sl 4 (acc.map Fc) (some 0)),(11, .v (.int .i64 (j:Int)))],⟨[Ax t,D7,B1 (AW t pid)],[(243,4,acc.map Fc)]⟩⟩) ((AW t pid).opens.length) ((wk 3 1)) (⟨0,[],BJ _,rfl,rfl,BA _,rfl⟩) ?_;rintro m s ⟨j,acc,hj,rfl,hacc,hal,rfl⟩;refine q_ (w_ (m_ (h:=f_ (h:=l_ (h:=n_ (h:=BS (h:=e_ (?_))))))));refine A8 rfl (fun hb2=>?_) (fun hb2=>?_)
 ·have hc2:=bp hb2;obtain⟨hlt,x,hy,hrow, -⟩:=Cu Fc hc2;refine AN (q_ (Av (w_ (f_ (h:=l_ (h:=m_ (h:=i_ (h:=f_ (h:=l_ (h:=m_ (h:=BV (h:=e_ (?_)))))))))))));refine A8 rfl (fun hb3=>?_) (fun hb3=>?_)
  ·have hc3:=bp hb3;have hne:x.fd≠fd:=by simpa using hc3
   have hk:((AW t pid).opens.take (j+1)).filter (fun d=>decide (d.fd≠fd))=acc++[x]:=by rw[List.take_add_one,hy,List.filter_append,hacc];simp[hne]
   refine AQ (m_ (h:=f_ (h:=l_ (h:=m_ (h:=i_ (h:=l_ (h:=Bw (h:=?_))))))));refine A6 rfl (EO rfl rfl rfl (by simp;omega) (by repeat constructor) ?_);refine a_ (h:=AP (B8 (t_ (AQ (m_ (h:=BH (h:=a_ (h:=AP (?_)))))))));refine AF ?_;exact⟨(AW t pid).opens.length - (j+1),_,by omega,⟨j+1,acc++[x],by omega,rfl,hk,by simp;omega,rfl⟩,(by rw[List.map_append];exact Az 3 1 rfl rfl rfl rfl ((by repeat (first|exact Sub.nil|refine B0 rfl rfl ?_|refine B2 ?_|refine B3 rfl ?_|refine B4 rfl ?_))))⟩
  have hc3:=bp hb3;have hne:x.fd=fd:=by simpa using hc3
  have hk:((AW t pid).opens.take (j+1)).filter (fun d=>decide (d.fd≠fd))=acc:=by rw[List.take_add_one,hy,List.filter_append,hacc];simp[hne]
  refine BM (B8 (t_ (AQ (m_ (h:=BH (h:=a_ (h:=AP (?_))))))));refine AF ?_
  first|exact⟨(AW t pid).opens.length - (j+1),_,by omega,⟨j+1,acc++[x],by omega,rfl,hk,by simp;omega,rfl⟩,(by rw[List.map_append];exact Az 3 1 rfl rfl rfl rfl ((by repeat (first|exact Sub.nil|refine B0 rfl rfl ?_|refine B2 ?_|refine B3 rfl ?_|refine B4 rfl ?_))))⟩|exact⟨(AW t pid).opens.length - (j+1),_,by omega,⟨j+1,acc,by omega,rfl,hk,by omega,rfl⟩,Az 3 1 rfl rfl rfl rfl ((by repeat (first|exact Sub.nil|refine B0 rfl rfl ?_|refine B2 ?_|refine B3 rfl ?_|refine B4 rfl ?_)))⟩
 have hc2:=bp hb2;have e:=D0 Fc hj hc2;subst e;rw[List.take_length]at hacc;refine BX (Aw (Aw (BY (t_ (q_ (w_ (m_ (h:=n_ (h:=f_ (h:=l_ (h:=n_ (h:=AR (h:=e_ (?_))))))))))))));refine A8 rfl (fun hb4=>?_) (fun hb4=>?_)
 ·have hc4:=bp hb4;have hln:(((AW t pid).opens.filter fun d=>decide (d.fd≠fd)).length:Int)=((AW t pid).opens.length:Int):=by rw[hacc];simpa using hc4
  refine w_ (AX (h:=s_ (h:=a_ (h:=e_ (A4 (A7 (?_)))))));refine Am (r:=Cg (Gw t pid fd)) none (h5:=?_) (h6:=⟨rfl,rfl,rfl⟩);rw[Gw,if_neg (by simp[hhas]),if_pos hln];exact Ek _
 have hc4:=bp hb4;have hln:¬(((AW t pid).opens.filter fun d=>decide (d.fd≠fd)).length:Int)=((AW t pid).opens.length:Int):=by rw[hacc];simpa using hc4
 refine AN (w_ (m_ (h:=f_ (h:=s_ (h:=e_ (w_ (l_ (h:=?_))))))));refine A6 rfl (FF (y:= .agg (B1 {AW t pid with opens:=(AW t pid).opens.filter fun d=>decide (d.fd≠fd)})) (GE rfl rfl rfl ⟨rfl,rfl⟩) (WY _ _ _ _ (by rw[hacc])) ?_);refine A6 rfl (AK (Kq t {AW t pid with opens:=(AW t pid).opens.filter fun d=>decide (d.fd≠fd)} ht (KD hhas) (by have:=List.length_filter_le (fun d:Dsc=>decide (d.fd≠fd)) (AW t pid).opens;show((AW t pid).opens.filter _).length≤1000;omega)) ?_);rintro r rfl;refine s_ (h:=a_ (h:=e_ (A4 (?_))));refine AJ ?_;rw[Gw,if_neg (by simp[hhas]),if_neg hln];rfl
theorem X0(t:Tab)(pid:Int)(ht:TabB t):AFn prog 160 [.agg (Ax t), .v (.int .i64 pid)] (fun r=>r=Cg (Fy t pid)):=by
 have hfew:=ht.few;refine enter Tryz.func160 rfl rfl rfl rfl rfl 0 rfl ?_;refine w_ (b_ (h:=AZ (h:=a_ (h:=e_ (q_ (w_ (l_ (h:=m_ (h:=?_)))))))));refine A6 rfl (AK (GA t pid ht) ?_);rintro r rfl;refine m_ (h:=x_ (h:=x_ (h:=AZ (h:=s_ (h:=a_ (h:=e_ (w_ (m_ (h:=BG (h:=e_ (?_)))))))))));refine A8 rfl (fun hb1=>?_) (fun hb1=>?_)
 ·have hc1:=bp hb1;have hno:C8 t pid=false:=by simpa using hc1
  refine w_ (AX (h:=s_ (h:=a_ (h:=e_ (A4 (A7 (?_)))))));refine Am (r:=Cg (Fy t pid)) none (h5:=?_) (h6:=⟨rfl,rfl,rfl⟩);rw[Fy,if_pos hno];exact Ek _
 have hc1:=bp hb1;have hhas:C8 t pid=true:=by simpa using hc1
 refine AN (q_ (w_ (m_ (h:=AR (h:=e_ (?_))))));refine A8 rfl (fun hb2=>?_) (fun hb2=>?_)
 ·have hc2:=bp hb2;have h1:pid=1:=hc2;refine w_ (AX (h:=s_ (h:=a_ (h:=e_ (A4 (A7 (?_)))))));refine Am (r:=Cg (Fy t pid)) none (h5:=?_) (h6:=⟨rfl,rfl,rfl⟩);rw[Fy,if_neg (by simp[hhas]),if_pos h1];exact Ek _
 have hc2:=bp hb2;have h1:¬pid=1:=hc2;refine AN (w_ (f_ (h:=l_ (h:=f_ (h:=l_ (h:=AX (h:=AZ (h:=s_ (h:=e_ (q_ (w_ (a_ (h:=e_ (Av (?_)))))))))))))));refine LG 3 2 61 14 rfl rfl (by repeat constructor) (by repeat constructor) (by repeat constructor) ?_;refine Bq (fun m s=>∃(j:Nat) (acc:List Prc),j≤t.ps.length∧m=t.ps.length - j∧((t.ps.take j).filter fun p=>decide (p.pid≠pid)).map (Fx pid)=acc∧acc.length≤j∧s=⟨look [(1, .v (.int .i64 pid)),(2, .bp 0 0),(4, .bp 1 0),(8, .bp 3 0),(9, .v (.int .i64 (j:Int)))],⟨[Ax t,D7,B1 (AW t pid),D8 t (.sl 14 (acc.map B1) (some 0))],[(61,14,acc.map B1)]⟩⟩) (t.ps.length) ((wk 4 1)) (⟨0,[],BJ _,rfl,rfl,BA _,rfl⟩) ?_;rintro m s ⟨j,acc,hj,rfl,hacc,hal,rfl⟩;refine q_ (w_ (m_ (h:=f_ (h:=l_ (h:=n_ (h:=BS (h:=e_ (?_))))))));refine A8 rfl (fun hb3=>?_) (fun hb3=>?_)
 ·have hc3:=bp hb3;obtain⟨hlt,x,hy,hrow, -⟩:=Cu B1 hc3;have hop:x.opens.length≤1000:=by have:=ht.opens x (Al hy);omega
  have hk:=jF hy hacc;refine AN (q_ (Av (w_ (f_ (h:=l_ (h:=m_ (h:=i_ (h:=l_ (h:=?_)))))))));refine A6 rfl (AK (NU x hop) ?_);rintro r rfl;refine AZ (h:=s_ (h:=e_ (?_)));refine BE (fun s=>s=⟨look [(1, .v (.int .i64 pid)),(2, .bp 0 0),(4, .bp 1 0),(8, .bp 3 0),(9, .v (.int .i64 (j:Int))),(10, .bp 4 0)],⟨[Ax t,D7,B1 (AW t pid),D8 t (.sl 14 (acc.map B1) (some 0)),B1 (Fx pid x)],[(61,14,acc.map B1)]⟩⟩) ?_ ?_
  ·skip
   refine w_ (f_ (h:=l_ (h:=m_ (h:=AR (h:=e_ (?_))))));refine A8 rfl (fun hb4=>?_) (fun hb4=>?_)
   ·have hc4:=bp hb4;have hpp:x.ppid=pid:=hc4;refine AQ (f_ (h:=s_ (h:=AP (?_))));refine AF ?_;refine⟨_,rfl,?_⟩;unfold Fx
    (rw[if_pos hpp];exact Az 5 1 rfl rfl rfl rfl ((by repeat (first|exact Sub.nil|refine B0 rfl rfl ?_|refine B2 ?_|refine B3 rfl ?_|refine B4 rfl ?_))))
   have hc4:=bp hb4;have hpp:¬x.ppid=pid:=hc4;refine BM (?_);refine AF ?_;refine⟨_,rfl,?_⟩;unfold Fx
   first|(rw[if_pos hpp];exact Az 5 1 rfl rfl rfl rfl ((by repeat (first|exact Sub.nil|refine B0 rfl rfl ?_|refine B2 ?_|refine B3 rfl ?_|refine B4 rfl ?_))))|(rw[if_neg hpp];exact Az 5 1 rfl rfl rfl rfl ((by repeat (first|exact Sub.nil|refine B0 rfl rfl ?_|refine B2 ?_|refine B3 rfl ?_|refine B4 rfl ?_))))
  rintro s rfl;have hop2:(Fx pid x).pid=x.pid:=by unfold Fx;split<;>rfl
  refine w_ (f_ (h:=l_ (h:=m_ (h:=BV (h:=e_ (?_))))));refine A8 rfl (fun hb5=>?_) (fun hb5=>?_)
  ·have hc5:=bp hb5;have hpe:x.pid≠pid:=by rw[←hop2];simpa using hc5
   rw[if_pos hpe]at hk;refine AQ (f_ (h:=l_ (h:=l_ (h:=Bw (h:=?_)))));refine A6 rfl (EO rfl rfl rfl (by simp;omega) (by repeat constructor) ?_);refine f_ (h:=s_ (h:=AP (B8 (t_ (AQ (m_ (h:=BH (h:=a_ (h:=AP (?_))))))))));refine AF ?_;exact⟨t.ps.length - (j+1),_,by omega,⟨j+1,acc++[Fx pid x],by omega,rfl,hk,by simp;omega,rfl⟩,(by rw[List.map_append];exact Az 4 1 rfl rfl rfl rfl ((by repeat (first|exact Sub.nil|refine B0 rfl rfl ?_|refine B2 ?_|refine B3 rfl ?_|refine B4 rfl ?_))))⟩
  have hc5:=bp hb5;have hpe:¬x.pid≠pid:=by rw[←hop2];simpa using hc5
  rw[if_neg hpe]at hk;refine BM (B8 (t_ (AQ (m_ (h:=BH (h:=a_ (h:=AP (?_))))))));refine AF ?_
  first|exact⟨t.ps.length - (j+1),_,by omega,⟨j+1,acc++[Fx pid x],by omega,rfl,hk,by simp;omega,rfl⟩,(by rw[List.map_append];exact Az 4 1 rfl rfl rfl rfl ((by repeat (first|exact Sub.nil|refine B0 rfl rfl ?_|refine B2 ?_|refine B3 rfl ?_|refine B4 rfl ?_))))⟩|exact⟨t.ps.length - (j+1),_,by omega,⟨j+1,acc,by omega,rfl,hk,by omega,rfl⟩,Az 4 1 rfl rfl rfl rfl ((by repeat (first|exact Sub.nil|refine B0 rfl rfl ?_|refine B2 ?_|refine B3 rfl ?_|refine B4 rfl ?_)))⟩
 have hc3:=bp hb3;have e:=D0 B1 hj hc3;subst e;rw[List.take_length]at hacc;refine BX (Aw (Aw (BY (t_ (w_ (l_ (h:=s_ (h:=a_ (h:=e_ (A4 (?_)))))))))));refine Am (r:=Cg (Fy t pid)) none (h5:=?_) (h6:=⟨rfl,rfl,rfl⟩);rw[Fy,if_neg (by simp[hhas]),if_neg h1,hacc];exact LeA.tup (.cons (LeA.agg (.cons (A9 _) (.cons (A9 _) (.cons (LeA.tok _ _ _) .nil)))) (.cons (A9 _) .nil))
theorem jN(t:Tab)(pid q:Int)(b:Bool)(ht:TabB t):AFn prog 166 [.agg (Ax t), .v (.int .i64 pid), .v (.int .i64 q), .v (.bool b)] (fun r=>r=Cg (Fi t pid q b)):=by
 refine enter Tryz.func166 rfl rfl rfl rfl rfl 0 rfl ?_;refine w_ (b_ (h:=AZ (h:=a_ (h:=e_ (w_ (l_ (h:=m_ (h:=?_))))))));refine A6 rfl (AK (GA t pid ht) ?_);rintro r rfl;refine m_ (h:=x_ (h:=x_ (h:=AZ (h:=s_ (h:=a_ (h:=e_ (q_ (w_ (m_ (h:=BG (h:=e_ (?_))))))))))));refine A8 rfl (fun hb1=>?_) (fun hb1=>?_)
 ·have hc1:=bp hb1;have hno:C8 t pid=false:=by simpa using hc1
  refine w_ (AX (h:=s_ (h:=a_ (h:=e_ (A4 (A7 (?_)))))));refine Am (r:=Cg (Fi t pid q b)) none (h5:=?_) (h6:=⟨rfl,rfl,rfl⟩);rw[Fi,if_pos hno];exact Ek _
 have hc1:=bp hb1;have hhas:C8 t pid=true:=by simpa using hc1
 refine AN (w_ (l_ (h:=m_ (h:=?_))));refine A6 rfl (AK (GA t q ht) ?_);rintro r rfl;refine m_ (h:=x_ (h:=x_ (h:=AZ (h:=s_ (h:=a_ (h:=e_ (q_ (w_ (m_ (h:=BG (h:=e_ (?_))))))))))));refine A8 rfl (fun hb2=>?_) (fun hb2=>?_)
 ·have hc2:=bp hb2;have hno2:C8 t q=false:=by simpa using hc2
  refine w_ (AX (h:=s_ (h:=a_ (h:=e_ (A4 (A7 (?_)))))));refine Am (r:=Cg (Fi t pid q b)) none (h5:=?_) (h6:=⟨rfl,rfl,rfl⟩);rw[Fi,if_neg (by simp[hhas]),if_pos hno2];exact Ek _
 have hc2:=bp hb2;have hhas2:C8 t q=true:=by simpa using hc2
 refine AN (q_ (?_));refine BE (fun S=>S=⟨look [(2, .v (.int .i64 q)),(3, .v (.bool b)),(4, .bp 0 0),(8, .bp 1 0),(44, .v (.bool (decide (q=1∨(AW t pid).euid≠0∧(AW t pid).euid≠(AW t q).uid))))],⟨[Ax t,D7],[]⟩⟩) ?_ ?_
 ·skip
  refine AQ (m_ (h:=AR (h:=m_ (h:=?_))));refine B5 false rfl rfl (fun hb3=>?_) (fun hb3=>?_)
  ·have hc3:=bp hb3;refine A3 (h:=A3 (h:=A3 (h:=A3 (h:=Cz (h:=Cz (h:=Cz (h:=Cz (h:=Cz (h:=A3 (h:=Ag (h:=AP (?_))))))))))));refine AF ?_;exact⟨_,rfl,CM 2 0 rfl⟩
  have hc3:=bp hb3;refine f_ (h:=l_ (h:=BV (h:=m_ (h:=?_))));refine B5 true rfl rfl (fun hb4=>?_) (fun hb4=>?_)
  ·have hc4:=bp hb4;refine f_ (h:=l_ (h:=f_ (h:=l_ (h:=BV (h:=Ag (h:=Ar (h:=AP (?_))))))));refine AF ?_;exact⟨_,rfl,CM 2 0 rfl⟩
  have hc4:=bp hb4;refine A3 (h:=A3 (h:=A3 (h:=A3 (h:=A3 (h:=Ar (h:=Ar (h:=AP (?_))))))));refine AF ?_;exact⟨_,rfl,CM 2 0 rfl⟩
 rintro S rfl;refine A8 rfl (fun hb5=>?_) (fun hb5=>?_)
 ·have hc5:=bp hb5;refine w_ (AX (h:=s_ (h:=a_ (h:=e_ (A4 (A7 (?_)))))));refine Am (r:=Cg (Fi t pid q b)) none (h5:=?_) (h6:=⟨rfl,rfl,rfl⟩);rw[Fi,if_neg (by simp[hhas]),if_neg (by simp[hhas2]),if_pos (by first|assumption|simpa using ‹_›)];exact Ek _
 have hc5:=bp hb5;refine AN (q_ (w_ (m_ (h:=e_ (?_)))));refine A8 rfl (fun hb6=>?_) (fun hb6=>?_)
 ·have hc6:=bp hb6;have hb:b=true:=hc6;refine w_ (l_ (h:=m_ (h:=?_)));refine A6 rfl (AK (X0 t q ht) ?_);rintro r rfl;refine x_ (h:=x_ (h:=s_ (h:=a_ (h:=e_ (A4 (A7 (?_)))))));refine AJ ?_;rw[Fi,if_neg (by simp[hhas]),if_neg (by simp[hhas2]),if_neg (by first|assumption|simpa using ‹_›),if_pos hb];rfl
 have hc6:=bp hb6;have hb:¬b=true:=by simpa using hc6
 refine AN (w_ (l_ (h:=?_)));refine A6 rfl (AK (Vi t ht) ?_);rintro r rfl;refine s_ (h:=a_ (h:=e_ (A4 (?_))));refine AJ ?_;rw[Fi,if_neg (by simp[hhas]),if_neg (by simp[hhas2]),if_neg (by first|assumption|simpa using ‹_›),if_neg hb];rfl
theorem jO(t:Tab)(pid:Int)(ht:TabB t)(hn:D9 t):AFn prog 159 [.agg (Ax t), .v (.int .i64 pid)] (fun r=>r=Ja (F6 t pid)):=by
 have hfew:=ht.few;have hn1:=hn.1;have hn2:=ht.next;have hpl:(t.ps.map B1).length=t.ps.length:=List.length_map _;obtain⟨p,hp⟩:∃p:Prc,p={AW t pid with pid:=t.next,ppid:=pid}:=⟨_,rfl⟩;have hlen:(t.ps++[p]).length=t.ps.length+1:=by simp
 obtain⟨tF,htF⟩:∃x:Tab,x=⟨t.next+1,t.nextS,t.ps++[p]⟩:=⟨_,rfl⟩;refine enter Tryz.func159 rfl rfl rfl rfl rfl 0 rfl ?_;refine w_ (b_ (h:=AZ (h:=a_ (h:=a_ (h:=e_ (w_ (l_ (h:=m_ (h:=?_)))))))));refine A6 rfl (AK (GA t pid ht) ?_);rintro r rfl;refine m_ (h:=x_ (h:=x_ (h:=AZ (h:=s_ (h:=a_ (h:=e_ (q_ (w_ (m_ (h:=BG (h:=e_ (?_))))))))))));refine A8 rfl (fun hb1=>?_) (fun hb1=>?_)
 ·have hc1:=bp hb1;have hno:C8 t pid=false:=by simpa using hc1
  refine w_ (AX (h:=s_ (h:=a_ (h:=a_ (h:=e_ (A4 (A7 (?_))))))));refine Am (r:=Ja (F6 t pid)) none (h5:=?_) (h6:=⟨rfl,rfl,rfl⟩);rw[F6,if_pos hno];exact NZ _ _
 have hc1:=bp hb1;have hhas:C8 t pid=true:=by simpa using hc1
 refine AN (q_ (w_ (f_ (h:=l_ (h:=n_ (h:=GL (h:=m_ (h:=?_))))))));refine B5 false rfl rfl (fun hb2=>?_) (fun hb2=>?_)
 ·have hc2:=bp hb2;refine A3 (h:=A3 (h:=A3 (h:=Ag (h:=e_ (C2 (h:=w_ (AX (h:=s_ (h:=a_ (h:=a_ (h:=e_ (A4 (A7 (?_))))))))))))));refine Am (r:=Ja (F6 t pid)) none (h5:=?_) (h6:=⟨rfl,rfl,rfl⟩);rw[F6,if_neg (by simp[hhas]),if_pos (by first|assumption|omega)];exact NZ _ _
 have hc2:=bp hb2;refine f_ (h:=l_ (h:=AR (h:=Ar (h:=e_ (?_)))));refine A8 rfl (fun hb3=>?_) (fun hb3=>?_)
 ·have hc3:=bp hb3;refine w_ (AX (h:=s_ (h:=a_ (h:=a_ (h:=e_ (A4 (A7 (?_))))))));refine Am (r:=Ja (F6 t pid)) none (h5:=?_) (h6:=⟨rfl,rfl,rfl⟩);rw[F6,if_neg (by simp[hhas]),if_pos (by first|assumption|omega)];exact NZ _ _
 have hc3:=bp hb3;refine AN (?_);refine BE (fun s=>s=⟨look [(2, .bp 0 0),(4, .bp 1 0),(7, .bp 2 0)],⟨[Ax t,D7,B1 p],[]⟩⟩) ?_ ?_
 ·skip
  refine AQ (f_ (h:=l_ (h:=m_ (h:=f_ (h:=s_ (h:=f_ (h:=s_ (h:=AP (?_)))))))));refine AF ?_;rw[hp];exact⟨_,rfl,Az 3 0 rfl rfl rfl rfl ((by repeat (first|exact Sub.nil|refine B0 rfl rfl ?_|refine B2 ?_|refine B3 rfl ?_|refine B4 rfl ?_)))⟩
 rintro s rfl;refine BE (fun s=>∃cap,t.ps.length≤cap∧s=⟨look [(4, .bp 1 0),(7, .bp 2 0),(9, .bp 3 0)],⟨[Ax t,D7,B1 p,D8 t (.bs 4 0 14 t.ps.length cap),LB 14 B1 t.ps cap],[]⟩⟩) ?_ ?_
 ·skip
  refine AQ (l_ (h:=?_));refine A6 rfl (Bf [] rfl (.cons _ _ _ _ _ rfl (A9 _) .nil) (by decide) .nil (Vj t ht (KD hhas)) ?_);rintro r bc tc ⟨rfl,cap,hcap,rfl,rfl⟩;refine⟨rfl,_,(Vh (n:=3) rfl t cap:Back _ [] _ [_,_,_,_,_,_,_]),?_⟩;refine AZ (h:=s_ (h:=AP (?_)));refine AF ?_;exact⟨_,⟨cap,hcap,rfl⟩,EB [0,1,2,7,6] (fun i hi=>absurd hi (Nat.not_lt_zero i)) (by decide) (.cons _ _ _ _ _ rfl rfl (.cons _ _ _ _ _ rfl rfl (.cons _ _ _ _ _ rfl rfl (.cons _ _ _ _ _ rfl rfl (.cons _ _ _ _ _ rfl (H7 Dt _ _ _) .nil))))) (by repeat (first|exact SubK.nil|refine SubK.cons _ _ _ _ rfl (A9 _) ?_))⟩
 rintro s ⟨cap,hcp,rfl⟩;refine w_ (f_ (h:=l_ (h:=BH (h:=f_ (h:=s_ (h:=e_ (?_)))))));refine BE (fun s=>s=⟨look [(4, .bp 1 0),(7, .bp 2 0),(9, .bp 3 0)],⟨[Ax t,D7,B1 p,Ax tF],[]⟩⟩) ?_ ?_
 ·skip
  refine AQ (f_ (h:=l_ (h:=l_ (h:=Bw (h:=?_)))));refine A6 rfl (LH rfl rfl rfl (by rw[NR Dt hcp];omega) JW (by omega) (by omega) ?_ ?_)
  ·rintro hg row2 bx2 hs hb;obtain rfl:=Rk Dt hs hg;obtain rfl:bx2=[_,_,_,_,_]:=hb.one.2;have hcpx:(t.ps++[p]).length≤cap:=by simpa using hg
   refine f_ (h:=s_ (h:=AP (?_)));refine AF ?_;rw[htF];refine⟨_,rfl,?_⟩;rw[←hlen];exact FJ 4 1 rfl (congrArg (fun x=>[Ax t,D7,B1 p,[.v (.int .i64 (t.next+1)), .v (.int .i64 t.nextS),x]]) (Ko (l:=t.ps++[p]) Dt rfl rfl hcpx)) (.cons _ _ _ _ rfl (A9 _) (.cons _ _ _ _ rfl (A9 _) (.cons _ _ _ _ rfl (A9 _) .nil)))
  rintro hg cap3 k bx2 hcp3 hs;rw[show((LB 14 B1 t.ps cap).drop 0).take (t.ps.length * 14)++Ce (.agg (B1 p))++List.replicate ((cap3 - (t.ps.length+1)) * 14) AV.any=LB 14 B1 (t.ps++[p]) cap3 from Rj Dt t.ps p cap cap3]at hs;obtain⟨rfl,rfl⟩:k=5∧bx2=[_,_,_,_,_,_]:=hs.eq;have hcpx:(t.ps++[p]).length≤cap3:=by simpa using hcp3
  refine f_ (h:=s_ (h:=AP (?_)));refine AF ?_;rw[htF];refine⟨_,rfl,?_⟩;rw[←hlen];exact FJ 4 1 rfl (congrArg (fun x=>[Ax t,D7,B1 p,[.v (.int .i64 (t.next+1)), .v (.int .i64 t.nextS),x]]) (Ko (l:=t.ps++[p]) Dt rfl rfl hcpx)) (.cons _ _ _ _ rfl (A9 _) (.cons _ _ _ _ rfl (A9 _) (.cons _ _ _ _ rfl (A9 _) .nil)))
 rintro s rfl;refine q_ (BO ([(0,Ax t),(2,B1 p),(3,Ax tF)]) 6 (h:=AM 0 (h:=AG 1 (h:=AM 2 (h:=?_)))));refine Aj 3 rfl (Af rfl rfl rfl rfl rfl rfl (by repeat constructor) (by repeat constructor) ?_);refine o_ (h:=BK 4 (h:=BK 5 (h:=z_ (h:=t_ (A4 (?_))))));refine AJ ?_;rw[F6,if_neg (by simp[hhas]),if_neg (by first|assumption|omega),←hp,←htF];rw[hp];rfl
end
end Go.Proofs.YtbglbmnhgbgelaaGreatDoor
