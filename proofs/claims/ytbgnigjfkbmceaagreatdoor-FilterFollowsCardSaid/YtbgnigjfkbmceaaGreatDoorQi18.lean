/-
  Part 18 of the proof of FilterFollowsP: what the statement's proof uses of the texts in wip/tpl.
-/
import Derived.Test.YtbgnigjfkbmceaaGreatDoorQi17
open Go.Proofs.Tryz (prog)
set_option maxRecDepth 10000
set_option maxHeartbeats 4000000
set_option linter.unusedVariables false
set_option linter.unusedSimpArgs false
namespace Go.Proofs.YtbgnigjfkbmceaaGreatDoor
open Go.RowKit
section
variable {P:Program}{ev:Operand→Option AV}{h:AH}{R:AV→AH→Prop}{d:Option Tmp}{ty:TypeId}{pos:String}{af:Array Edge}{gd:Option (Nat×Bool)}
theorem sR{T:TypeId}{s y:Operand}{T' sz bytes:Nat}[hE:Elm P T T' sz bytes](hs:ev s=some (.v (.slice none 0 0)))(hy:ev y=some (.v (.slice none 0 0)))(hR:R (.v (.slice none 0 0)) h):AStep P ⟨d, .call {callee:= .builtin .append,args:=#[s,y],argTypes:=#[T,T]},ty,pos,af,gd⟩ ev h R:=by
 intro E G w ec hr he;have k1:=he s (by simp[Op.operands,Call.operands]) _ hs;have k2:=he y (by simp[Op.operands,Call.operands]) _ hy;obtain⟨hu,inf,z,hinf,hz,hzs,hsz,hbts,hp⟩:=H6 hE.eq;simp only[rep]at k1 k2
 have hrun:(Builtin.append_ #[T,T] ty #[.slice none 0 0, .slice none 0 0]).run P w= .ok (.slice none 0 0) w:=by
  simp[Builtin.append_,run_underlying hu,sizeOf,typeInfo,hinf,Builtin.lenOf,Builtin.firstCells,storeCells]
 simp only[execOp,resolve,invoke,builtin,Sem.run_bind,Sem.run_pure,Result.andThen_ok,List.map_toArray,List.map_cons,List.map_nil,k1,k2,hrun];exact⟨_,_,G,hR,hr,Ext.refl _ _,by simp only[rep]⟩
end
def WN(w:Wrk):List AV:=De w (.v (.slice none 0 0)) (.v (.slice none 0 0))
theorem Lq{a:List AV}{rest:List (List AV)}(w:Wrk):Back (a::rest) [0] [WN w] (WN w::rest):=by
 have:=Pw (bx:=a::rest) (is:=[0]) (bc:=[WN w]) (by simp) (by simp) (by simp);have e1:E5 (Ep [0] (a::rest).length) (WN w)=WN w:=rfl
 have hb:Dx (a::rest) (Ep [0] (a::rest).length) [0] [WN w]=WN w::rest:=by
  unfold Dx;rw[e1];simp[Dx]
 rw[hb]at this;exact this
def Cq(c:Cal):List AV:=[.v (.int .i64 c.a0), .v (.int .i64 c.a1), .v (.int .i64 c.a2), .v (.int .i64 c.a3)]
theorem sT{t:Tab}{dev:Int}(h:∀i y,i<t.ps.length→t.ps[i]?=some y→(decide (y.cwd.1=dev)||y.opens.any fun d=>decide (d.file.1=dev))=false):Oe t dev=false:=OG h
section
theorem Nq(w:Wrk)(t:Tab)(e:Int):ACall prog 200 [.bp 0 0, .agg (Am t), .v (.int .i64 e)] [WN w] (fun r b tk=>tk=[]∧r= .v (.int .i64 e)∧b=[WN (CN w (t,e)).1]):=by
 refine enter Tryz.func200 rfl rfl rfl rfl rfl 1 rfl ?_;refine C6 (h:=Bw (h:=BN (h:=?_)));refine A4 rfl (fun hb1 hc1=>?_) (fun hb1 hc1=>?_)
 ·refine C5 (h:=l_ (h:=Hd (h:=D7 (h:=EA (h:=?_)))));refine AZ (r:= .v (.int .i64 e)) none (h4:=(by simp[AY,AX,AW,BG,WN,Cq,Am,Au,AT])) (h5:=(A7 _)) (h6:=⟨rfl,rfl,?_⟩);rw[CN,if_pos hc1];rfl
 refine AG (EA (h:=?_));refine AZ (r:= .v (.int .i64 e)) none (h4:=(by simp[AY,AX,AW,BG,WN,Cq,Am,Au,AT])) (h5:=(A7 _)) (h6:=⟨rfl,rfl,?_⟩);rw[CN,if_neg hc1];rfl
theorem sU(w:Wrk)(hs:SpcB w.s.spc)(htb:TabB w.s.tab):ACall prog 213 [.bp 0 0] [WN w] (fun r b t=>t=[]∧r= .v (.int .i64 (Hj w).2)∧b=[WN (Hj w).1]):=by
 have hfew:=htb.few;obtain⟨R,hR⟩:∃R,R=J4 w.s.spc w.c.a0:=⟨_,rfl⟩;have hrem:AFn prog 253 [.agg (AT w.s.spc), .v (.int .i64 w.c.a0)] (fun r=>r=Hh R):=by rw[hR];exact jR _ _ hs
 have hum:Hj w=if w.p.euid≠0 then(w,1)else if w.c.a0=0∨CO w.s.spc w.c.a0=false then(w,22)else if Oe w.s.tab w.c.a0=true then(w,16)else Ll w R:=by
  unfold Hj;rw[←hR]
 clear hR;refine enter Tryz.func213 rfl rfl rfl rfl rfl 1 rfl ?_;refine Eh (h:=Hd (h:=f_ (h:=?_)));refine A3 rfl (CB (len:=4) (sz:=1) (n:=0) (by kernel_rfl) rfl rfl rfl rfl ?_);refine l_ (h:=Bw (h:=Dj (h:=Bn (h:=?_))));refine A4 rfl (fun hb1 hc1=>?_) (fun hb1 hc1=>?_)
 ·have k1:w.p.euid≠0:=by simpa using hc1
  refine BA (h:=?_);refine AZ (r:= .v (.int .i64 (Hj w).2)) none (h4:=(by simp[AY,AX,AW,BG,WN,Cq,Am,Au,AT])) (h5:=(by rw[hum,if_pos k1];exact A7 _)) (h6:=⟨rfl,rfl,?_⟩);rw[hum,if_pos k1];rfl
 have k1:¬w.p.euid≠0:=by simpa using hc1
 refine FY (h:=?_);refine B9 (fun S=>S=⟨look [(0, .bp 0 0),(3, .v (.int .i64 w.c.a0)),(32, .v (.bool (decide (w.c.a0=0)|| !CO w.s.spc w.c.a0)))],⟨[WN w],[]⟩⟩) ?_ ?_
 ·skip
  refine C5 (h:=E1 (h:=?_));refine AJ false rfl rfl (fun hb2 hc2=>?_) (fun hb2 hc2=>?_)
  ·refine BT (h:=Fi (h:=D6 (h:=?_)));exact⟨_,rfl,CA 1 0 (by simp[AY,AX,AW,BG,WN,Cq,Am,Au,AT])⟩
  refine m_ (h:=Dj (h:=m_ (h:=?_)));refine As (A8 (OB w.s.spc w.c.a0 hs) ?_);rintro r rfl;refine Cr (h:=FX (h:=?_));exact⟨_,rfl,CA 1 0 (by simp[AY,AX,AW,BG,WN,Cq,Am,Au,AT])⟩
 rintro S rfl;refine A4 rfl (fun hb3 hc3=>?_) (fun hb3 hc3=>?_)
 ·have k2:w.c.a0=0∨CO w.s.spc w.c.a0=false:=by simpa using hc3
  refine BA (h:=?_);refine AZ (r:= .v (.int .i64 (Hj w).2)) none (h4:=(by simp[AY,AX,AW,BG,WN,Cq,Am,Au,AT])) (h5:=(by rw[hum,if_neg k1,if_pos k2];exact A7 _)) (h6:=⟨rfl,rfl,?_⟩);rw[hum,if_neg k1,if_pos k2];rfl
 have k2:¬(w.c.a0=0∨CO w.s.spc w.c.a0=false):=by simpa using hc3
 refine AG (CW (h:=?_));refine BR (fun m S=>∃j:Nat,j≤w.s.tab.ps.length∧m=w.s.tab.ps.length - j∧(∀i y,i<j→w.s.tab.ps[i]?=some y→(decide (y.cwd.1=w.c.a0)||y.opens.any fun d=>decide (d.file.1=w.c.a0))=false)∧S=⟨look [(0, .bp 0 0),(3, .v (.int .i64 w.c.a0)),(4, .v (.int .i64 (j:Int)))],⟨[WN w],[]⟩⟩) (w.s.tab.ps.length) (Bk 1 0 (by simp[AY,AX,AW,BG,WN,Cq,Am,Au,AT])) (⟨0,BK _,rfl,fun i y hi=>by omega,rfl⟩) ?_;rintro m S ⟨j,hj,rfl,ha,rfl⟩;refine Du (h:=Hd (h:=ET (h:=Ht (h:=?_))));refine A4 rfl (fun hb4 hc4=>?_) (fun hb4 hc4=>?_)
 ·obtain⟨hlt,p,hy,hrow, -⟩:=Bz Au hc4;have hop:=htb.opens p (Ag hy);have hpl:(p.opens.map J8).length=p.opens.length:=List.length_map _;refine C2 (h:=Aa (h:=Hd (h:=ET (h:=JJ (h:=Hu (h:=q_ (w_ (ET (h:=m_ (h:=BN (h:=?_)))))))))));refine A4 rfl (fun hb5 hc5=>?_) (fun hb5 hc5=>?_)
  ·have hbz:Oe w.s.tab w.c.a0=true:=NR hy (by simp[hc5]);refine BA (h:=Cv (h:=EB (h:=?_)));refine AZ (r:= .v (.int .i64 (Hj w).2)) none (h4:=(by simp[AY,AX,AW,BG,WN,Cq,Am,Au,AT])) (h5:=(by rw[hum,if_neg k1,if_neg k2,if_pos hbz];exact A7 _)) (h6:=⟨rfl,rfl,?_⟩);rw[hum,if_neg k1,if_neg k2,if_pos hbz];rfl
  have hcw:¬p.cwd.1=w.c.a0:=hc5;refine AG (O6 (h:=?_));refine BR (fun m S=>∃k:Nat,k≤p.opens.length∧m=p.opens.length - k∧(∀i y,i<k→p.opens[i]?=some y→decide (y.file.1=w.c.a0)=false)∧S=⟨look [(0, .bp 0 0),(3, .v (.int .i64 w.c.a0)),(4, .v (.int .i64 (j:Int))),(5, .bp 1 0),(6, .v (.int .i64 (k:Int)))],⟨[WN w,Au p],[]⟩⟩) (p.opens.length) (Bk 2 0 (by simp[AY,AX,AW,BG,WN,Cq,Am,Au,AT])) (⟨0,BK _,rfl,fun i y hi=>by omega,rfl⟩) ?_;rintro m S ⟨k,hk2,rfl,hak,rfl⟩;refine GN (h:=?_);refine A4 rfl (fun hb6 hc6=>?_) (fun hb6 hc6=>?_)
  ·obtain⟨hltk,q,hyk,hrowk, -⟩:=Bz J8 hc6;refine C2 (h:=Fu (h:=ET (h:=m_ (h:=BN (h:=?_)))));refine A4 rfl (fun hb7 hc7=>?_) (fun hb7 hc7=>?_)
   ·have hbz:Oe w.s.tab w.c.a0=true:=NR hy (by rw[Bool.or_eq_true];exact .inr (NR hyk (decide_eq_true hc7)));refine Bl (h:=Bu (K2 (Cv (h:=EB (h:=?_)))));refine AZ (r:= .v (.int .i64 (Hj w).2)) none (h4:=(by simp[AY,AX,AW,BG,WN,Cq,Am,Au,AT])) (h5:=(by rw[hum,if_neg k1,if_neg k2,if_pos hbz];exact A7 _)) (h6:=⟨rfl,rfl,?_⟩);rw[hum,if_neg k1,if_neg k2,if_pos hbz];rfl
   have hqn:decide (q.file.1=w.c.a0)=false:=decide_eq_false hc7;refine DL (h:=?_);refine⟨_,_,?_,⟨k+1,by omega,rfl,GP hyk hak hqn,rfl⟩,Bk 2 0 (by simp[AY,AX,AW,BG,WN,Cq,Am,Au,AT])⟩;omega
  have e2:=CD J8 hk2 hc6;have hno:(p.opens.any fun d=>decide (d.file.1=w.c.a0))=false:=OG (by rw[←e2];exact hak);refine L6 (h:=FD (h:=?_));refine⟨_,_,?_,⟨j+1,by omega,rfl,GP hy ha (by rw[decide_eq_false hcw,hno];rfl),rfl⟩,Bk 1 0 (by simp[AY,AX,AW,BG,WN,Cq,Am,Au,AT])⟩;omega
 have e:=CD Au hj hc4;have hbz:Oe w.s.tab w.c.a0=false:=sT (by rw[←e];exact ha);refine CK (h:=Aa (h:=Dj (h:=m_ (h:=?_))));refine A3 rfl (A8 (hrem) ?_);rintro r rfl;refine JK (h:=BN (h:=?_));refine A4 rfl (fun hb8 hc8=>?_) (fun hb8 hc8=>?_)
 ·have h0:R.2=0:=hc8;refine Aa (h:=l_ (h:=Hd (h:=D7 (h:=EX (h:=Hd (h:=D7 (h:=EA (h:=?_))))))));refine AZ (r:= .v (.int .i64 (Hj w).2)) none (h4:=(by simp[AY,AX,AW,BG,WN,Cq,Am,Au,AT])) (h5:=(by rw[hum,if_neg k1,if_neg k2,if_neg (by rw[hbz];simp),Ll,if_pos h0];exact LeA.of_eq (vi h0))) (h6:=⟨rfl,rfl,?_⟩);rw[hum,if_neg k1,if_neg k2,if_neg (by rw[hbz];simp),Ll,if_pos h0];rfl
 have h0:¬R.2=0:=hc8;refine AG (EA (h:=?_));refine AZ (r:= .v (.int .i64 (Hj w).2)) none (h4:=(by simp[AY,AX,AW,BG,WN,Cq,Am,Au,AT])) (h5:=(by rw[hum,if_neg k1,if_neg k2,if_neg (by rw[hbz];simp),Ll,if_neg h0];exact A7 _)) (h6:=⟨rfl,rfl,?_⟩);rw[hum,if_neg k1,if_neg k2,if_neg (by rw[hbz];simp),Ll,if_neg h0];rfl
theorem sV(w:Wrk)(hs:SpcB w.s.spc)(htb:TabB w.s.tab)(htn:DZ w.s.tab)(h19:w.c.num=19→0<w.c.args.length):ACall prog 152 [.bp 0 0] [WN w] (fun r b t=>t=[]∧r= .v (.int .i64 (FO w).2)∧b=[WN (FO w).1]):=by
 obtain⟨F0,hF0⟩:∃F,F=Gy w.s.tab w.p.pid:=⟨_,rfl⟩;obtain⟨F2,hF2⟩:∃F,F=Jm w.s.tab w.p.pid:=⟨_,rfl⟩;obtain⟨F3,hF3⟩:∃F,F=Jn w.s.tab w.p.pid w.c.a0:=⟨_,rfl⟩;obtain⟨F4,hF4⟩:∃F,F=Jo w.s.tab w.p.pid w.c.a0:=⟨_,rfl⟩;obtain⟨F5,hF5⟩:∃F,F=GY w.s.tab w.p.pid w.c.a0:=⟨_,rfl⟩;obtain⟨F7,hF7⟩:∃F,F=Kn w.s.tab w.p.pid w.c.a0:=⟨_,rfl⟩;obtain⟨FK,hFK⟩:∃F,F=JR w.s.tab w.p.pid w.c.a0 (!decide (w.c.a1=0)):=⟨_,rfl⟩;have q0:AFn prog 207 [.agg (Am w.s.tab), .v (.int .i64 w.p.pid)] (fun r=>r=MD F0):=by rw[hF0];exact sQ _ _ htb htn
 have q2:AFn prog 208 [.agg (Am w.s.tab), .v (.int .i64 w.p.pid)] (fun r=>r=Cu F2):=by rw[hF2];exact b6 _ _ htb
 have q3:AFn prog 209 [.agg (Am w.s.tab), .v (.int .i64 w.p.pid), .v (.int .i64 w.c.a0)] (fun r=>r=Cu F3):=by rw[hF3];exact sL _ _ _ htb
 have q4:AFn prog 210 [.agg (Am w.s.tab), .v (.int .i64 w.p.pid), .v (.int .i64 w.c.a0)] (fun r=>r=Cu F4):=by rw[hF4];exact sM _ _ _ htb
 have q5:AFn prog 211 [.agg (Am w.s.tab), .v (.int .i64 w.p.pid), .v (.int .i64 w.c.a0)] (fun r=>r=Cu F5):=by rw[hF5];exact sN _ _ _ htb htn
 have q7:AFn prog 212 [.agg (Am w.s.tab), .v (.int .i64 w.p.pid), .v (.int .i64 w.c.a0)] (fun r=>r=Cu F7):=by rw[hF7];exact sO _ _ _ htb
 have qk:AFn prog 214 [.agg (Am w.s.tab), .v (.int .i64 w.p.pid), .v (.int .i64 w.c.a0), .v (.bool (!decide (w.c.a1=0)))] (fun r=>r=Cu FK):=by rw[hFK];exact sP _ _ _ _ htb
 have hot:FO w=if w.c.num=0 then CN (Of w F0.2.1) (F0.1,F0.2.2)else if w.c.num=2 then CN w F2 else if w.c.num=3 then CN w F3 else if w.c.num=4 then CN w F4 else if w.c.num=5 then CN w F5 else if w.c.num=7 then CN w F7 else if w.c.num=18 then Hj w
     else if w.c.num=19 then(if w.c.a0<0∨65535<w.c.a0∨Ko w.c=⟨#[]⟩then(w,22)else if w.c.a0=0 then(w,111)else(w,0))else if w.c.a1<0∨64<w.c.a1 then(w,22)else CN w FK:=by
  have hb:decide (w.c.a1≠0)= !decide (w.c.a1=0):=by simp
  unfold FO;rw[hb,←hF0,←hF2,←hF3,←hF4,←hF5,←hF7,←hFK]
 clear hF0 hF2 hF3 hF4 hF5 hF7 hFK;refine enter Tryz.func152 rfl rfl rfl rfl rfl 1 rfl ?_;refine Cw (h:=?_);refine B9 (fun S=>S=⟨look [(0, .bp 0 0),(3, .bp 1 0),(4, .v (.int .i64 w.p.pid)),(5, .bp 2 0)],⟨[WN w,Am w.s.tab,Cq w.c],[]⟩⟩) ?_ ?_
 ·skip
  refine BS ([(0,WN w)]) 20 (h:=AF 0 (h:=BM 1 (h:=AD 2 (h:=AD 3 (h:=AA 4 (h:=AF 5 (h:=BM 6 (h:=AD 7 (h:=AD 8 (h:=AA 9 (h:=AF 10 (h:=BM 11 (h:=AD 12 (h:=AD 13 (h:=AA 14 (h:=?_))))))))))))))));refine DS 15 16 rfl rfl ?_ ?_
  ·refine BV (by repeat constructor) ?_;refine o_ (h:=?_);refine c_ 16 rfl (BV (by repeat constructor) ?_);refine o_ (h:=?_);refine Ak 17 (h:=BE 18 (h:=?_));refine Ak 19 (h:=z_ (h:=?_));refine AM ?_;exact⟨_,rfl,Bk 3 0 (by simp[AY,AX,AW,BG,WN,Cq,Am,Au,AT])⟩
  refine BV (by repeat constructor) ?_;refine o_ (h:=?_);refine c_ 15 rfl (BV (by repeat constructor) ?_);refine o_ (h:=?_);refine Ak 17 (h:=BE 18 (h:=?_));refine Ak 19 (h:=z_ (h:=?_));refine AM ?_
  first|exact⟨_,rfl,Bk 3 0 (by simp[AY,AX,AW,BG,WN,Cq,Am,Au,AT])⟩|exact⟨_,rfl,GG [0,2,1] ZF (by decide) (.cons _ _ _ _ _ rfl rfl (.cons _ _ _ _ _ rfl rfl (.cons _ _ _ _ _ rfl rfl .nil))) (by repeat (first|exact SubK.nil|refine SubK.cons _ _ _ _ rfl (A7 _) ?_))⟩
 rintro S rfl;refine Bv (h:=Dj (h:=e_ (BH (B1 (h:=?_)))));refine A4 rfl (fun hb1 hc1=>?_) (fun hb1 hc1=>?_)
 ·have k0:w.c.num=0:=hc1;refine FF (h:=?_);refine A3 rfl (A8 (q0) ?_);rintro r rfl;refine GJ (h:=x_ (h:=NH (h:=a_ (h:=C4 (h:=Jd (h:=m_ (h:=Hd (h:=Cb (h:=Hd (h:=D7 (h:=w_ (?_))))))))))));refine m_ (h:=Gq (h:=?_));refine A3 rfl (Bm [0] rfl (.cons _ _ _ _ _ rfl (A7 _) (.cons _ _ _ _ _ rfl (A7 _) (.cons _ _ _ _ _ rfl (A7 _) .nil))) (by decide) (.cons _ _ _ _ _ rfl rfl .nil) (Nq (Of w F0.2.1) F0.1 F0.2.2) ?_);rintro r bc tc ⟨rfl,rfl,rfl⟩;refine⟨rfl,_,Lq ((CN (Of w F0.2.1) (F0.1,F0.2.2)).1),?_⟩;refine BC (h:=?_);refine AZ (r:= .v (.int .i64 (FO w).2)) none (h4:=(by simp[AY,AX,AW,BG,WN,Cq,Am,Au,AT])) (h5:=(by rw[hot,if_pos k0,Lm];exact A7 _)) (h6:=⟨rfl,rfl,?_⟩);rw[hot,if_pos k0];rfl
 have k0:¬w.c.num=0:=hc1;refine B1 (h:=?_);refine A4 rfl (fun hb2 hc2=>?_) (fun hb2 hc2=>?_)
 ·have k1:w.c.num=2:=hc2;refine Aa (h:=Gq (h:=?_));refine A3 rfl (A8 (q2) ?_);rintro r rfl;refine L5 (h:=?_);refine A3 rfl (Bm [0] rfl (.cons _ _ _ _ _ rfl (A7 _) (.cons _ _ _ _ _ rfl (A7 _) (.cons _ _ _ _ _ rfl (A7 _) .nil))) (by decide) (.cons _ _ _ _ _ rfl rfl .nil) (Nq w F2.1 F2.2) ?_);rintro r bc tc ⟨rfl,rfl,rfl⟩;refine⟨rfl,_,Lq ((CN w F2).1),?_⟩;refine BC (h:=?_);refine AZ (r:= .v (.int .i64 (FO w).2)) none (h4:=(by simp[AY,AX,AW,BG,WN,Cq,Am,Au,AT])) (h5:=(by rw[hot,if_neg k0,if_pos k1,Lm];exact A7 _)) (h6:=⟨rfl,rfl,?_⟩);rw[hot,if_neg k0,if_pos k1];rfl
 have k1:¬w.c.num=2:=hc2;refine B1 (h:=?_);refine A4 rfl (fun hb3 hc3=>?_) (fun hb3 hc3=>?_)
 ·have k2:w.c.num=3:=hc3;refine Aa (h:=Gq (h:=?_));refine A3 rfl (CB (len:=4) (sz:=1) (n:=0) (by kernel_rfl) rfl rfl rfl rfl ?_);refine l_ (h:=?_);refine A3 rfl (A8 (q3) ?_);rintro r rfl;refine L5 (h:=?_);refine A3 rfl (Bm [0] rfl (.cons _ _ _ _ _ rfl (A7 _) (.cons _ _ _ _ _ rfl (A7 _) (.cons _ _ _ _ _ rfl (A7 _) .nil))) (by decide) (.cons _ _ _ _ _ rfl rfl .nil) (Nq w F3.1 F3.2) ?_);rintro r bc tc ⟨rfl,rfl,rfl⟩;refine⟨rfl,_,Lq ((CN w F3).1),?_⟩;refine BC (h:=?_);refine AZ (r:= .v (.int .i64 (FO w).2)) none (h4:=(by simp[AY,AX,AW,BG,WN,Cq,Am,Au,AT])) (h5:=(by rw[hot,if_neg k0,if_neg k1,if_pos k2,Lm];exact A7 _)) (h6:=⟨rfl,rfl,?_⟩);rw[hot,if_neg k0,if_neg k1,if_pos k2];rfl
 have k2:¬w.c.num=3:=hc3;refine B1 (h:=?_);refine A4 rfl (fun hb4 hc4=>?_) (fun hb4 hc4=>?_)
 ·have k3:w.c.num=4:=hc4;refine Aa (h:=Gq (h:=?_));refine A3 rfl (CB (len:=4) (sz:=1) (n:=0) (by kernel_rfl) rfl rfl rfl rfl ?_);refine l_ (h:=?_);refine A3 rfl (A8 (q4) ?_);rintro r rfl;refine L5 (h:=?_);refine A3 rfl (Bm [0] rfl (.cons _ _ _ _ _ rfl (A7 _) (.cons _ _ _ _ _ rfl (A7 _) (.cons _ _ _ _ _ rfl (A7 _) .nil))) (by decide) (.cons _ _ _ _ _ rfl rfl .nil) (Nq w F4.1 F4.2) ?_);rintro r bc tc ⟨rfl,rfl,rfl⟩;refine⟨rfl,_,Lq ((CN w F4).1),?_⟩;refine BC (h:=?_);refine AZ (r:= .v (.int .i64 (FO w).2)) none (h4:=(by simp[AY,AX,AW,BG,WN,Cq,Am,Au,AT])) (h5:=(by rw[hot,if_neg k0,if_neg k1,if_neg k2,if_pos k3,Lm];exact A7 _)) (h6:=⟨rfl,rfl,?_⟩);rw[hot,if_neg k0,if_neg k1,if_neg k2,if_pos k3];rfl
 have k3:¬w.c.num=4:=hc4;refine B1 (h:=?_);refine A4 rfl (fun hb5 hc5=>?_) (fun hb5 hc5=>?_)
 ·have k4:w.c.num=5:=hc5;refine Aa (h:=Gq (h:=?_));refine A3 rfl (CB (len:=4) (sz:=1) (n:=0) (by kernel_rfl) rfl rfl rfl rfl ?_);refine l_ (h:=?_);refine A3 rfl (A8 (q5) ?_);rintro r rfl;refine L5 (h:=?_);refine A3 rfl (Bm [0] rfl (.cons _ _ _ _ _ rfl (A7 _) (.cons _ _ _ _ _ rfl (A7 _) (.cons _ _ _ _ _ rfl (A7 _) .nil))) (by decide) (.cons _ _ _ _ _ rfl rfl .nil) (Nq w F5.1 F5.2) ?_);rintro r bc tc ⟨rfl,rfl,rfl⟩;refine⟨rfl,_,Lq ((CN w F5).1),?_⟩;refine BC (h:=?_);refine AZ (r:= .v (.int .i64 (FO w).2)) none (h4:=(by simp[AY,AX,AW,BG,WN,Cq,Am,Au,AT])) (h5:=(by rw[hot,if_neg k0,if_neg k1,if_neg k2,if_neg k3,if_pos k4,Lm];exact A7 _)) (h6:=⟨rfl,rfl,?_⟩);rw[hot,if_neg k0,if_neg k1,if_neg k2,if_neg k3,if_pos k4];rfl
 have k4:¬w.c.num=5:=hc5;refine B1 (h:=?_);refine A4 rfl (fun hb6 hc6=>?_) (fun hb6 hc6=>?_)
 ·have k5:w.c.num=7:=hc6;refine Aa (h:=Gq (h:=?_));refine A3 rfl (CB (len:=4) (sz:=1) (n:=0) (by kernel_rfl) rfl rfl rfl rfl ?_);refine l_ (h:=?_);refine A3 rfl (A8 (q7) ?_);rintro r rfl;refine L5 (h:=?_);refine A3 rfl (Bm [0] rfl (.cons _ _ _ _ _ rfl (A7 _) (.cons _ _ _ _ _ rfl (A7 _) (.cons _ _ _ _ _ rfl (A7 _) .nil))) (by decide) (.cons _ _ _ _ _ rfl rfl .nil) (Nq w F7.1 F7.2) ?_);rintro r bc tc ⟨rfl,rfl,rfl⟩;refine⟨rfl,_,Lq ((CN w F7).1),?_⟩;refine BC (h:=?_);refine AZ (r:= .v (.int .i64 (FO w).2)) none (h4:=(by simp[AY,AX,AW,BG,WN,Cq,Am,Au,AT])) (h5:=(by rw[hot,if_neg k0,if_neg k1,if_neg k2,if_neg k3,if_neg k4,if_pos k5,Lm];exact A7 _)) (h6:=⟨rfl,rfl,?_⟩);rw[hot,if_neg k0,if_neg k1,if_neg k2,if_neg k3,if_neg k4,if_pos k5];rfl
 have k5:¬w.c.num=7:=hc6;refine B1 (h:=?_);refine A4 rfl (fun hb7 hc7=>?_) (fun hb7 hc7=>?_)
 ·have k6:w.c.num=18:=hc7;refine Aa (h:=?_);refine A3 rfl (Bm [0] rfl (.cons _ _ _ _ _ rfl (A7 _) .nil) (by decide) (.cons _ _ _ _ _ rfl rfl .nil) (sU w hs htb) ?_);rintro r bc tc ⟨rfl,rfl,rfl⟩;refine⟨rfl,_,Lq ((Hj w).1),?_⟩;refine BC (h:=?_);refine AZ (r:= .v (.int .i64 (FO w).2)) none (h4:=(by simp[AY,AX,AW,BG,WN,Cq,Am,Au,AT])) (h5:=(by rw[hot,if_neg k0,if_neg k1,if_neg k2,if_neg k3,if_neg k4,if_neg k5,if_pos k6];exact A7 _)) (h6:=⟨rfl,rfl,?_⟩);rw[hot,if_neg k0,if_neg k1,if_neg k2,if_neg k3,if_neg k4,if_neg k5,if_pos k6];rfl
 have k6:¬w.c.num=18:=hc7;refine B1 (h:=?_);refine A4 rfl (fun hb8 hc8=>?_) (fun hb8 hc8=>?_)
 ·have k7:w.c.num=19:=hc8;obtain⟨a0,ha0⟩:∃a,w.c.args[0]?=some a:=⟨_,B3 (h19 hc8)⟩;have harg:(w.c.args.map Dn)[0]?=some (Dn a0):=by rw[List.getElem?_map,ha0];rfl
  have hag:Ko w.c=a0:=by unfold Ko;rw[List.headD_eq_head?_getD,List.head?_eq_getElem?,ha0];rfl
  refine q_ (?_);refine B9 (fun S=>∃b:Bool,(b=true↔(w.c.a0<0∨65535<w.c.a0∨a0=⟨#[]⟩))∧S=⟨look [(0, .bp 0 0),(3, .bp 1 0),(4, .v (.int .i64 w.p.pid)),(5, .bp 2 0),(128, .v (.bool b))],⟨[WN w,Am w.s.tab,Cq w.c],[]⟩⟩) ?_ ?_
  ·skip
   refine Av (?_);refine A3 rfl (CB (len:=4) (sz:=1) (n:=0) (by kernel_rfl) rfl rfl rfl rfl ?_);refine l_ (h:=Di (h:=?_));refine AJ false rfl rfl (fun hb9 hc9=>?_) (fun hb9 hc9=>?_)
   ·refine Ch (h:=BT (h:=Fi (h:=D6 (h:=?_))));refine⟨_,⟨_,?_,rfl⟩,Bk 3 0 (by simp[AY,AX,AW,BG,WN,Cq,Am,Au,AT])⟩
    (simp[*];done)
   refine As (CB (len:=4) (sz:=1) (n:=0) (by kernel_rfl) rfl rfl rfl rfl ?_);refine l_ (h:=E6 (h:=Bh (h:=?_)));refine AJ false rfl rfl (fun hb10 hc10=>?_) (fun hb10 hc10=>?_)
   ·refine BT (h:=Fi (h:=D6 (h:=?_)));refine⟨_,⟨_,?_,rfl⟩,Bk 3 0 (by simp[AY,AX,AW,BG,WN,Cq,Am,Au,AT])⟩
    (simp[*];done)
   refine m_ (h:=Dj (h:=?_));refine As (DA (n:=0) rfl rfl rfl harg ?_);refine l_ (h:=EH (h:=FX (h:=?_)));refine⟨_,⟨_,?_,rfl⟩,Bk 3 0 (by simp[AY,AX,AW,BG,WN,Cq,Am,Au,AT])⟩
   (simp[*];done)
  rintro S ⟨b20,hb20,rfl⟩;refine A4 rfl (fun hb11 hc11=>?_) (fun hb11 hc11=>?_)
  ·refine BA (h:=Cv (h:=?_));refine AZ (r:= .v (.int .i64 (FO w).2)) none (h4:=(by simp[AY,AX,AW,BG,WN,Cq,Am,Au,AT])) (h5:=(by rw[hot,if_neg k0,if_neg k1,if_neg k2,if_neg k3,if_neg k4,if_neg k5,if_neg k6,if_pos k7,if_pos (by rw[hag];exact hb20.1 ‹_›)];exact A7 _)) (h6:=⟨rfl,rfl,?_⟩);rw[hot,if_neg k0,if_neg k1,if_neg k2,if_neg k3,if_neg k4,if_neg k5,if_neg k6,if_pos k7,if_pos (by rw[hag];exact hb20.1 ‹_›)];rfl
  refine FY (h:=w_ (?_));refine A3 rfl (CB (len:=4) (sz:=1) (n:=0) (by kernel_rfl) rfl rfl rfl rfl ?_);refine l_ (h:=BN (h:=?_));refine A4 rfl (fun hb12 hc12=>?_) (fun hb12 hc12=>?_)
  ·have k9:w.c.a0=0:=hc12;refine BA (h:=Cv (h:=?_));refine AZ (r:= .v (.int .i64 (FO w).2)) none (h4:=(by simp[AY,AX,AW,BG,WN,Cq,Am,Au,AT])) (h5:=(by rw[hot,if_neg k0,if_neg k1,if_neg k2,if_neg k3,if_neg k4,if_neg k5,if_neg k6,if_pos k7,if_neg (by rw[hag];exact fun q=>absurd (hb20.2 q) (by simp[*])),if_pos k9];exact A7 _)) (h6:=⟨rfl,rfl,?_⟩);rw[hot,if_neg k0,if_neg k1,if_neg k2,if_neg k3,if_neg k4,if_neg k5,if_neg k6,if_pos k7,if_neg (by rw[hag];exact fun q=>absurd (hb20.2 q) (by simp[*])),if_pos k9];rfl
  have k9:¬w.c.a0=0:=hc12;refine AG (Bl (h:=?_));refine AZ (r:= .v (.int .i64 (FO w).2)) none (h4:=(by simp[AY,AX,AW,BG,WN,Cq,Am,Au,AT])) (h5:=(by rw[hot,if_neg k0,if_neg k1,if_neg k2,if_neg k3,if_neg k4,if_neg k5,if_neg k6,if_pos k7,if_neg (by rw[hag];exact fun q=>absurd (hb20.2 q) (by simp[*])),if_neg k9];exact A7 _)) (h6:=⟨rfl,rfl,?_⟩);rw[hot,if_neg k0,if_neg k1,if_neg k2,if_neg k3,if_neg k4,if_neg k5,if_neg k6,if_pos k7,if_neg (by rw[hag];exact fun q=>absurd (hb20.2 q) (by simp[*])),if_neg k9];rfl
 have k7:¬w.c.num=19:=hc8;refine BF (BB (t_ (q_ (?_))));refine B9 (fun S=>∃b:Bool,(b=true↔(w.c.a1<0∨64<w.c.a1))∧S=⟨look [(0, .bp 0 0),(3, .bp 1 0),(4, .v (.int .i64 w.p.pid)),(5, .bp 2 0),(139, .v (.bool b))],⟨[WN w,Am w.s.tab,Cq w.c],[]⟩⟩) ?_ ?_
 ·skip
  refine Av (?_);refine A3 rfl (CB (len:=4) (sz:=1) (n:=1) (by kernel_rfl) rfl rfl rfl rfl ?_);refine l_ (h:=Di (h:=?_));refine AJ false rfl rfl (fun hb13 hc13=>?_) (fun hb13 hc13=>?_)
  ·refine JN (h:=?_);refine⟨_,⟨_,?_,rfl⟩,Bk 3 0 (by simp[AY,AX,AW,BG,WN,Cq,Am,Au,AT])⟩
   (simp[*];done)
  refine As (CB (len:=4) (sz:=1) (n:=1) (by kernel_rfl) rfl rfl rfl rfl ?_);refine l_ (h:=E6 (h:=FX (h:=?_)));refine⟨_,⟨_,?_,rfl⟩,Bk 3 0 (by simp[AY,AX,AW,BG,WN,Cq,Am,Au,AT])⟩
  (simp[*];done)
 rintro S ⟨b25,hb25,rfl⟩;refine A4 rfl (fun hb14 hc14=>?_) (fun hb14 hc14=>?_)
 ·refine BA (h:=?_);refine AZ (r:= .v (.int .i64 (FO w).2)) none (h4:=(by simp[AY,AX,AW,BG,WN,Cq,Am,Au,AT])) (h5:=(by rw[hot,if_neg k0,if_neg k1,if_neg k2,if_neg k3,if_neg k4,if_neg k5,if_neg k6,if_neg k7,if_pos (hb25.1 ‹_›)];exact A7 _)) (h6:=⟨rfl,rfl,?_⟩);rw[hot,if_neg k0,if_neg k1,if_neg k2,if_neg k3,if_neg k4,if_neg k5,if_neg k6,if_neg k7,if_pos (hb25.1 ‹_›)];rfl
 refine AG (Aa (h:=Gq (h:=?_)));refine A3 rfl (CB (len:=4) (sz:=1) (n:=0) (by kernel_rfl) rfl rfl rfl rfl ?_);refine l_ (h:=?_);refine A3 rfl (CB (len:=4) (sz:=1) (n:=1) (by kernel_rfl) rfl rfl rfl rfl ?_);refine l_ (h:=GH (h:=?_));refine A3 rfl (A8 (qk) ?_);rintro r rfl;refine L5 (h:=?_);refine A3 rfl (Bm [0] rfl (.cons _ _ _ _ _ rfl (A7 _) (.cons _ _ _ _ _ rfl (A7 _) (.cons _ _ _ _ _ rfl (A7 _) .nil))) (by decide) (.cons _ _ _ _ _ rfl rfl .nil) (Nq w FK.1 FK.2) ?_);rintro r bc tc ⟨rfl,rfl,rfl⟩;refine⟨rfl,_,Lq ((CN w FK).1),?_⟩;refine BJ (h:=?_);refine AZ (r:= .v (.int .i64 (FO w).2)) none (h4:=(by simp[AY,AX,AW,BG,WN,Cq,Am,Au,AT])) (h5:=(by rw[hot,if_neg k0,if_neg k1,if_neg k2,if_neg k3,if_neg k4,if_neg k5,if_neg k6,if_neg k7,if_neg (fun q=>absurd (hb25.2 q) (by simp[*])),Lm];exact A7 _)) (h6:=⟨rfl,rfl,?_⟩);rw[hot,if_neg k0,if_neg k1,if_neg k2,if_neg k3,if_neg k4,if_neg k5,if_neg k6,if_neg k7,if_neg (fun q=>absurd (hb25.2 q) (by simp[*]))];rfl
theorem sW(w:Wrk)(e:Int)(hp:w.c.paths=[]):ACall prog 96 [.bp 0 0, .v (.int .i64 e)] [WN w] (fun r b t=>t=[]∧r= .v (.int .i64 e)∧b=[WN w]):=by
 have hpl:w.c.paths.length=0:=by rw[hp];rfl
 refine enter Tryz.func96 rfl rfl rfl rfl rfl 1 rfl ?_;refine Eh (h:=k_ (h:=Ab (h:=?_)));refine A3 rfl (A8 (Ym w.c) ?_);rintro r rfl;refine B7 (h:=CW (h:=?_));refine BR (fun m S=>S=⟨look [(0, .bp 0 0),(1, .v (.int .i64 e)),(5, .sl 1 ((DF w.c).map CQ) none),(6, .v (.int .i64 0))],⟨[WN w],[]⟩⟩) (0) (Bk 1 0 (by simp[AY,AX,AW,BG,WN,Cq,Am,Au,AT])) (rfl) ?_;rintro m S rfl;refine Du (h:=Dj (h:=Ht (h:=?_)));refine A4 rfl (fun hb1 hc1=>?_) (fun hb1 hc1=>?_)
 ·exfalso;have h3:=hc1;rw[List.length_map,hpl]at h3;omega
 refine CK (h:=EA (h:=?_));refine AZ (r:= .v (.int .i64 e)) none (h4:=(by simp[AY,AX,AW,BG,WN,Cq,Am,Au,AT])) (h5:=(A7 _)) (h6:=⟨rfl,rfl,rfl⟩)
theorem sX(w:Wrk)(hs:SpcB w.s.spc)(htb:TabB w.s.tab)(htn:DZ w.s.tab)(h19:w.c.num=19→0<w.c.args.length)(hq:w.c.num≠1∧w.c.num≠6∧w.c.num≠8∧w.c.num≠9∧w.c.num≠10∧w.c.num≠11∧w.c.num≠12∧w.c.num≠13∧w.c.num≠14∧w.c.num≠15∧w.c.num≠16∧w.c.num≠17∧w.c.num≠21):ACall prog 98 [.bp 0 0] [WN w] (fun r b t=>t=[]∧r= .v (.int .i64 (BW w).2)∧b=[WN (BW w).1]):=by
 have hact:BW w=FO w:=by
  unfold BW;rw[if_neg (by omega),if_neg (by omega),if_neg (by omega),if_neg (by omega),if_neg (by omega),if_neg (by omega),if_neg (by omega)]
 refine enter Tryz.func98 rfl rfl rfl rfl rfl 1 rfl ?_;refine w_ (Bw (h:=Dj (h:=e_ (BH (B1 (h:=?_))))));refine A4 rfl (fun hb1 hc1=>?_) (fun hb1 hc1=>?_)
 ·exact E7
 refine B1 (h:=?_);refine A4 rfl (fun hb2 hc2=>?_) (fun hb2 hc2=>?_)
 ·exact E7
 refine q_ (B1 (h:=?_));refine A4 rfl (fun hb3 hc3=>?_) (fun hb3 hc3=>?_)
 ·exact E7
 refine Av (Ed (h:=?_));refine A4 rfl (fun hb4 hc4=>?_) (fun hb4 hc4=>?_)
 ·exact E7
 refine B1 (h:=?_);refine A4 rfl (fun hb5 hc5=>?_) (fun hb5 hc5=>?_)
 ·exact E7
 refine q_ (B1 (h:=?_));refine A4 rfl (fun hb6 hc6=>?_) (fun hb6 hc6=>?_)
 ·exact E7
 refine Av (Ed (h:=?_));refine A4 rfl (fun hb7 hc7=>?_) (fun hb7 hc7=>?_)
 ·exact E7
 refine q_ (B1 (h:=?_));refine A4 rfl (fun hb8 hc8=>?_) (fun hb8 hc8=>?_)
 ·exact E7
 refine B1 (h:=?_);refine A4 rfl (fun hb9 hc9=>?_) (fun hb9 hc9=>?_)
 ·exact E7
 refine B1 (h:=?_);refine A4 rfl (fun hb10 hc10=>?_) (fun hb10 hc10=>?_)
 ·exact E7
 refine Av (Ed (h:=?_));refine A4 rfl (fun hb11 hc11=>?_) (fun hb11 hc11=>?_)
 ·exact E7
 refine q_ (B1 (h:=?_));refine A4 rfl (fun hb12 hc12=>?_) (fun hb12 hc12=>?_)
 ·exact E7
 refine Av (Ed (h:=?_));refine A4 rfl (fun hb13 hc13=>?_) (fun hb13 hc13=>?_)
 ·exact E7
 refine BF (BB (t_ (Aa (h:=?_))));refine A3 rfl (Bm [0] rfl (.cons _ _ _ _ _ rfl (A7 _) .nil) (by decide) (.cons _ _ _ _ _ rfl rfl .nil) (sV w hs htb htn h19) ?_);rintro r bc tc ⟨rfl,rfl,rfl⟩;refine⟨rfl,_,Lq ((FO w).1),?_⟩;refine BJ (h:=?_);refine AZ (r:= .v (.int .i64 (BW w).2)) none (h4:=(by simp[AY,AX,AW,BG,WN,Cq,Am,Au,AT])) (h5:=(by rw[hact];exact A7 _)) (h6:=⟨rfl,rfl,?_⟩);rw[hact];rfl
end
theorem sY(w:Wrk):(G6 w).1.r.items.length=w.r.items.length:=by
 unfold G6
 repeat' split
 all_goals first|rfl|exact(Ug _ _ _).trans (Oj _ _)
theorem sZ(w:Wrk)(R:FH):(KK w R).1.r.items.length=w.r.items.length:=by
 unfold KK;split
 ·rfl
 exact(ZT _ _ _).trans (Oj _ _)
theorem t6(w:Wrk):(Ey w).1.r.items.length=w.r.items.length:=by
 unfold Ey
 repeat' split
 all_goals first|rfl|exact sZ _ _
theorem t7(w:Wrk):(Ga w).1.r.items.length=w.r.items.length:=by
 unfold Ga Li
 repeat' split
 all_goals first|rfl|exact Oj _ _
theorem t8(w:Wrk)(R:Spc×Int):(Lj w R).1.r.items.length=w.r.items.length:=by
 unfold Lj;split<;>rfl
theorem t9(w:Wrk):(Dw w).1.r.items.length=w.r.items.length:=by
 unfold Dw
 repeat' split
 all_goals first|rfl|exact Rx _ _|exact t8 _ _
theorem tA(w:Wrk):(Gb w).1.r.items.length=w.r.items.length:=by
 unfold Gb
 repeat' split
 all_goals first|rfl|exact Uh _ _ _
theorem tB(w:Wrk)(R:Spc×Int):(Ll w R).1.r.items.length=w.r.items.length:=by
 unfold Ll;split<;>rfl
theorem tC(w:Wrk):(Hj w).1.r.items.length=w.r.items.length:=by
 unfold Hj
 repeat' split
 all_goals first|rfl|exact tB _ _
theorem tD(w:Wrk):(FO w).1.r.items.length=w.r.items.length:=by
 unfold FO
 repeat' split
 all_goals first|rfl|exact tC _|exact Rx _ _|exact Rx (Of w _) _
theorem b8(w:Wrk):(BW w).1.r.items.length=w.r.items.length:=by
 unfold BW
 repeat' split
 all_goals first|exact oR _|exact sY _|exact t6 _|exact oT _|exact t7 _|exact t9 _|exact tA _|exact tD _
theorem bA{n:Int}(h:0<(C9 n).2.2.1):(n=1∨n=6∨n=8∨n=9∨n=10∨n=11∨n=12∨n=13∨n=14∨n=15∨n=16∨n=17∨n=21)∧((n=8∨n=13)→(C9 n).2.2.1=2)∧(¬(n=8∨n=13)→(C9 n).2.2.1=1):=by
 unfold C9 at h ⊢;split at h
 ·exact absurd h (by decide)
 rename_i c;rw[if_neg c];obtain⟨m,rfl⟩:=Int.eq_ofNat_of_zero_le (show 0≤n by omega);have hm:m<22:=by omega
 have k1:∀m,m<22→0<((Fp[m]?).getD (⟨#[]⟩,0,0,0,0)).2.2.1→m∈[1,6,8,9,10,11,12,13,14,15,16,17,21]:=by decide
 have k2:∀m,m<22→m∈[8,13]→((Fp[m]?).getD (⟨#[]⟩,0,0,0,0)).2.2.1=2:=by decide
 have k3:∀m,m<22→0<((Fp[m]?).getD (⟨#[]⟩,0,0,0,0)).2.2.1→m∉[8,13]→((Fp[m]?).getD (⟨#[]⟩,0,0,0,0)).2.2.1=1:=by decide
 have k1:=k1 m hm h;have k2:=k2 m hm;have k3:=k3 m hm h;simp only[List.mem_cons,List.not_mem_nil,or_false]at k1 k2 k3;exact⟨by omega,fun q=>k2 (by omega),fun q=>k3 (by omega)⟩
theorem bB{n:Int}(h:(C9 n).2.2.1=0):n≠1∧n≠6∧n≠8∧n≠9∧n≠10∧n≠11∧n≠12∧n≠13∧n≠14∧n≠15∧n≠16∧n≠17∧n≠21:=by
 refine⟨?_,?_,?_,?_,?_,?_,?_,?_,?_,?_,?_,?_,?_⟩<;>(rintro rfl;revert h;decide)
theorem tE(n:Int):0<(C9 n).2.2.1∨(C9 n).2.2.1=0:=by
 unfold C9;split
 ·exact .inr rfl
 rename_i c;obtain⟨m,rfl⟩:=Int.eq_ofNat_of_zero_le (show 0≤n by omega);have hm:m<22:=by omega
 have key:∀m,m<22→0<((Fp[m]?).getD (⟨#[]⟩,0,0,0,0)).2.2.1∨((Fp[m]?).getD (⟨#[]⟩,0,0,0,0)).2.2.1=0:=by decide
 exact key m hm
theorem tG{c:Cal}(h:0<(C9 c.num).2.2.1):((DF c).length:Int)=(C9 c.num).2.2.1:=by
 obtain⟨k1,k2,k3⟩:=bA h;by_cases c2:c.num=8∨c.num=13
 ·rw[k2 c2];rcases c2 with q|q<;>simp[DF,q]
 rw[k3 c2];rcases k1 with q|q|q|q|q|q|q|q|q|q|q|q|q<;>first|(exfalso;omega)|simp[DF,q]
theorem tH{c0 c1 c2 c3 c4 c5:List AV}(w:Wrk):Back [c0,c1,c2,c3,c4,c5] [5] [WN w] [c0,c1,c2,c3,c4,WN w]:=by
 have:=Pw (bx:=[c0,c1,c2,c3,c4,c5]) (is:=[5]) (bc:=[WN w]) (by simp) (by simp) (by simp)
 have hb:Dx [c0,c1,c2,c3,c4,c5] (Ep [5] [c0,c1,c2,c3,c4,c5].length) [5] [WN w]=[c0,c1,c2,c3,c4,WN w]:=by
  unfold Dx;unfold Dx;rfl
 rw[hb]at this;exact this
section
theorem tJ(w:Wrk)(cap:Nat)(hv:SpcV w.s.spc)(hm:w.s.spc.mounts.length≤1000)(htb:TabB w.s.tab)(hnm:∀f∈w.found,f.name.size≤12)(h1:1≤w.found.length)(h1i:1≤w.r.items.length)(h2:w.c.num=8∨w.c.num=13→2≤w.found.length∧2≤w.r.items.length)(hin:w.c.num=1∨w.c.num=6∨w.c.num=8∨w.c.num=9∨w.c.num=10∨w.c.num=11∨w.c.num=12∨w.c.num=13∨w.c.num=14∨w.c.num=15∨w.c.num=16∨w.c.num=17∨w.c.num=21)(h9:w.c.num=9→0<w.c.args.length)(hsz:∀p∈w.c.args,p.size≤1000):ACall prog 98 [.bp 0 0] [WA w cap,IB w cap] (fun r b t=>t=[]∧r= .v (.int .i64 (BW w).2)∧b=[WA (BW w).1 cap,IB (BW w).1 cap]):=by
 have hps:w.s.tab.ps.length≤1000:=by have:=htb.few;omega
 refine enter Tryz.func98 rfl rfl rfl rfl rfl 2 rfl ?_;refine w_ (Bw (h:=Dj (h:=e_ (BH (B1 (h:=?_))))));refine A4 rfl (fun hb1 hc1=>?_) (fun hb1 hc1=>?_)
 ·obtain⟨f,hf⟩:∃f,w.found[0]?=some f:=⟨_,B3 (by omega)⟩;obtain⟨x,hx⟩:∃x,w.r.items[0]?=some x:=⟨_,B3 (by omega)⟩;have hact:BW w=Cn w:=by simp[BW,hc1]
  refine Aa (h:=?_);refine A3 rfl (Bm [0,1] rfl (.cons _ _ _ _ _ rfl (A7 _) .nil) (by decide) (.cons _ _ _ _ _ rfl rfl (.cons _ _ _ _ _ rfl (Df B4 _ _ _) .nil)) (oH w cap f x hv hm htb hf hx (by have:=hnm f (Ag hf);omega)) ?_);rintro r bc tc ⟨rfl,rfl,rfl⟩;refine⟨rfl,_,E4 rfl ((Cn w).1) cap,?_⟩;refine BC (h:=?_);refine BU (r:= .v (.int .i64 (BW w).2)) none (h5:=(by rw[hact];exact A7 _)) (h6:=⟨rfl,rfl,?_⟩);rw[hact];rfl
 refine B1 (h:=?_);refine A4 rfl (fun hb2 hc2=>?_) (fun hb2 hc2=>?_)
 ·obtain⟨f,hf⟩:∃f,w.found[0]?=some f:=⟨_,B3 (by omega)⟩;obtain⟨x,hx⟩:∃x,w.r.items[0]?=some x:=⟨_,B3 (by omega)⟩;obtain⟨g,hg⟩:∃f,w.found[1]?=some f:=⟨_,B3 (h2 (by omega)).1⟩;obtain⟨x1,hx1⟩:∃x,w.r.items[1]?=some x:=⟨_,B3 (h2 (by omega)).2⟩;have hact:BW w=G6 w:=by simp[BW,hc2]
  refine Aa (h:=?_);refine A3 rfl (Bm [0,1] rfl (.cons _ _ _ _ _ rfl (A7 _) .nil) (by decide) (.cons _ _ _ _ _ rfl rfl (.cons _ _ _ _ _ rfl (Df B4 _ _ _) .nil)) (sF w cap f g x1 hv hm hf hg hx1 (by have:=hnm g (Ag hg);omega)) ?_);rintro r bc tc ⟨rfl,rfl,rfl⟩;refine⟨rfl,_,E4 rfl ((G6 w).1) cap,?_⟩;refine BC (h:=?_);refine BU (r:= .v (.int .i64 (BW w).2)) none (h5:=(by rw[hact];exact A7 _)) (h6:=⟨rfl,rfl,?_⟩);rw[hact];rfl
 refine q_ (B1 (h:=?_));refine A4 rfl (fun hb3 hc3=>?_) (fun hb3 hc3=>?_)
 ·obtain⟨f,hf⟩:∃f,w.found[0]?=some f:=⟨_,B3 (by omega)⟩;obtain⟨x,hx⟩:∃x,w.r.items[0]?=some x:=⟨_,B3 (by omega)⟩;have hact:BW w=Ey w:=by simp[BW,hc3]
  refine AG (Fr (h:=Aa (h:=?_)));refine A3 rfl (Bm [0,1] rfl (.cons _ _ _ _ _ rfl (A7 _) .nil) (by decide) (.cons _ _ _ _ _ rfl rfl (.cons _ _ _ _ _ rfl (Df B4 _ _ _) .nil)) (aX w cap f x hv hm hps hf hx (by have:=hnm f (Ag hf);omega)) ?_);rintro r bc tc ⟨rfl,rfl,rfl⟩;refine⟨rfl,_,E4 rfl ((Ey w).1) cap,?_⟩;refine BC (h:=?_);refine BU (r:= .v (.int .i64 (BW w).2)) none (h5:=(by rw[hact];exact A7 _)) (h6:=⟨rfl,rfl,?_⟩);rw[hact];rfl
 refine Av (Ed (h:=?_));refine A4 rfl (fun hb4 hc4=>?_) (fun hb4 hc4=>?_)
 ·obtain⟨f,hf⟩:∃f,w.found[0]?=some f:=⟨_,B3 (by omega)⟩;obtain⟨x,hx⟩:∃x,w.r.items[0]?=some x:=⟨_,B3 (by omega)⟩;have hact:BW w=Ey w:=by simp[BW,hc4]
  refine Aa (h:=?_);refine A3 rfl (Bm [0,1] rfl (.cons _ _ _ _ _ rfl (A7 _) .nil) (by decide) (.cons _ _ _ _ _ rfl rfl (.cons _ _ _ _ _ rfl (Df B4 _ _ _) .nil)) (aX w cap f x hv hm hps hf hx (by have:=hnm f (Ag hf);omega)) ?_);rintro r bc tc ⟨rfl,rfl,rfl⟩;refine⟨rfl,_,E4 rfl ((Ey w).1) cap,?_⟩;refine BC (h:=?_);refine BU (r:= .v (.int .i64 (BW w).2)) none (h5:=(by rw[hact];exact A7 _)) (h6:=⟨rfl,rfl,?_⟩);rw[hact];rfl
 refine B1 (h:=?_);refine A4 rfl (fun hb5 hc5=>?_) (fun hb5 hc5=>?_)
 ·obtain⟨f,hf⟩:∃f,w.found[0]?=some f:=⟨_,B3 (by omega)⟩;obtain⟨x,hx⟩:∃x,w.r.items[0]?=some x:=⟨_,B3 (by omega)⟩;obtain⟨g,hg⟩:∃f,w.found[1]?=some f:=⟨_,B3 (h2 (by omega)).1⟩;obtain⟨x1,hx1⟩:∃x,w.r.items[1]?=some x:=⟨_,B3 (h2 (by omega)).2⟩;have hact:BW w=G7 w:=by simp[BW,hc5]
  refine Aa (h:=?_);refine A3 rfl (Bm [0,1] rfl (.cons _ _ _ _ _ rfl (A7 _) .nil) (by decide) (.cons _ _ _ _ _ rfl rfl (.cons _ _ _ _ _ rfl (Df B4 _ _ _) .nil)) (oJ w cap f g x x1 hv hm hps hf hg hx hx1 (by have:=hnm f (Ag hf);omega) (by have:=hnm g (Ag hg);omega)) ?_);rintro r bc tc ⟨rfl,rfl,rfl⟩;refine⟨rfl,_,E4 rfl ((G7 w).1) cap,?_⟩;refine BC (h:=?_);refine BU (r:= .v (.int .i64 (BW w).2)) none (h5:=(by rw[hact];exact A7 _)) (h6:=⟨rfl,rfl,?_⟩);rw[hact];rfl
 refine q_ (B1 (h:=?_));refine A4 rfl (fun hb6 hc6=>?_) (fun hb6 hc6=>?_)
 ·obtain⟨f,hf⟩:∃f,w.found[0]?=some f:=⟨_,B3 (by omega)⟩;obtain⟨x,hx⟩:∃x,w.r.items[0]?=some x:=⟨_,B3 (by omega)⟩;have hact:BW w=Ga w:=by simp[BW,hc6]
  refine AG (Fr (h:=Aa (h:=?_)));refine A3 rfl (Bm [0,1] rfl (.cons _ _ _ _ _ rfl (A7 _) .nil) (by decide) (.cons _ _ _ _ _ rfl rfl (.cons _ _ _ _ _ rfl (Df B4 _ _ _) .nil)) (aY w cap f hv hm hf) ?_);rintro r bc tc ⟨rfl,rfl,rfl⟩;refine⟨rfl,_,E4 rfl ((Ga w).1) cap,?_⟩;refine BC (h:=?_);refine BU (r:= .v (.int .i64 (BW w).2)) none (h5:=(by rw[hact];exact A7 _)) (h6:=⟨rfl,rfl,?_⟩);rw[hact];rfl
 refine Av (Ed (h:=?_));refine A4 rfl (fun hb7 hc7=>?_) (fun hb7 hc7=>?_)
 ·obtain⟨f,hf⟩:∃f,w.found[0]?=some f:=⟨_,B3 (by omega)⟩;obtain⟨x,hx⟩:∃x,w.r.items[0]?=some x:=⟨_,B3 (by omega)⟩;have hact:BW w=Ga w:=by simp[BW,hc7]
  refine Aa (h:=?_);refine A3 rfl (Bm [0,1] rfl (.cons _ _ _ _ _ rfl (A7 _) .nil) (by decide) (.cons _ _ _ _ _ rfl rfl (.cons _ _ _ _ _ rfl (Df B4 _ _ _) .nil)) (aY w cap f hv hm hf) ?_);rintro r bc tc ⟨rfl,rfl,rfl⟩;refine⟨rfl,_,E4 rfl ((Ga w).1) cap,?_⟩;refine BC (h:=?_);refine BU (r:= .v (.int .i64 (BW w).2)) none (h5:=(by rw[hact];exact A7 _)) (h6:=⟨rfl,rfl,?_⟩);rw[hact];rfl
 refine q_ (B1 (h:=?_));refine A4 rfl (fun hb8 hc8=>?_) (fun hb8 hc8=>?_)
 ·obtain⟨f,hf⟩:∃f,w.found[0]?=some f:=⟨_,B3 (by omega)⟩;obtain⟨x,hx⟩:∃x,w.r.items[0]?=some x:=⟨_,B3 (by omega)⟩;have hact:BW w=Dw w:=by simp[BW,hc8]
  refine AG (Fr (h:=Aa (h:=?_)));refine A3 rfl (Bm [0,1] rfl (.cons _ _ _ _ _ rfl (A7 _) .nil) (by decide) (.cons _ _ _ _ _ rfl rfl (.cons _ _ _ _ _ rfl (Df B4 _ _ _) .nil)) (SB w cap f hv hm htb hf) ?_);rintro r bc tc ⟨rfl,rfl,rfl⟩;refine⟨rfl,_,E4 rfl ((Dw w).1) cap,?_⟩;refine BC (h:=?_);refine BU (r:= .v (.int .i64 (BW w).2)) none (h5:=(by rw[hact];exact A7 _)) (h6:=⟨rfl,rfl,?_⟩);rw[hact];rfl
 refine B1 (h:=?_);refine A4 rfl (fun hb9 hc9=>?_) (fun hb9 hc9=>?_)
 ·obtain⟨f,hf⟩:∃f,w.found[0]?=some f:=⟨_,B3 (by omega)⟩;obtain⟨x,hx⟩:∃x,w.r.items[0]?=some x:=⟨_,B3 (by omega)⟩;have hact:BW w=Dw w:=by simp[BW,hc9]
  refine AG (Fr (h:=Aa (h:=?_)));refine A3 rfl (Bm [0,1] rfl (.cons _ _ _ _ _ rfl (A7 _) .nil) (by decide) (.cons _ _ _ _ _ rfl rfl (.cons _ _ _ _ _ rfl (Df B4 _ _ _) .nil)) (SB w cap f hv hm htb hf) ?_);rintro r bc tc ⟨rfl,rfl,rfl⟩;refine⟨rfl,_,E4 rfl ((Dw w).1) cap,?_⟩;refine BC (h:=?_);refine BU (r:= .v (.int .i64 (BW w).2)) none (h5:=(by rw[hact];exact A7 _)) (h6:=⟨rfl,rfl,?_⟩);rw[hact];rfl
 refine B1 (h:=?_);refine A4 rfl (fun hb10 hc10=>?_) (fun hb10 hc10=>?_)
 ·obtain⟨f,hf⟩:∃f,w.found[0]?=some f:=⟨_,B3 (by omega)⟩;obtain⟨x,hx⟩:∃x,w.r.items[0]?=some x:=⟨_,B3 (by omega)⟩;have hact:BW w=Dw w:=by simp[BW,hc10]
  refine AG (Fr (h:=Aa (h:=?_)));refine A3 rfl (Bm [0,1] rfl (.cons _ _ _ _ _ rfl (A7 _) .nil) (by decide) (.cons _ _ _ _ _ rfl rfl (.cons _ _ _ _ _ rfl (Df B4 _ _ _) .nil)) (SB w cap f hv hm htb hf) ?_);rintro r bc tc ⟨rfl,rfl,rfl⟩;refine⟨rfl,_,E4 rfl ((Dw w).1) cap,?_⟩;refine BC (h:=?_);refine BU (r:= .v (.int .i64 (BW w).2)) none (h5:=(by rw[hact];exact A7 _)) (h6:=⟨rfl,rfl,?_⟩);rw[hact];rfl
 refine Av (Ed (h:=?_));refine A4 rfl (fun hb11 hc11=>?_) (fun hb11 hc11=>?_)
 ·obtain⟨f,hf⟩:∃f,w.found[0]?=some f:=⟨_,B3 (by omega)⟩;obtain⟨x,hx⟩:∃x,w.r.items[0]?=some x:=⟨_,B3 (by omega)⟩;have hact:BW w=Dw w:=by simp[BW,hc11]
  refine Aa (h:=?_);refine A3 rfl (Bm [0,1] rfl (.cons _ _ _ _ _ rfl (A7 _) .nil) (by decide) (.cons _ _ _ _ _ rfl rfl (.cons _ _ _ _ _ rfl (Df B4 _ _ _) .nil)) (SB w cap f hv hm htb hf) ?_);rintro r bc tc ⟨rfl,rfl,rfl⟩;refine⟨rfl,_,E4 rfl ((Dw w).1) cap,?_⟩;refine BC (h:=?_);refine BU (r:= .v (.int .i64 (BW w).2)) none (h5:=(by rw[hact];exact A7 _)) (h6:=⟨rfl,rfl,?_⟩);rw[hact];rfl
 refine q_ (B1 (h:=?_));refine A4 rfl (fun hb12 hc12=>?_) (fun hb12 hc12=>?_)
 ·obtain⟨f,hf⟩:∃f,w.found[0]?=some f:=⟨_,B3 (by omega)⟩;obtain⟨x,hx⟩:∃x,w.r.items[0]?=some x:=⟨_,B3 (by omega)⟩;have hact:BW w=Gb w:=by simp[BW,hc12]
  refine AG (Fr (h:=Aa (h:=?_)));refine A3 rfl (Bm [0,1] rfl (.cons _ _ _ _ _ rfl (A7 _) .nil) (by decide) (.cons _ _ _ _ _ rfl rfl (.cons _ _ _ _ _ rfl (Df B4 _ _ _) .nil)) (b7 w cap f x hv hm hf hx (by have:=hnm f (Ag hf);omega) h9 hsz) ?_);rintro r bc tc ⟨rfl,rfl,rfl⟩;refine⟨rfl,_,E4 rfl ((Gb w).1) cap,?_⟩;refine BC (h:=?_);refine BU (r:= .v (.int .i64 (BW w).2)) none (h5:=(by rw[hact];exact A7 _)) (h6:=⟨rfl,rfl,?_⟩);rw[hact];rfl
 refine Av (Ed (h:=?_));refine A4 rfl (fun hb13 hc13=>?_) (fun hb13 hc13=>?_)
 ·obtain⟨f,hf⟩:∃f,w.found[0]?=some f:=⟨_,B3 (by omega)⟩;obtain⟨x,hx⟩:∃x,w.r.items[0]?=some x:=⟨_,B3 (by omega)⟩;have hact:BW w=Gb w:=by simp[BW,hc13]
  refine Aa (h:=?_);refine A3 rfl (Bm [0,1] rfl (.cons _ _ _ _ _ rfl (A7 _) .nil) (by decide) (.cons _ _ _ _ _ rfl rfl (.cons _ _ _ _ _ rfl (Df B4 _ _ _) .nil)) (b7 w cap f x hv hm hf hx (by have:=hnm f (Ag hf);omega) h9 hsz) ?_);rintro r bc tc ⟨rfl,rfl,rfl⟩;refine⟨rfl,_,E4 rfl ((Gb w).1) cap,?_⟩;refine BC (h:=?_);refine BU (r:= .v (.int .i64 (BW w).2)) none (h5:=(by rw[hact];exact A7 _)) (h6:=⟨rfl,rfl,?_⟩);rw[hact];rfl
 exact E7
theorem tK(s:Syst)(pid:Int)(c:Cal)(hv:SpcV s.spc)(hm:s.spc.mounts.length≤1000)(ht:TabB s.tab)(hcp:c.paths.length≤1000)(hca:c.args.length≤1000)(h6:0<(C9 c.num).2.2.1):AFn prog 49 [.agg (DH s), .v (.int .i64 pid), .agg (G8 c)] (fun r=>r=Nm (EZ s pid c)):=by
 have hsb:=hv.b hm;obtain⟨W1,hW1⟩:∃W,W=LJ s pid c:=⟨_,rfl⟩;have hwf:=oP s pid c;rw[←hW1]at hwf;have hWs:W1.s=s:=by rw[hW1];rfl
 have hWc:W1.c=c:=by rw[hW1];rfl
 refine enter Tryz.func49 rfl rfl rfl rfl rfl 0 rfl ?_;refine Dh (h:=Dt (h:=DT (h:=Az (h:=m_ (h:=?_)))));refine A3 rfl (A8 (KM s.tab pid ht) ?_);rintro r rfl;refine Gm (h:=?_);refine A4 rfl (fun hb1 hc1=>?_) (fun hb1 hc1=>?_)
 ·have hno:CP s.tab pid=false:=by simpa using hc1
  refine CF (h:=?_);refine A3 rfl (A8 (Mx s hsb ht) ?_);rintro r rfl;refine A3 rfl (Hp (y:= .agg (Ni {Gx with exit:= -4})) (Dz ⟨rfl,rfl⟩) ?_);refine s_ (h:=s_ (h:=e_ (B8 (Bu (?_)))));refine A6 ?_;rw[EZ,if_pos hno];rfl
 have hno:¬CP s.tab pid=false:=by simpa using hc1
 refine FY (h:=CF (h:=?_));refine A3 rfl (A8 (Yl c hcp hca) ?_);rintro r rfl;refine Bn (h:=?_);refine A4 rfl (fun hb2 hc2=>?_) (fun hb2 hc2=>?_)
 ·have hck:Bx c≠0:=by simpa using hc2
  refine CF (h:=?_);refine A3 rfl (A8 (Mx s hsb ht) ?_);rintro r rfl;refine A3 rfl (Hp (y:= .agg (Ni {Gx with exit:= -22})) (Dz ⟨rfl,rfl⟩) ?_);refine s_ (h:=s_ (h:=e_ (B8 (Bu (?_)))));refine A6 ?_;rw[EZ,if_neg hno,if_pos hck];rfl
 have hck:Bx c=0:=by simpa using hc2
 obtain⟨hk1,hk2,hk3,hk4,hk5⟩:=ZQ hck;have hargs:∀p∈(Dp s pid c).c.args,p.size≤1000:=fun p hp=>by have:=hk5 p hp;omega
 have hpaths:∀p∈(Dp s pid c).c.paths,p.size≤100000:=fun p hp=>by have:=hk4 p hp;omega
 obtain⟨hp1,hp2,hp3⟩:=bA h6;have hp4:=tG h6;have h9:c.num=9→0<c.args.length:=fun q=>by rw[q]at hk2;have:(C9 9).2.2.2.1=1:=rfl;omega
 have hpp:(Dp s pid c).c.paths.length=(DF (Dp s pid c).c).length:=by show c.paths.length=(DF c).length;omega
 have hp0:0<(Dp s pid c).c.paths.length:=by show 0<c.paths.length;omega
 have hzl:(c.paths.zip (DF c)).length=c.paths.length:=by rw[List.length_zip];omega
 have hil0:0<W1.r.items.length:=by rw[hwf.2.2,hzl];omega
 refine AG (q_ (BS ([(0,DH s),(1,G8 c),(4,Au (AQ s.tab pid))]) 7 (h:=?_)));refine AA 0 (h:=?_);refine AA 2 (h:=?_);refine AA 3 (h:=?_);refine c_ 1 rfl (A8 (Mx s hsb ht) ?_);rintro r rfl;refine o_ (h:=?_);refine CC 4 rfl (fun _ hS=>Hk (y:= .agg (De (Dp s pid c) (.v (.slice none 0 0)) (.v (.slice none 0 0)))) (Dz ⟨rfl,rfl⟩) (ZS s pid c) ⟨rfl,rfl⟩) ?_;refine c_ 5 rfl (Qn rfl rfl (by repeat constructor) ?_);refine o_ (h:=BE 6 (h:=z_ (h:=t_ (?_))));refine B9 (fun S=>∃cap,W1.r.items.length≤cap∧S=⟨look [(3, .bp 2 0),(6, .bp 3 0),(7, .bp 4 0),(10, .bp 0 0),(11, .v (.int .i64 (J7 s (AQ s.tab pid) c).2.2))],⟨[WA W1 cap,IB W1 cap,DH s,Ku,Ln],[]⟩⟩) ?_ ?_
 ·skip
  refine EX (h:=?_);refine A3 rfl (Ds 1 rfl (.cons _ _ _ _ _ rfl (LeA.of_eq rfl) .nil) (ZR (Dp s pid c) (.v (.slice none 0 0)) (.v (.slice none 0 0)) h9 hargs) ?_);rintro r rfl;refine⟨rfl,?_⟩;refine A3 rfl (Bm [5] rfl (.cons _ _ _ _ _ rfl (A7 _) (.cons _ _ _ _ _ rfl (A7 _) .nil)) (by decide) (.cons _ _ _ _ _ rfl rfl .nil) (oD (Dp s pid c) (DG (AQ s.tab pid) c) hv hm hpp (by show c.paths.length≤1000;omega) hp0 hpaths) ?_);rintro r bc tc ⟨rfl,cap,hcap,rfl,rfl⟩;refine⟨rfl,_,oO (Dp s pid c) _ _ cap _,?_⟩;refine Ck (h:=?_);rw[hW1];exact⟨_,⟨cap,hcap,rfl⟩,GG [5,6,0,2,3] (fun i hi=>absurd hi (Nat.not_lt_zero i)) (by decide) (.cons _ _ _ _ _ rfl rfl (.cons _ _ _ _ _ rfl (MA B4 _ _ _) (.cons _ _ _ _ _ rfl rfl (.cons _ _ _ _ _ rfl rfl (.cons _ _ _ _ _ rfl rfl .nil))))) (by repeat (first|exact SubK.nil|refine SubK.cons _ _ _ _ rfl (A7 _) ?_))⟩
 rintro S ⟨cap,hcap,rfl⟩;refine Aa (h:=Dj (h:=?_));refine A3 rfl (R8 rfl rfl (SrcA.bs 1 0 _ cap _ rfl (by rw[show IB W1 cap=LB 13 Cf W1.r.items cap from rfl,Rp B4 hcap];omega)) hil0 (by rw[hwf.2.2,hzl];omega) ?_);rintro cap2 k bx2 hcp2 hs;rw[show((IB W1 cap).drop 0).take (W1.r.items.length * 13)++List.replicate ((cap2 - W1.r.items.length) * 13) AV.any=LB 13 Cf W1.r.items cap2 from oQ B4 _ cap cap2]at hs;obtain⟨rfl,rfl⟩:k=5∧bx2=[_,_,_,_,_,_]:=hs.eq;refine B7 (h:=?_);refine B9 (fun S=>∃(W2:Wrk) (E2:Int),((¬(J7 s (AQ s.tab pid) c).2.2=0∧E2=(J7 s (AQ s.tab pid) c).2.2)∨((J7 s (AQ s.tab pid) c).2.2=0∧W2=(BW W1).1∧E2=(BW W1).2))∧S=⟨look [(3, .bp 2 0),(6, .bp 3 0),(7, .bp 4 0),(10, .bp 0 0),(11, .v (.int .i64 E2)),(12, .bs 5 0 13 W1.r.items.length cap2)],⟨[WA W2 cap,IB W2 cap,DH s,Ku,Ln,LB 13 Cf W1.r.items cap2],[]⟩⟩) ?_ ?_
 ·skip
  refine Aa (h:=BN (h:=?_));refine A4 rfl (fun hb3 hc3=>?_) (fun hb3 hc3=>?_)
  ·have he1:(J7 s (AQ s.tab pid) c).2.2=0:=by simpa using hc3
   refine C5 (h:=?_);refine A3 rfl (Bm [0,1] rfl (.cons _ _ _ _ _ rfl (A7 _) .nil) (by decide) (.cons _ _ _ _ _ rfl rfl (.cons _ _ _ _ _ rfl (Df B4 _ _ _) .nil)) (tJ W1 cap (by rw[hWs];exact hv) (by rw[hWs];exact hm) (by rw[hWs];exact ht) hwf.1 (by rw[hwf.2.1,hzl];omega) (by rw[hwf.2.2,hzl];omega) (by rw[hWc,hwf.2.1,hwf.2.2,hzl];omega) (by rw[hWc];exact hp1) (by rw[hWc];exact h9) (by rw[hWc];exact hargs)) ?_);rintro r bc tc ⟨rfl,rfl,rfl⟩;refine⟨rfl,_,E4 rfl (BW W1).1 cap,?_⟩;refine Ck (h:=?_);exact⟨_,⟨(BW W1).1,(BW W1).2, .inr ⟨he1,rfl,rfl⟩,rfl⟩,Ai 6 0 rfl rfl rfl (by simp[AY,AX,AW,By B4,BG,WA,IB,Co,DH,Ku,Ln]) ((by repeat (first|exact Sub.nil|refine Aj rfl rfl ?_|refine Ap ?_|refine Aq rfl ?_|refine Ar rfl ?_)))⟩
  have he1:¬(J7 s (AQ s.tab pid) c).2.2=0:=by simpa using hc3
  refine BF (AM (?_))
  first|exact⟨_,⟨(BW W1).1,(BW W1).2, .inr ⟨he1,rfl,rfl⟩,rfl⟩,Ai 6 0 rfl rfl rfl (by simp[AY,AX,AW,By B4,BG,WA,IB,Co,DH,Ku,Ln]) ((by repeat (first|exact Sub.nil|refine Aj rfl rfl ?_|refine Ap ?_|refine Aq rfl ?_|refine Ar rfl ?_)))⟩|exact⟨_,⟨W1,_, .inl ⟨he1,rfl⟩,rfl⟩,Ai 6 0 rfl rfl rfl (by simp[AY,AX,AW,By B4,BG,WA,IB,Co,DH,Ku,Ln]) ((by repeat (first|exact Sub.nil|refine Aj rfl rfl ?_|refine Ap ?_|refine Aq rfl ?_|refine Ar rfl ?_)))⟩
 rintro S ⟨W2,E2,hQ,rfl⟩;refine Bv (h:=Bn (h:=?_));refine A4 rfl (fun hb4 hc4=>?_) (fun hb4 hc4=>?_)
 ·have he2:E2≠0:=by simpa using hc4
  have hrun:EZ s pid c=(s,{Gx with exit:=Kt E2,items:=W1.r.items}):=by
   rw[EZ,if_neg hno,if_neg (by simp[hck])];rcases hQ with⟨q1,q2⟩|⟨q1,q2,q3⟩
   ·rw[if_pos q1,←q2,hW1];rfl
   rw[if_neg (by simp[q1]),←hW1,←q3,if_pos he2,hW1];rfl
  refine B9 (fun S=>S=⟨look [(6, .bp 0 0),(7, .bp 1 0)],⟨[DH s,Nn {Gx with exit:=Kt E2} (.sl 13 (W1.r.items.map Cf) none)],[]⟩⟩) ?_ ?_
  ·skip
   refine Av (l_ (h:=?_));refine A3 rfl (A8 (Mx s hsb ht) ?_);rintro r rfl;refine m_ (h:=?_);refine A3 rfl (ZV rfl ?_);refine m_ (h:=?_);refine A3 rfl (Hp (y:= .agg (Nn {Gx with exit:=Kt E2} (.bs 5 0 13 W1.r.items.length cap2))) (Dz ⟨rfl,rfl⟩) ?_);refine s_ (h:=s_ (h:=D6 (h:=?_)));refine⟨_,rfl,(GG [3,4,5] (rows:=[DH s,Nn {Gx with exit:=Kt E2} (.bs 2 0 13 W1.r.items.length cap2),LB 13 Cf W1.r.items cap2]) (l:=[(6, .bp 0 0),(7, .bp 1 0)]) (fun i hi=>absurd hi (Nat.not_lt_zero i)) (by decide) (.cons _ _ _ _ _ rfl rfl (.cons _ _ _ _ _ rfl rfl (.cons _ _ _ _ _ rfl (MA B4 _ _ _) .nil))) (by repeat (first|exact SubK.nil|refine SubK.cons _ _ _ _ rfl (A7 _) ?_))).trans (Hm 2 1 rfl (congrArg (fun x=>[DH s,Nn {Gx with exit:=Kt E2} x]) (Og B4 rfl rfl hcp2)) (.cons _ _ _ _ rfl (A7 _) (.cons _ _ _ _ rfl (A7 _) .nil)))⟩
  rintro S rfl;refine B8 (Bu (?_));refine AZ (r:=Nm (EZ s pid c)) none (h5:=(by rw[hrun];exact(by repeat (first|exact A7 _|exact LeA.nil _|exact LeL.refl _|refine LeA.agg ?_|refine LeA.tup ?_|exact LeL.nil|refine LeL.cons ?_ ?_|exact LeA.any _)))) (h6:=⟨rfl,rfl,rfl⟩)
 have he2:E2=0:=by simpa using hc4
 have hlen2:W2.r.items.length≤cap:=by
  rcases hQ with⟨q1,q2⟩|⟨q1,q2,q3⟩
  ·exact absurd (q2.symm.trans he2) q1
  rw[q2,b8];exact hcap
 have hrun:EZ s pid c=(W2.s,W2.r):=by
  rcases hQ with⟨q1,q2⟩|⟨q1,q2,q3⟩
  ·exact absurd (q2.symm.trans he2) q1
  rw[EZ,if_neg hno,if_neg (by simp[hck]),if_neg (by simp[q1]),←hW1,←q3,if_neg (by simp[he2]),q2]
 refine AG (?_);refine B9 (fun S=>S=⟨look [(6, .bp 0 0),(7, .bp 1 0)],⟨[DH W2.s,Nn W2.r (.sl 13 (W2.r.items.map Cf) none)],[]⟩⟩) ?_ ?_
 ·skip
  refine BS ([(0,WA W2 cap)]) 10 (h:=AF 0 (h:=BM 1 (h:=AD 2 (h:=AA 3 (h:=AF 4 (h:=BM 5 (h:=AD 6 (h:=AA 7 (h:=?_)))))))));refine Ak 8 (h:=?_);refine Ak 9 (h:=z_ (h:=?_));refine AM ?_;refine⟨_,rfl,(GG [3,4,1] (rows:=[DH W2.s,Nn W2.r (.bs 2 0 13 W2.r.items.length cap),LB 13 Cf W2.r.items cap]) (l:=[(6, .bp 0 0),(7, .bp 1 0)]) (fun i hi=>absurd hi (Nat.not_lt_zero i)) (by decide) (.cons _ _ _ _ _ rfl rfl (.cons _ _ _ _ _ rfl rfl (.cons _ _ _ _ _ rfl (MA B4 _ _ _) .nil))) (by repeat (first|exact SubK.nil|refine SubK.cons _ _ _ _ rfl (A7 _) ?_))).trans (Hm 2 1 rfl (congrArg (fun x=>[DH W2.s,Nn W2.r x]) (Og B4 rfl rfl hlen2)) (.cons _ _ _ _ rfl (A7 _) (.cons _ _ _ _ rfl (A7 _) .nil)))⟩
 rintro S rfl;refine B8 (?_);refine A6 ?_;rw[hrun];rfl
theorem tL{s:Syst}{p:Prc}{c:Cal}(h:c.paths=[]):J7 s p c=([],[],DG p c):=by
 unfold J7 Lg;rw[h];rfl
theorem tM(s:Syst)(pid:Int)(c:Cal)(hv:SpcV s.spc)(hm:s.spc.mounts.length≤1000)(ht:TabB s.tab)(htn:DZ s.tab)(hcp:c.paths.length≤1000)(hca:c.args.length≤1000)(h6:(C9 c.num).2.2.1=0):AFn prog 49 [.agg (DH s), .v (.int .i64 pid), .agg (G8 c)] (fun r=>r=Nm (EZ s pid c)):=by
 have hsb:=hv.b hm;have hwl:LJ s pid c=⟨s,AQ s.tab pid,c,(J7 s (AQ s.tab pid) c).2.1,{Gx with items:=(J7 s (AQ s.tab pid) c).1}⟩:=rfl;refine enter Tryz.func49 rfl rfl rfl rfl rfl 0 rfl ?_;refine Dh (h:=Dt (h:=DT (h:=Az (h:=m_ (h:=?_)))));refine A3 rfl (A8 (KM s.tab pid ht) ?_);rintro r rfl;refine Gm (h:=?_);refine A4 rfl (fun hb1 hc1=>?_) (fun hb1 hc1=>?_)
 ·have hno:CP s.tab pid=false:=by simpa using hc1
  refine CF (h:=?_);refine A3 rfl (A8 (Mx s hsb ht) ?_);rintro r rfl;refine A3 rfl (Hp (y:= .agg (Ni {Gx with exit:= -4})) (Dz ⟨rfl,rfl⟩) ?_);refine s_ (h:=s_ (h:=e_ (B8 (Bu (?_)))));refine A6 ?_;rw[EZ,if_pos hno];rfl
 have hno:¬CP s.tab pid=false:=by simpa using hc1
 refine FY (h:=CF (h:=?_));refine A3 rfl (A8 (Yl c hcp hca) ?_);rintro r rfl;refine Bn (h:=?_);refine A4 rfl (fun hb2 hc2=>?_) (fun hb2 hc2=>?_)
 ·have hck:Bx c≠0:=by simpa using hc2
  refine CF (h:=?_);refine A3 rfl (A8 (Mx s hsb ht) ?_);rintro r rfl;refine A3 rfl (Hp (y:= .agg (Ni {Gx with exit:= -22})) (Dz ⟨rfl,rfl⟩) ?_);refine s_ (h:=s_ (h:=e_ (B8 (Bu (?_)))));refine A6 ?_;rw[EZ,if_neg hno,if_pos hck];rfl
 have hck:Bx c=0:=by simpa using hc2
 obtain⟨hk1,hk2,hk3,hk4,hk5⟩:=ZQ hck;have hargs:∀p∈(Dp s pid c).c.args,p.size≤1000:=fun p hp=>by have:=hk5 p hp;omega
 have hp0:c.paths=[]:=by rw[h6]at hk1;exact List.length_eq_zero_iff.1 (by omega)
 have hpz:(Dp s pid c).c.paths=[]:=hp0;have h9:(Dp s pid c).c.num=9→0<(Dp s pid c).c.args.length:=fun q=>absurd q (bB h6).2.2.2.1;have h19:(Dp s pid c).c.num=19→0<(Dp s pid c).c.args.length:=fun q=>by have q2:c.num=19:=q;rw[q2]at hk2;have:(C9 19).2.2.2.1=1:=rfl;show 0<c.args.length;omega
 have hlok:=tL (s:=s) (p:=AQ s.tab pid) hp0;have hwk:LJ s pid c=Dp s pid c:=by rw[hwl,hlok];rfl
 refine AG (q_ (BS ([(0,DH s),(1,G8 c),(4,Au (AQ s.tab pid))]) 7 (h:=?_)));refine AA 0 (h:=?_);refine AA 2 (h:=?_);refine AA 3 (h:=?_);refine c_ 1 rfl (A8 (Mx s hsb ht) ?_);rintro r rfl;refine o_ (h:=?_);refine CC 4 rfl (fun _ hS=>Hk (y:= .agg (De (Dp s pid c) (.v (.slice none 0 0)) (.v (.slice none 0 0)))) (Dz ⟨rfl,rfl⟩) (ZS s pid c) ⟨rfl,rfl⟩) ?_;refine c_ 5 rfl (Qn rfl rfl (by repeat constructor) ?_);refine o_ (h:=BE 6 (h:=z_ (h:=t_ (?_))));refine B9 (fun S=>S=⟨look [(3, .bp 2 0),(6, .bp 3 0),(7, .bp 4 0),(10, .bp 0 0),(11, .v (.int .i64 (DG (AQ s.tab pid) c)))],⟨[WN (Dp s pid c),G8 c,DH s,Ku,Ln],[]⟩⟩) ?_ ?_
 ·skip
  refine EX (h:=?_);refine A3 rfl (Ds 1 rfl (.cons _ _ _ _ _ rfl (LeA.of_eq rfl) .nil) (ZR (Dp s pid c) (.v (.slice none 0 0)) (.v (.slice none 0 0)) h9 hargs) ?_);rintro r rfl;refine⟨rfl,?_⟩;refine A3 rfl (Bm [5] rfl (.cons _ _ _ _ _ rfl (A7 _) (.cons _ _ _ _ _ rfl (A7 _) .nil)) (by decide) (.cons _ _ _ _ _ rfl rfl .nil) (sW (Dp s pid c) (DG (AQ s.tab pid) c) hpz) ?_);rintro r bc tc ⟨rfl,rfl,rfl⟩;refine⟨rfl,_,tH (Dp s pid c),?_⟩;refine Ck (h:=?_);exact⟨_,rfl,GG [5,1,0,2,3] (fun i hi=>absurd hi (Nat.not_lt_zero i)) (by decide) (.cons _ _ _ _ _ rfl rfl (.cons _ _ _ _ _ rfl rfl (.cons _ _ _ _ _ rfl rfl (.cons _ _ _ _ _ rfl rfl (.cons _ _ _ _ _ rfl rfl .nil))))) (by repeat (first|exact SubK.nil|refine SubK.cons _ _ _ _ rfl (A7 _) ?_))⟩
 rintro S rfl;refine Aa (h:=Dj (h:=?_));refine A3 rfl (sR rfl rfl ?_);refine B7 (h:=?_);refine B9 (fun S=>∃(W2:Wrk) (E2:Int),((¬DG (AQ s.tab pid) c=0∧E2=DG (AQ s.tab pid) c)∨(DG (AQ s.tab pid) c=0∧W2=(BW (Dp s pid c)).1∧E2=(BW (Dp s pid c)).2))∧S=⟨look [(3, .bp 2 0),(6, .bp 3 0),(7, .bp 4 0),(10, .bp 0 0),(11, .v (.int .i64 E2)),(12, .v (.slice none 0 0))],⟨[WN W2,G8 c,DH s,Ku,Ln],[]⟩⟩) ?_ ?_
 ·skip
  refine Aa (h:=BN (h:=?_));refine A4 rfl (fun hb3 hc3=>?_) (fun hb3 hc3=>?_)
  ·have he1:DG (AQ s.tab pid) c=0:=by simpa using hc3
   refine C5 (h:=?_);refine A3 rfl (Bm [0] rfl (.cons _ _ _ _ _ rfl (A7 _) .nil) (by decide) (.cons _ _ _ _ _ rfl rfl .nil) (sX (Dp s pid c) hsb ht htn h19 (bB h6)) ?_);rintro r bc tc ⟨rfl,rfl,rfl⟩;refine⟨rfl,_,Lq ((BW (Dp s pid c)).1),?_⟩;refine Ck (h:=?_);exact⟨_,⟨(BW (Dp s pid c)).1,(BW (Dp s pid c)).2, .inr ⟨he1,rfl,rfl⟩,rfl⟩,Ai 5 0 rfl rfl rfl (by simp[AY,AX,AW,BG,WN,DH,Ku,Ln,G8]) ((by repeat (first|exact Sub.nil|refine Aj rfl rfl ?_|refine Ap ?_|refine Aq rfl ?_|refine Ar rfl ?_)))⟩
  have he1:¬DG (AQ s.tab pid) c=0:=by simpa using hc3
  refine BF (AM (?_))
  first|exact⟨_,⟨(BW (Dp s pid c)).1,(BW (Dp s pid c)).2, .inr ⟨he1,rfl,rfl⟩,rfl⟩,Ai 5 0 rfl rfl rfl (by simp[AY,AX,AW,BG,WN,DH,Ku,Ln,G8]) ((by repeat (first|exact Sub.nil|refine Aj rfl rfl ?_|refine Ap ?_|refine Aq rfl ?_|refine Ar rfl ?_)))⟩|exact⟨_,⟨Dp s pid c,_, .inl ⟨he1,rfl⟩,rfl⟩,Ai 5 0 rfl rfl rfl (by simp[AY,AX,AW,BG,WN,DH,Ku,Ln,G8]) ((by repeat (first|exact Sub.nil|refine Aj rfl rfl ?_|refine Ap ?_|refine Aq rfl ?_|refine Ar rfl ?_)))⟩
 rintro S ⟨W2,E2,hQ,rfl⟩;refine Bv (h:=Bn (h:=?_));refine A4 rfl (fun hb4 hc4=>?_) (fun hb4 hc4=>?_)
 ·have he2:E2≠0:=by simpa using hc4
  have hrun:EZ s pid c=(s,{Gx with exit:=Kt E2}):=by
   rw[EZ,if_neg hno,if_neg (by simp[hck]),hlok];rcases hQ with⟨q1,q2⟩|⟨q1,q2,q3⟩
   ·rw[if_pos q1,←q2];rfl
   rw[if_neg (by simp[q1]),hwk,←q3,if_pos he2];rfl
  refine CF (h:=?_);refine A3 rfl (A8 (Mx s hsb ht) ?_);rintro r rfl;refine m_ (h:=?_);refine A3 rfl (ZV rfl ?_);refine m_ (h:=?_);refine A3 rfl (Hp (y:= .agg (Ni {Gx with exit:=Kt E2})) (Dz ⟨rfl,rfl⟩) ?_);refine s_ (h:=s_ (h:=e_ (B8 (Bu (?_)))));refine AZ (r:=Nm (EZ s pid c)) none (h5:=(by rw[hrun];exact(by repeat (first|exact A7 _|exact LeA.nil _|exact LeL.refl _|refine LeA.agg ?_|refine LeA.tup ?_|exact LeL.nil|refine LeL.cons ?_ ?_|exact LeA.any _)))) (h6:=⟨rfl,rfl,rfl⟩)
 have he2:E2=0:=by simpa using hc4
 have hrun:EZ s pid c=(W2.s,W2.r)∧W2.r.items=[]:=by
  rcases hQ with⟨q1,q2⟩|⟨q1,q2,q3⟩
  ·exact absurd (q2.symm.trans he2) q1
  refine⟨?_,?_⟩
  ·rw[EZ,if_neg hno,if_neg (by simp[hck]),hlok,if_neg (by simp[q1]),hwk,←q3,if_neg (by simp[he2]),q2]
  refine List.length_eq_zero_iff.1 ?_;rw[q2,b8];rfl
 refine AG (q_ (BS ([(0,WN W2)]) 10 (h:=AF 0 (h:=BM 1 (h:=AD 2 (h:=AA 3 (h:=AF 4 (h:=BM 5 (h:=AD 6 (h:=AA 7 (h:=?_)))))))))));refine Ak 8 (h:=?_);refine Ak 9 (h:=z_ (h:=t_ (B8 (?_))));refine AZ (r:=Nm (EZ s pid c)) none (h5:=?_) (h6:=⟨rfl,rfl,rfl⟩);rw[hrun.1,Nm,Ni,hrun.2];exact(by repeat (first|exact A7 _|exact LeA.nil _|exact LeL.refl _|refine LeA.agg ?_|refine LeA.tup ?_|exact LeL.nil|refine LeL.cons ?_ ?_|exact LeA.any _))
theorem FS(s:Syst)(pid:Int)(c:Cal)(hv:SpcV s.spc)(hm:s.spc.mounts.length≤1000)(ht:TabB s.tab)(htn:DZ s.tab)(hcp:c.paths.length≤1000)(hca:c.args.length≤1000):AFn prog 49 [.agg (DH s), .v (.int .i64 pid), .agg (G8 c)] (fun r=>r=Nm (EZ s pid c)):=by
 rcases tE c.num with h|h
 ·exact tK s pid c hv hm ht hcp hca h
 exact tM s pid c hv hm ht htn hcp hca h
end
def H4(ns:List Nod)(i:Int):Option Int:=(ns.find? fun n:Nod=>n.ino==i).map (·.kind)
def MH(f:AR)(a:A9):Option Int:=match Fv f a.1 with
 |none=>none
 |some d=>H4 d.nodes a.2
theorem tN(f:AR)(a:A9):AU f a=decide (MH f a=some 2):=by
 have key:∀o:Option Nod,(match o with|none=>false|some n=>n.kind==2)=decide (o.map (·.kind)=some 2):=by
  intro o
  cases o with
  |none=>rfl
  |some n=>by_cases h:n.kind=2<;>simp[h]
 unfold AU MH C8
 cases Fv f a.1 with
 |none=>rfl
 |some d=>exact key _
theorem SC{j:Int}{g:Nod→Nod}(hi:∀n,(g n).ino=n.ino)(hk:∀n,(g n).kind=n.kind)(i:Int):∀ns:List Nod,H4 (Cz ns j g) i=H4 ns i
 |[]=>rfl
 |n::ns=>by
   have ih:=SC hi hk (j:=j) i ns;unfold H4 Cz at ih ⊢;rw[List.map_cons,List.find?_cons,List.find?_cons];have e1:(if n.ino=j then g n else n).ino=n.ino:=by split<;>simp[hi]
   have e2:(if n.ino=j then g n else n).kind=n.kind:=by split<;>simp[hk]
   rw[e1]
   cases n.ino==i with
   |true=>simp[e2]
   |false=>exact ih
theorem bC{ns:List Nod}{i j:Int}(h:i≠j):H4 (CH ns j) i=H4 ns i:=by
 unfold H4 CH;rw[List.find?_filter]
 congr 2
 funext n
 by_cases e:n.ino=i
 ·subst e;simp[h]
 simp[e]
theorem Nr(ns:List Nod)(p:Int)(name:AE)(ino i:Int):H4 (Bg ns p name ino) i=H4 ns i:=SC (g:=OQ name ino) (j:=p) (fun _=>rfl) (fun _=>rfl) i ns
theorem tO(ns:List Nod)(a p:Int)(b:Bool)(i:Int):H4 (Ld ns a p b) i=H4 ns i:=by
 unfold Ld;split
 ·exact SC (g:=fun n=>{n with parent:=p}) (j:=a) (fun _=>rfl) (fun _=>rfl) i ns
 rfl
theorem tP{ns:List Nod}{i k:Int}(h:H4 ns i=some k)(m:Nod):H4 (ns++[m]) i=some k:=by
 unfold H4 at h ⊢;rw[List.find?_append]
 cases e:ns.find? fun n:Nod=>n.ino==i with
 |none=>rw[e]at h;simp at h
 |some n=>rw[e]at h;simpa using h
theorem bD{f:AR}{q:Nat}{d d':Dvc}(hq:f[q]?=some d){a:A9}{k:Int}(h:MH f a=some k)(hd:a.1=(q:Int)→H4 d.nodes a.2=some k→H4 d'.nodes a.2=some k):MH (f.set q d') a=some k:=by
 unfold MH at h ⊢;unfold Fv at h ⊢;by_cases c:a.1<0
 ·rw[if_pos c]at h;cases h
 rw[if_neg c]at h ⊢;rw[List.getElem?_set];by_cases e:q=a.1.toNat
 ·subst e;have hl:=(Af.1 hq).1;rw[if_pos rfl,if_pos hl];rw[hq]at h;exact hd (by omega) h
 rw[if_neg e];exact h
theorem SD{f:AR}{q:Nat}{g:List Nod→List Nod}{a:A9}{k:Int}(h:MH f a=some k)(hd:∀ns,a.1=(q:Int)→H4 ns a.2=some k→H4 (g ns) a.2=some k):MH (Jj f q g) a=some k:=by
 cases e:f[q]? with
 |none=>
   have:Jj f q g=f:=by
    unfold Jj;apply List.ext_getElem?;intro i;rw[List.getElem?_modify];by_cases c:q=i
    ·subst c;rw[e];rfl
    cases f[i]?<;>simp[c]
   rw[this];exact h
 |some d=>
   rw[KF e];exact bD e h (hd d.nodes)
theorem Q7{f g:AR}{a:A9}(h:AU f a=true)(hk:MH f a=some 2→MH g a=some 2):AU g a=true:=by
 rw[tN,decide_eq_true_iff]at h ⊢;exact hk h
theorem tQ{f:AR}{dir:A9}{name:AE}{n:Nod}(h0:(FL f dir name n).2.2=0){a:A9}(h:AU f a=true):AU (FL f dir name n).1 a=true:=by
 unfold FL at h0 ⊢;split at h0
 ·rename_i c;exact absurd h0 c
 rename_i c1;rw[if_neg c1];split at h0
 ·exact absurd h0 (by decide)
 rename_i c2;rw[if_neg c2];split at h0
 ·exact absurd h0 (by decide)
 rename_i c3;rw[if_neg c3]
 cases e:Fv f dir.1 with
 |none=>rw[e]at h0;exact absurd h0 (by simp)
 |some d=>
   rw[e]at h0;simp only at h0 ⊢;split at h0
   ·exact absurd h0 (by decide)
   rename_i c4;rw[if_neg c4]
   have hq:f[dir.1.toNat]?=some d:=by
    unfold Fv at e;split at e
    ·cases e
    exact e
   refine Q7 h fun hk=>bD hq hk fun _ hk=>tP ?_ _;rw[Nr];exact hk
theorem tR{f:AR}{dir:A9}{name:AE}{b:A9}(h0:(Ew f dir name b).2.2=0){a:A9}(h:AU f a=true):AU (Ew f dir name b).1 a=true:=by
 revert h0;unfold Ew
 repeat' split
 all_goals first|exact fun h0=>absurd h0 (by assumption)|exact fun h0=>absurd h0 (by decide)|skip
 exact fun _=>Q7 h fun hk=>SD hk fun ns _ hn=>(Nr ns dir.2 name b.2 a.2).trans hn
theorem bE{f:AR}{dir:A9}{name:AE}{o:A9}(ho:o.1=dir.1){a:A9}(h:AU f a=true)(hne:a≠o)(h0:0≤dir.1):AU (Jj f dir.1.toNat fun ns=>CH (Bg ns dir.2 name 0) o.2) a=true:=
 Q7 h fun hk=>SD hk fun ns ha hn=>by
  rw[bC (fun e=>hne (Prod.ext (by rw[ha,ho];omega) e)),Nr];exact hn
theorem Uw{f:AR}{dir:A9}{name:AE}(h:(AK f dir name).2=0):(AK f dir name).1.1=dir.1:=by
 unfold AK at h ⊢;split
 ·rename_i e;rw[e]at h;exact absurd h (by simp)
 rename_i n e;rw[e]at h;simp only at h;split at h
 ·rename_i c;rw[if_pos c];split
  ·rename_i e2;rw[e2]at h;exact absurd h (by simp)
  rfl
 exact absurd h (by decide)
theorem Ux{f:AR}{dir:A9}{name:AE}(h:Cc f dir name=0):0≤dir.1:=by
 unfold Cc C8 Fv at h;by_cases c:dir.1<0
 ·rw[if_pos c]at h;exact absurd h (by simp)
 omega
theorem tS{f:AR}{dir:A9}{name:AE}(h0:(J3 f dir name).2.2=0){a:A9}(h:AU f a=true):AU (J3 f dir name).1 a=true:=by
 unfold J3 at h0 ⊢;split at h0
 ·rename_i c;exact absurd h0 c
 rename_i c1;rw[if_neg c1];split at h0
 ·rename_i c;exact absurd h0 c
 rename_i c2;rw[if_neg c2];split at h0
 ·exact absurd h0 (by decide)
 rename_i c3;rw[if_neg c3];exact bE (Uw (by omega)) h (fun e=>c3 (by rw[←e];exact h)) (Ux (f:=f) (name:=name) (by omega))
theorem tT{f:AR}{dir:A9}{name:AE}(h0:(Gv f dir name).2.2=0){a:A9}(h:AU f a=true)(hne:a≠(AK f dir name).1):AU (Gv f dir name).1 a=true:=by
 unfold Gv at h0 ⊢;split at h0
 ·rename_i c;exact absurd h0 c
 rename_i c1;rw[if_neg c1];split at h0
 ·rename_i c;exact absurd h0 c
 rename_i c2;rw[if_neg c2];split at h0
 ·exact absurd h0 (by decide)
 rename_i c3;rw[if_neg c3];split at h0
 ·exact absurd h0 (by decide)
 rename_i c4;rw[if_neg c4];exact bE (Uw (by omega)) h hne (Ux (f:=f) (name:=name) (by omega))
theorem tU{f:AR}{b:A9}{m u g:Int}(h0:(Fy f b m u g).2=0){a:A9}(h:AU f a=true):AU (Fy f b m u g).1 a=true:=by
 unfold Fy at h0 ⊢;split at h0
 ·exact absurd h0 (by decide)
 rename_i c1;rw[if_neg c1];split at h0
 ·exact absurd h0 (by decide)
 rename_i c2;rw[if_neg c2];exact Q7 h fun hk=>SD hk fun ns _ hn=>(SC (g:=GU m u g) (j:=b.2) (fun _=>rfl) (fun _=>rfl) a.2 ns).trans hn
theorem tV{f:AR}{src to:A9}{name name2:AE}(h0:(Fz f src name to name2).2.2=0){a:A9}(h:AU f a=true)
    (hne:(AK f to name2).2=0→(AK f to name2).1≠(AK f src name).1→a≠(AK f to name2).1):AU (Fz f src name to name2).1 a=true:=by
 unfold Fz at h0 ⊢;split at h0
 ·rename_i c;exact absurd h0 c
 rename_i c1;rw[if_neg c1];split at h0
 ·rename_i c;exact absurd h0 c
 rename_i c2;rw[if_neg c2];split at h0
 ·exact absurd h0 (by decide)
 rename_i c3;rw[if_neg c3];split at h0
 ·exact absurd h0 (by decide)
 rename_i c4;rw[if_neg c4];split at h0
 ·rename_i c5;rw[if_pos c5];exact h
 rename_i c5;rw[if_neg c5];split at h0
 ·rename_i c;exact absurd h0 c
 rename_i c6;rw[if_neg c6];refine Q7 h fun hk=>?_;dsimp only;refine SD hk fun ns ha hn=>?_;rw[tO];unfold Nc;split
 ·rename_i e0;have hd:=Uw e0;have hne':=hne e0 fun e=>c5 ⟨e0,e⟩;have hto:=Ux (U6 (f:=f) (x:=src) (y:=to) (name:=name) (name2:=name2) (by omega)).2;have hk2:a.2≠(AK f to name2).1.2:=fun e=>hne' (Prod.ext (by rw[ha,hd];omega) e);rw[bC hk2,Nr,Nr];exact hn
 rw[Nr,Nr];exact hn
theorem SpcV.keep{s:Spc}(hs:SpcV s){g:AR}(hv:FlsV g)(hl:g.length=s.files.length)(hd:∀a,(CS s a).isSome=true→AU s.files a=true→AU g a=true):SpcV ⟨g,s.mounts⟩:=by
 refine⟨hv,by show 0<g.length;rw[hl];exact hs.pos,fun i m hm=>?_⟩;have h:=hs.mnt i m hm;refine⟨h.dev1,by rw[hl];exact h.dev2,h.fresh,hd _ ?_ h.dir,h.there,h.free⟩;unfold CS;rw[Option.isSome_map,List.find?_isSome];exact⟨m,Ag hm,by simp⟩
structure SysV(s:Syst)(m:Nat):Prop where
 spc:SpcV s.spc
 few:s.spc.mounts.length≤m
 tab:TabB s.tab
 num:DZ s.tab
theorem SysV.mono{s:Syst}{m n:Nat}(h:SysV s m)(hm:m≤n):SysV s n:=⟨h.spc,Nat.le_trans h.few hm,h.tab,h.num⟩
def FT(w w':Syst):Prop:=∀m,SysV w m→SysV w' (m+1)
theorem Ot{t:Tab}(ht:TabB t){p:Prc}(hp:p.opens.length≤8):TabB (JQ t p):=by
 refine⟨by simpa[JQ]using ht.few,fun q hq=>?_,ht.next,ht.nextS⟩;simp only[JQ,List.mem_map]at hq;obtain⟨x,hx,rfl⟩:=hq;split
 ·exact hp
 exact ht.opens x hx
theorem tW{t:Tab}(ht:TabB t)(pid:Int):TabB (Gy t pid).1:=by
 unfold Gy;split
 ·exact KQ
 split
 ·exact KQ
 rename_i c;refine⟨?_,fun q hq=>?_,?_,ht.nextS⟩
 ·show(t.ps++[_]).length≤16;rw[List.length_append,List.length_singleton];omega
 ·rcases List.mem_append.1 hq with hq|hq
  ·exact ht.opens q hq
  rw[List.mem_singleton]at hq;subst hq;exact Jt ht pid
 have:=ht.next;show t.next+1≤1073741824;omega
theorem bF{t:Tab}(ht:TabB t)(pid:Int):TabB (Jm t pid).1:=by
 unfold Jm;split
 ·exact KQ
 split
 ·exact KQ
 refine⟨?_,fun q hq=>?_,ht.next,ht.nextS⟩
 ·show((t.ps.filter _).map _).length≤16;rw[List.length_map];exact Nat.le_trans (List.length_filter_le _ _) ht.few
 have hq:q∈(t.ps.filter fun p=>decide (p.pid≠pid)).map (Jl pid):=hq;rw[List.mem_map]at hq;obtain⟨x,hx,rfl⟩:=hq;have h8:=ht.opens x (List.mem_filter.1 hx).1;unfold Jl;split
 ·exact h8
 exact h8
theorem tX{t:Tab}(ht:TabB t)(pid u:Int):TabB (Jn t pid u).1:=by
 unfold Jn
 repeat' split
 all_goals first|exact KQ|exact Ot ht (Jt ht pid)
theorem tY{t:Tab}(ht:TabB t)(pid u:Int):TabB (Jo t pid u).1:=by
 unfold Jo
 repeat' split
 all_goals first|exact KQ|exact Ot ht (Jt ht pid)
theorem tZ{t:Tab}(ht:TabB t)(pid u:Int):TabB (GY t pid u).1:=by
 unfold GY
 repeat' split
 all_goals first|exact KQ|skip
 rename_i c;have h:=Ot ht (p:={AQ t pid with auid:=u,ses:=t.nextS}) (Jt ht pid);refine⟨h.few,h.opens,h.next,?_⟩;have:=ht.nextS;show t.nextS+1≤1073741824;omega
theorem uA{t:Tab}(ht:TabB t)(pid fd:Int):TabB (Kn t pid fd).1:=by
 unfold Kn
 repeat' split
 all_goals first|exact KQ|skip
 exact Ot ht (Nat.le_trans (List.length_filter_le _ _) (Jt ht pid))
theorem uB{t:Tab}(ht:TabB t)(pid:Int)(a:A9):TabB (LF t pid a).1:=by
 unfold LF;split
 ·exact KQ
 exact Ot ht (Jt ht pid)
theorem uC{t:Tab}(ht:TabB t)(pid:Int)(a b:AE):TabB (LG t pid a b).1:=by
 unfold LG;split
 ·exact KQ
 exact Ot ht (Jt ht pid)
theorem uD{t:Tab}(ht:TabB t)(pid target:Int)(b:Bool):TabB (JR t pid target b).1:=by
 unfold JR
 repeat' split
 all_goals first|exact KQ|exact bF ht _|exact ht
theorem Lr:DZ EE:=⟨Int.le_refl _,Int.le_refl _⟩
theorem uE{t:Tab}(ht:DZ t)(pid:Int):DZ (Gy t pid).1:=by
 unfold Gy
 repeat' split
 all_goals first|exact Lr|(have h1:=ht.1;have h2:=ht.2;exact⟨by show 0≤t.next+1;omega,h2⟩)
theorem bG{t:Tab}(ht:DZ t)(pid:Int):DZ (Jm t pid).1:=by
 unfold Jm
 repeat' split
 all_goals first|exact Lr|exact ht
theorem uF{t:Tab}(ht:DZ t)(pid u:Int):DZ (Jn t pid u).1:=by
 unfold Jn
 repeat' split
 all_goals first|exact Lr|exact ht
theorem uG{t:Tab}(ht:DZ t)(pid u:Int):DZ (Jo t pid u).1:=by
 unfold Jo
 repeat' split
 all_goals first|exact Lr|exact ht
theorem uH{t:Tab}(ht:DZ t)(pid u:Int):DZ (GY t pid u).1:=by
 unfold GY
 repeat' split
 all_goals first|exact Lr|(have h1:=ht.1;have h2:=ht.2;exact⟨h1,by show 0≤t.nextS+1;omega⟩)
theorem uJ{t:Tab}(ht:DZ t)(pid fd:Int):DZ (Kn t pid fd).1:=by
 unfold Kn
 repeat' split
 all_goals first|exact Lr|exact ht
theorem uK{t:Tab}(ht:DZ t)(pid:Int)(a:A9):DZ (LF t pid a).1:=by
 unfold LF
 repeat' split
 all_goals first|exact Lr|exact ht
theorem uL{t:Tab}(ht:DZ t)(pid:Int)(a b:AE):DZ (LG t pid a b).1:=by
 unfold LG
 repeat' split
 all_goals first|exact Lr|exact ht
theorem uM{t:Tab}(ht:DZ t)(pid target:Int)(b:Bool):DZ (JR t pid target b).1:=by
 unfold JR
 repeat' split
 all_goals first|exact Lr|exact bG ht _|exact ht
theorem uN{t:Tab}(ht:DZ t)(pid:Int)(a:A9)(fl:Int):DZ (GZ t pid a fl).1:=by
 unfold GZ
 repeat' split
 all_goals first|exact Lr|exact ht
theorem bH{w:Wrk}{R:Tab×Int}(h:DZ w.s.tab)(hR:DZ R.1):DZ (CN w R).1.s.tab:=by
 unfold CN;split
 ·exact hR
 exact h
theorem KT(s:Syst):FT s s:=fun _ h=>h.mono (Nat.le_succ _)
theorem MJ{w:Wrk}{R:Tab×Int}(hR:∀m,SysV w.s m→TabB R.1∧DZ R.1):FT w.s (CN w R).1.s:=by
 intro m h;refine⟨by rw[Um];exact h.spc,by rw[Um];exact Nat.le_trans h.few (Nat.le_succ _),Zr h.tab (hR m h).1,bH h.num (hR m h).2⟩
theorem Ou{w:Wrk}{R:FH}(hO:SpcV w.s.spc→Nd w.s.spc.files R)(hd:R.2.2=0→SpcV w.s.spc→∀a,(CS w.s.spc a).isSome=true→AU w.s.spc.files a=true→AU R.1 a=true):FT w.s (Bc w R).1.s:=by
 intro m h;unfold Bc;split
 ·rename_i h0;obtain⟨k1,k2⟩:=hO h.spc h0;exact⟨h.spc.keep k1 k2 (hd h0 h.spc),Nat.le_trans h.few (Nat.le_succ _),h.tab,h.num⟩
 exact h.mono (Nat.le_succ _)
theorem Uy(w:Wrk)(i:Nat)(n:Nod):FT w.s (D0 w i n).1.s:=by
 unfold D0;split
 ·rename_i h0;exact Ou (w:=w) (R:=Fq w i n) (fun h=>Xp h.files _ _ _) fun h0 _ a _ ha=>tQ h0 ha
 exact KT _
theorem uO(w:Wrk)(i:Nat)(n:Nod):(D0 w i n).1.s.spc.mounts=w.s.spc.mounts:=by
 unfold D0;split
 ·show(Bc w _).1.s.spc.mounts=_;unfold Bc;split<;>rfl
 rfl
theorem bJ{w w':Wrk}(hw:FT w'.s w.s)(hmnt:w.s.spc.mounts=w'.s.spc.mounts)(a:A9):FT w'.s (LH w a).1.s:=by
 intro m h;have h2:=hw m h;have hspc:(LH w a).1.s.spc=w.s.spc:=Um _ _;refine⟨by rw[hspc];exact h2.spc,by rw[hspc,hmnt];exact Nat.le_trans h.few (Nat.le_succ _),?_,?_⟩
 ·unfold LH;exact Zr (w:=Ro w _) h2.tab (qJ h2.tab _ _ _)
 unfold LH;exact bH (w:=Ro w _) h2.num (uN h2.num _ _ _)
theorem uP(w:Wrk):FT w.s (Cn w).1.s:=by
 unfold Cn
 repeat' split
 all_goals first|exact KT _|exact Uy w _ _|exact bJ (KT _) rfl _|exact bJ (Uy w _ _) (uO _ _ _) _
theorem uQ(w:Wrk):FT w.s (G6 w).1.s:=by
 unfold G6
 repeat' split
 all_goals first|exact KT _|skip
 exact Ou (w:=w) (R:=Ew w.s.spc.files _ _ _) (fun h=>Xn h.files _ _ _) fun h0 _ a _ ha=>tR h0 ha
theorem bK{w:Wrk}{R:FH}(h:FT w.s (Bc w R).1.s):FT w.s (KK w R).1.s:=by
 unfold KK;split
 ·exact KT _
 exact h
theorem uR(w:Wrk):FT w.s (Ey w).1.s:=by
 unfold Ey
 repeat' split
 all_goals first|exact KT _|skip
 ·exact bK (Ou (fun h=>jK h.files _ _) fun h0 _ a _ ha=>tS h0 ha)
 rename_i c _;refine bK (Ou (fun h=>jL h.files _ _) fun h0 _ a hc ha=>tT h0 ha ?_);rintro rfl;refine c ?_;unfold Jq;rw[hc];rfl
theorem uS{w:Wrk}{R:FH}{x:A9}(h:FT w.s (Bc w R).1.s):FT w.s (Lh w R x).1.s:=by
 unfold Lh
 repeat' split
 all_goals first|exact KT _|exact h
theorem uT(w:Wrk):FT w.s (G7 w).1.s:=by
 unfold G7
 repeat' split
 all_goals first|exact KT _|skip
 rename_i c;refine uS (Ou (fun h=>Xr h.files _ _ _ _) fun h0 _ a hc ha=>tV h0 ha fun e1 e2 e3=>c ⟨e1,e2,?_,?_⟩)
 ·rw[←e3];exact ha
 rw[←e3];unfold Jq;rw[hc];rfl
theorem uU{w:Wrk}(b:A9)(x y z:Int):FT w.s (Li w (Fy w.s.spc.files b x y z)).1.s:=by
 unfold Li;exact Ou (fun h=>jM h.files _ _ _ _) fun h0 _ a _ ha=>tU h0 ha
theorem uV(w:Wrk):FT w.s (Ga w).1.s:=by
 unfold Ga
 repeat' split
 all_goals first|exact KT _|exact uU _ _ _ _
theorem uW(w:Wrk)(dev:Int)(a:A9):FT w.s (Lj w (EP w.s.spc dev a)).1.s:=by
 intro m h;unfold Lj;split
 ·rename_i h0;obtain⟨k1,k2⟩:=jV h.spc dev a h0;refine⟨k1,?_,h.tab,h.num⟩;show(EP w.s.spc dev a).1.mounts.length≤m+1;rw[k2];have:=h.few;simp only[List.length_append,List.length_singleton];omega
 exact h.mono (Nat.le_succ _)
theorem uX(w:Wrk)(dev:Int):FT w.s (Ll w (J4 w.s.spc dev)).1.s:=by
 intro m h;unfold Ll;split
 ·rename_i h0;obtain⟨k1,k2⟩:=mV h.spc dev h0;refine⟨k1,?_,h.tab,h.num⟩;show(J4 w.s.spc dev).1.mounts.length≤m+1;rw[k2];exact Nat.le_trans (List.length_filter_le _ _) (Nat.le_trans h.few (Nat.le_succ _))
 exact h.mono (Nat.le_succ _)
theorem uY(w:Wrk):FT w.s (Dw w).1.s:=by
 unfold Dw
 repeat' split
 all_goals first|exact KT _|exact uW w _ _|exact MJ (fun m h=>⟨uC h.tab _ _ _,uL h.num _ _ _⟩)|exact MJ (fun m h=>⟨uB h.tab _ _,uK h.num _ _⟩)
theorem uZ(w:Wrk):FT w.s (Gb w).1.s:=by
 unfold Gb
 repeat' split
 all_goals first|exact KT _|exact Uy w _ _
theorem v6(w:Wrk):FT w.s (Hj w).1.s:=by
 unfold Hj
 repeat' split
 all_goals first|exact KT _|exact uX w _
theorem v7(w:Wrk):FT w.s (FO w).1.s:=by
 unfold FO
 repeat' split
 all_goals first
  |exact KT _
  |exact v6 w
  |exact MJ (w:=Of w _) (R:=((Gy w.s.tab w.p.pid).1,(Gy w.s.tab w.p.pid).2.2)) (fun m h=>⟨tW h.tab _,uE h.num _⟩)
  |exact MJ (fun m h=>⟨bF h.tab _,bG h.num _⟩)
  |exact MJ (fun m h=>⟨tX h.tab _ _,uF h.num _ _⟩)
  |exact MJ (fun m h=>⟨tY h.tab _ _,uG h.num _ _⟩)
  |exact MJ (fun m h=>⟨tZ h.tab _ _,uH h.num _ _⟩)
  |exact MJ (fun m h=>⟨uA h.tab _ _,uJ h.num _ _⟩)
  |exact MJ (fun m h=>⟨uD h.tab _ _ _,uM h.num _ _ _⟩)
theorem v8(w:Wrk):FT w.s (BW w).1.s:=by
 unfold BW
 repeat' split
 all_goals first|exact uP w|exact uQ w|exact uR w|exact uT w|exact uV w|exact uY w|exact uZ w|exact v7 w
theorem Q8{s:Syst}{m:Nat}(h:SysV s m)(pid:Int)(c:Cal):SysV (EZ s pid c).1 (m+1):=by
 have ha:=v8 (LJ s pid c) m h;unfold EZ
 repeat' split
 all_goals first|exact h.mono (Nat.le_succ _)|exact ha
theorem v9(a:A9):TabB (OZ a):=⟨by show(1:Nat)≤16;decide,fun p hp=>by
 simp only[OZ,List.mem_singleton]at hp;subst hp
 exact BK _,by show(2:Int)≤1073741824;decide,by show(1:Int)≤1073741824;decide⟩
theorem vA(a:A9):DZ (OZ a):=⟨by show(0:Int)≤2;decide,by show(0:Int)≤1;decide⟩
theorem vB{n:Int}(h1:1≤n)(h2:n≤3):SysV (KL n).1 0:=by
 unfold KL;have h:=Xv h1 h2;split
 ·rename_i c;exfalso;refine c ?_;unfold GQ;split
  ·omega
  rfl
 exact⟨⟨h.1,h.2,fun i m hm=>by cases hm⟩,BK _,v9 _,vA _⟩
end Go.Proofs.YtbgnigjfkbmceaaGreatDoor
