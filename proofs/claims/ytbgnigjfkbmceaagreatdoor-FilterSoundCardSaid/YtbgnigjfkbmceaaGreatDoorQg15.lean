/-
  Part 15 of the proof of FilterSoundP: what the statement's proof uses of the texts in wip/tpl.
-/
import Derived.Test.YtbgnigjfkbmceaaGreatDoorQg14
open Go.Proofs.Tryz (prog)
set_option maxRecDepth 10000
set_option maxHeartbeats 4000000
set_option linter.unusedVariables false
set_option linter.unusedSimpArgs false
namespace Go.Proofs.YtbgnigjfkbmceaaGreatDoor
open Go.RowKit
def PB:Rul:=⟨2,2,1,[⟨3,1,0,⟨#[]⟩,0⟩],0,⟨#[]⟩,0,⟨#[]⟩⟩
def PC:Rul:=⟨3,1,1,[],0,⟨#[]⟩,0,⟨#[107]⟩⟩
def Fr:List Rul:=[PB,PC]
def Ge:Pol:=⟨Fr,[Dp,Dp]⟩
def JW(u:Int):Ctx:={eZ u with audited:=true}
theorem WN:∀r∈Fr,DJ r:=by
 intro r hr;simp[Fr]at hr;rcases hr with rfl|rfl<;>exact⟨by decide,by decide,by decide,by decide⟩
theorem gN:∀r∈Fr,r.watch=0:=by
 intro r hr;simp[Fr]at hr;rcases hr with rfl|rfl<;>rfl
theorem gO(s:Spc):JC s Fr=(Ge,0):=by
 have hp:∀r∈Fr,CD s r=(Dp,0):=by
  intro r hr;simp[Fr]at hr;rcases hr with rfl|rfl<;>exact if_pos rfl
 rw[Vm (by decide) fun r hr=>by rw[hp r hr]]
 have:Ey s Fr=[Dp,Dp]:=by
  simp[Ey,Fr,hp PB (by simp[Fr]),hp PC (by simp[Fr])]
 rw[this];rfl
theorem gP(s:Spc):K7 s Ge (JW 0)=⟨false,0,⟨#[]⟩⟩:=by
 rw[K7,if_neg (by decide),if_pos (by decide)];decide
theorem gQ(s:Spc):K7 s Ge (JW 5)=⟨true,1,⟨#[107]⟩⟩:=by
 rw[K7,if_neg (by decide),if_neg (by decide),PA];rw[show Gd s Ge (JW 5).items=[false,false] by simp[Gd,Ge,Fr,PB,PC,Mw]];decide
theorem gR:(Hg 1).2=0:=by decide+kernel
section
theorem WO:AFn prog 34 [] (fun x=>x= .v (.bool true)):=by
 have hnew:AFn prog 60 [.v (.int .i64 1)] (fun r=>r= .tup [.agg (V5 (Hg 1).1), .v (.int .i64 0)]):=(dQ 1).mono fun r hr=>by rw[hr,Ow,gR]
 have hv:=Vn.1.v;have hm:=Vn.1.m;obtain⟨S0,hS0⟩:∃S,S=(Hg 1).1:=⟨_,rfl⟩;rw[←hS0]at hnew hv hm;clear hS0;have hmm:S0.spc.mounts.length≤1000:=by omega
 have ht:∀r∈Ge.rules,r.tests.length≤1000:=fun r hr=>(WN r hr).2.2.2;have hload:AFn prog 41 [.sl 8 (Fr.map AJ) none, .agg (AQ S0.spc)] (fun r=>r= .tup [.agg (Au Ge), .v (.int .i64 0)]):=(fG S0.spc Fr (by decide) WN fun r h=>fF _ r (gN r h)).mono fun r hr=>by rw[hr,gO];rfl
 have hd0:AFn prog 26 [.agg (Au Ge), .agg (AQ S0.spc), .agg (EB (JW 0) Lr)] (fun r=>r= .agg [.v (.bool false), .v (.int .i64 0), .v (.string ⟨#[]⟩)]):=(WM S0.spc Ge (JW 0) Lr (hv.b hmm) (by decide) rfl ht (by decide)).mono fun r hr=>by rw[hr,gP];rfl
 have hd5:AFn prog 26 [.agg (Au Ge), .agg (AQ S0.spc), .agg (EB (JW 5) Lr)] (fun r=>r= .agg [.v (.bool true), .v (.int .i64 1), .v (.string ⟨#[107]⟩)]):=(WM S0.spc Ge (JW 5) Lr (hv.b hmm) (by decide) rfl ht (by decide)).mono fun r hr=>by rw[hr,gQ];rfl
 refine enter Tryz.func34 rfl rfl rfl rfl rfl 0 rfl ?_;refine Df (h:=w_ (?_));refine A3 rfl (AA (hnew) ?_);rintro r rfl;refine Dt (h:=B5 (h:=w_ (Ck (h:=Cd (h:=?_)))));refine A3 rfl (Jl (y:= .agg (AJ PB)) (F5 ⟨rfl,rfl⟩) ?_);refine A3 rfl (Jl (y:= .agg (AJ PC)) (F5 ⟨rfl,rfl⟩) ?_);refine Cd (h:=BJ (h:=AN (h:=?_)));refine A3 rfl (AA (hload) ?_);rintro r rfl;refine Dt (h:=B5 (h:=Be (h:=AN (h:=Ck (h:=?_)))));refine A3 rfl (Jl (y:= .agg (EB (JW 0) Lr)) (F5 ⟨rfl,rfl⟩) ?_);refine A3 rfl (AA (hd0) ?_);rintro r rfl;refine CY (h:=Be (h:=AN (h:=Ck (h:=?_))));refine A3 rfl (Jl (y:= .agg (EB (JW 5) Lr)) (F5 ⟨rfl,rfl⟩) ?_);refine A3 rfl (AA (hd5) ?_);rintro r rfl;refine CY (h:=Aa (h:=DT (h:=?_)));refine AF true rfl rfl (fun hb1 hc1=>?_) (fun hb1 hc1=>?_)
 ·refine AN (h:=Dd (h:=BY (h:=?_)));refine AF true rfl rfl (fun hb2 hc2=>?_) (fun hb2 hc2=>?_)
  ·refine CW (h:=BY (h:=?_));refine AF true rfl rfl (fun hb3 hc3=>?_) (fun hb3 hc3=>?_)
   ·refine AN (h:=BY (h:=?_));refine AF true rfl rfl (fun hb4 hc4=>?_) (fun hb4 hc4=>?_)
    ·refine CW (h:=BY (h:=?_));refine AF true rfl rfl (fun hb5 hc5=>?_) (fun hb5 hc5=>?_)
     ·refine CW (h:=FN (h:=?_));refine A4 ?_
      first|rfl|(exfalso;first|contradiction|omega)|exact vb (by simp)
     refine Cu (h:=At (h:=?_));refine A4 ?_
     first|rfl|(exfalso;first|contradiction|omega)|exact vb (by simp)
    refine EZ (h:=Cu (h:=At (h:=?_)));refine A4 ?_
    first|rfl|(exfalso;first|contradiction|omega)|exact vb (by simp)
   refine B1 (h:=BQ (h:=EZ (h:=Cu (h:=At (h:=?_)))));refine A4 ?_
   first|rfl|(exfalso;first|contradiction|omega)|exact vb (by simp)
  refine EZ (h:=B1 (h:=BQ (h:=EZ (h:=Cu (h:=At (h:=?_))))));refine A4 ?_
  first|rfl|(exfalso;first|contradiction|omega)|exact vb (by simp)
 refine EZ (h:=EZ (h:=B1 (h:=BQ (h:=EZ (h:=Cu (h:=a_ (h:=?_)))))));refine e_ (Ax (?_));refine A4 ?_
 first|rfl|(exfalso;first|contradiction|omega)|exact vb (by simp)
end
theorem CU:RowF 8 AJ:=⟨fun _=>rfl,fun x y h=>by simp[AJ]at h;rcases h with h|h|h|h|h|h|h|h<;>first|exact .inl ⟨_,h⟩|exact .inr ⟨_,_,h⟩,by decide⟩
theorem DO:RowF 6 BR:=⟨fun _=>rfl,fun x y h=>by simp[BR]at h;rcases h with h|h|h|h|h|h<;>exact .inl ⟨_,h⟩,by decide⟩
def DP(n i m j cap cap1:Nat):List AV:=[.bs i 0 8 n cap, .bs j 0 6 m cap1]
theorem gS{bx:List (List AV)}{n:Nat}(hn:bx.length=n)(l:List Rul)(cap:Nat):Back bx [] [LB 8 AJ l cap] (bx++[LB 8 AJ l cap]):=by
 subst hn;have:=VA (bx:=bx) (is:=[]) (bc:=[LB 8 AJ l cap]) List.nodup_nil (by simp) (by simp)
 simpa[Ex,RK CU]using this
theorem gT{bx:List (List AV)}{n:Nat}(hn:bx.length=n)(p:Pol)(a b cap cap1:Nat):Back bx [] [Au p,DP a 2 b 3 cap cap1,LB 8 AJ p.rules cap,LB 6 BR p.wats cap1] (bx++[Au p,DP a (n+2) b (n+3) cap cap1,LB 8 AJ p.rules cap,LB 6 BR p.wats cap1]):=by
 subst hn;have:=VA (bx:=bx) (is:=[]) (bc:=[Au p,DP a 2 b 3 cap cap1,LB 8 AJ p.rules cap,LB 6 BR p.wats cap1]) List.nodup_nil (by simp) (by simp);have e1:DR (F2 [] bx.length) (Au p)=Au p:=rfl;have e2:DR (F2 [] bx.length) (DP a 2 b 3 cap cap1)=DP a (bx.length+2) b (bx.length+3) cap cap1:=by simp[DR,DP,Ek,F2]
 simpa[Ex,RK CU,RK DO,e1,e2]using this
section
theorem gU(l:List Rul)(h1:l.length≤1000)(ht:∀r∈l,r.tests.length≤1000)(h0:0<l.length):ACall prog 89 [.sl 8 (l.map AJ) none] [] (fun r b tk=>tk=[]∧∃cap,l.length≤cap∧r= .bs 0 0 8 l.length cap∧b=[LB 8 AJ l cap]):=by
 have JQ:∀{h:AH} {x:Rul},SrcA h 8 (.sl 8 [AJ x] none) 1 (AJ x):=fun{h x}=>by have:=SrcA.sl (h:=h) (sz:=8) [AJ x] none;simpa using this
 refine enter Tryz.func89 rfl rfl rfl rfl rfl 1 rfl ?_;refine Df (h:=Df (h:=D8 (h:=?_)));refine BX (fun m s=>∃(j:Nat) (acc:List Rul),j≤l.length∧m=l.length - j∧l.take j=acc∧((acc=[]∧s=⟨look [(0, .sl 8 (l.map AJ) none),(3, .v (.slice none 0 0)),(4, .v (.int .i64 (j:Int)))],⟨[],[]⟩⟩)∨(∃cap,acc.length≤cap∧s=⟨look [(0, .sl 8 (l.map AJ) none),(3, .bs 0 0 8 acc.length cap),(4, .v (.int .i64 (j:Int)))],⟨[LB 8 AJ acc cap],[]⟩⟩))) (l.length) ((wk 0 0)) (⟨0,[],BO _,rfl,rfl, .inl ⟨rfl,rfl⟩⟩) ?_;rintro m s ⟨j,acc,hj,rfl,hacc,⟨rfl,rfl⟩|⟨cap,hcp,rfl⟩⟩
 ·skip
  refine Dv (h:=n_ (h:=BZ (h:=?_)));refine A6 rfl (fun hb1 hc1=>?_) (fun hb1 hc1=>?_)
  ·obtain⟨hlt,x,hy,hrow, -⟩:=Bw AJ hc1;have hk:l.take (j+1)=l.take j++[x]:=by rw[List.take_add_one,hy];rfl
   refine Bk (h:=BV (h:=DF (h:=Dh (h:=?_))));refine A3 rfl (AA (Lq x (ht x (AT hy))) ?_);rintro r rfl;refine Cd (h:=?_);refine A3 rfl (Po rfl rfl JQ (by omega) (by omega) ?_);rintro cap2 k bx2 hcp hs;rw[show AJ x++List.replicate ((cap2 - 1) * 8) AV.any=LB 8 AJ [x] cap2 from bT CU x cap2]at hs;obtain⟨rfl,rfl⟩:k=0∧bx2=[_]:=hs.eq;refine EG (h:=EH (h:=?_));exact⟨l.length - (j+1),_,by omega,⟨j+1,[x],by omega,rfl,(by rw[hk,hacc];rfl), .inr ⟨cap2,hcp,rfl⟩⟩,Aj 1 0 rfl rfl rfl (by simp[B4,Az,Aw,GZ CU]) ((by repeat (first|exact Sub.nil|refine Ak rfl rfl ?_|refine Ao ?_|refine Ap rfl ?_|refine Aq rfl ?_)))⟩
  exfalso;have e:=CS AJ hj hc1;rw[e,List.take_length]at hacc;rw[hacc]at h0;exact absurd h0 (by simp)
 skip
 refine Dv (h:=n_ (h:=BZ (h:=?_)));refine A6 rfl (fun hb2 hc2=>?_) (fun hb2 hc2=>?_)
 ·obtain⟨hlt,x,hy,hrow, -⟩:=Bw AJ hc2;have hk:l.take (j+1)=l.take j++[x]:=by rw[List.take_add_one,hy];rfl
  refine Bk (h:=BV (h:=DF (h:=Dh (h:=?_))));refine A3 rfl (AA (Lq x (ht x (AT hy))) ?_);rintro r rfl;refine Cd (h:=?_);refine A3 rfl (L6 rfl rfl rfl (by rw[Mq CU hcp];omega) JQ (by omega) (by have:=congrArg List.length hacc;simp at this;omega) ?_ ?_)
  ·rintro hg row2 bx2 hs hb;obtain rfl:=RN CU hs hg;obtain rfl:bx2=[_]:=hb.one.2;refine EG (h:=EH (h:=?_))
   first|exact⟨l.length - (j+1),_,by omega,⟨j+1,acc++[x],by omega,rfl,(by rw[hk,hacc]), .inr ⟨cap,by simpa using hg,by rw[List.length_append]<;>rfl⟩⟩,Aj 1 0 rfl rfl rfl (by simp[B4,Az,Aw,GZ CU]) ((by repeat (first|exact Sub.nil|refine Ak rfl rfl ?_|refine Ao ?_|refine Ap rfl ?_|refine Aq rfl ?_)))⟩|exact⟨l.length - (j+1),_,by omega,⟨j+1,acc++[x],by omega,rfl,(by rw[hk,hacc]), .inr ⟨cap3,by simpa using hcp3,by rw[List.length_append]<;>rfl⟩⟩,E3 [1] (fun i hi=>absurd hi (Nat.not_lt_zero i)) (by decide) (.cons _ _ _ _ _ rfl (DH CU _ _ _) .nil) (by repeat (first|exact SubK.nil|refine SubK.cons _ _ _ _ rfl (A9 _) ?_))⟩
  rintro hg cap3 k bx2 hcp3 hs;rw[show((LB 8 AJ acc cap).drop 0).take (acc.length * 8)++AJ x++List.replicate ((cap3 - (acc.length+1)) * 8) AV.any=LB 8 AJ (acc++[x]) cap3 from RM CU acc x cap cap3]at hs;obtain⟨rfl,rfl⟩:k=1∧bx2=[_,_]:=hs.eq;refine EG (h:=EH (h:=?_))
  first|exact⟨l.length - (j+1),_,by omega,⟨j+1,acc++[x],by omega,rfl,(by rw[hk,hacc]), .inr ⟨cap,by simpa using hg,by rw[List.length_append]<;>rfl⟩⟩,Aj 1 0 rfl rfl rfl (by simp[B4,Az,Aw,GZ CU]) ((by repeat (first|exact Sub.nil|refine Ak rfl rfl ?_|refine Ao ?_|refine Ap rfl ?_|refine Aq rfl ?_)))⟩|exact⟨l.length - (j+1),_,by omega,⟨j+1,acc++[x],by omega,rfl,(by rw[hk,hacc]), .inr ⟨cap3,by simpa using hcp3,by rw[List.length_append]<;>rfl⟩⟩,E3 [1] (fun i hi=>absurd hi (Nat.not_lt_zero i)) (by decide) (.cons _ _ _ _ _ rfl (DH CU _ _ _) .nil) (by repeat (first|exact SubK.nil|refine SubK.cons _ _ _ _ rfl (A9 _) ?_))⟩
 have e:=CS AJ hj hc2;refine Cg (h:=Aa (h:=At (h:=?_)));rw[e,List.take_length]at hacc;subst hacc;refine Ag (r:= .bs 0 0 8 l.length cap) none (h4:=(by simp[B4,Az,Aw,GZ CU])) (h5:=(A9 _)) (h6:=⟨rfl,cap,hcp,rfl,rfl⟩)
theorem gV(p:Pol)(h1:p.rules.length≤1000)(h2:p.wats.length=p.rules.length)(ht:∀r∈p.rules,r.tests.length≤1000)(h0:0<p.rules.length):ACall prog 45 [.agg (Au p)] [] (fun r b tk=>tk=[]∧∃cap cap1,p.rules.length≤cap∧p.wats.length≤cap1∧r= .agg (DP p.rules.length 2 p.wats.length 3 cap cap1)∧b=[Au p,DP p.rules.length 2 p.wats.length 3 cap cap1,LB 8 AJ p.rules cap,LB 6 BR p.wats cap1]):=by
 have hml:(p.wats.map BR).length=p.wats.length:=by simp
 have src:∀h:AH,SrcA h 6 (.sl 6 (p.wats.map BR) none) p.wats.length (p.wats.map BR).flatten:=fun h=>by rw[←hml];exact SrcA.sl _ _
 refine enter Tryz.func45 rfl rfl rfl rfl rfl 4 rfl ?_;refine w_ (b_ (h:=D4 (h:=e_ (q_ (Bz ([(0,Au p)]) 8 (h:=Ar 0 (h:=AD 1 (h:=Ar 3 (h:=AD 4 (h:=?_))))))))));refine c_ 2 rfl (El [] rfl (.cons _ _ _ _ _ rfl (A9 _) .nil) (by decide) .nil (gU p.rules h1 ht h0) ?_);rintro r bc tc ⟨rfl,cap,hcap,rfl,rfl⟩;refine⟨rfl,_,(gS (n:=2) rfl p.rules cap:Back _ [] _ [_,_,_]),?_⟩;refine o_ (h:=?_);refine c_ 5 rfl (Po rfl rfl (src _) (by omega) (by omega) ?_);rintro cap1 k bx2 hcp hs2;rw[show(p.wats.map BR).flatten++List.replicate ((cap1 - p.wats.length) * 6) AV.any=LB 6 BR p.wats cap1 by unfold LB Br;rw[hml]]at hs2;obtain⟨rfl,rfl⟩:k=3∧bx2=[_,_,_,_]:=hs2.eq;refine o_ (h:=Hq 6 (h:=?_));refine CG 7 (h:=z_ (h:=t_ (Ax (?_))));refine Ag (r:= .agg (DP p.rules.length 2 p.wats.length 3 cap cap1)) none (h4:=(by simp[B4,Az,Aw,GZ CU,GZ DO,Au,DP,Ek,F2])) (h5:=(A9 _)) (h6:=⟨rfl,cap,cap1,hcap,hcp,rfl,rfl⟩)
theorem gW:AFn prog 45 [.agg (Au Dq)] (fun r=>r= .agg (Au Dq)):=by
 have hc:AFn prog 89 [.sl 8 [] none] (fun r=>r= .sl 8 [] none):=Vh [] (by decide) (by simp);refine enter Tryz.func45 rfl rfl rfl rfl rfl 0 rfl ?_;refine w_ (b_ (h:=D4 (h:=e_ (q_ (Bz ([(0,Au Dq)]) 8 (h:=Ar 0 (h:=AD 1 (h:=Ar 3 (h:=AD 4 (h:=?_))))))))));refine c_ 2 rfl (AA (hc) ?_);rintro r rfl;refine o_ (h:=?_)
 first|refine c_ 5 rfl (FJ rfl rfl rfl (by simp[Dq]) (by repeat constructor) ?_)|refine c_ 5 rfl (GJ rfl rfl (by simp[Dq]) (by repeat constructor) ?_)
 refine o_ (h:=Hq 6 (h:=?_));refine CG 7 (h:=z_ (h:=t_ (Ax (?_))));refine Ag (r:= .agg (Au Dq)) none (h5:=(by repeat (first|exact A9 _|exact LeA.nil _|exact LeL.refl _|refine LeA.agg ?_|refine LeA.tup ?_|exact LeL.nil|refine LeL.cons ?_ ?_|exact LeA.any _))) (h6:=⟨rfl,rfl,rfl⟩)
end
theorem gX{n:AB}(h:Dl n=true):n.size≤12:=by
 unfold Dl at h;split at h
 ·cases h
 omega
theorem gY{s:Spc}{w:Wch}(h:Cx s w=true):w.name.size≤100:=by
 unfold Cx at h;split at h
 ·simp only[Bool.and_eq_true]at h;have:=gX h.2;omega
 split at h
 ·simp only[Bool.and_eq_true,decide_eq_true_eq]at h;rw[h.2];exact BO _
 cases h
theorem gZ{s:Spc}{r:Rul}{w:Wch}(h:DZ s r w=true):w.name.size≤100:=by
 unfold DZ at h;split at h
 ·rw[of_decide_eq_true h];exact BO _
 simp only[Bool.and_eq_true]at h;exact gY h.2
structure AskP(q:Pol):Prop where
 rl:q.rules.length≤1000
 wl:q.wats.length≤1000
 ins:∀r∈q.rules,DJ r
 nm:∀w∈q.wats,w.name.size≤100000
theorem PolOk.ask{s:Spc}{p:Pol}{n:Nat}(hv:SpcV s)(h:PolOk s p n)(hn:n≤900):AskP p:=by
 have h1:=h.lst.len;have h2:=h.len;refine⟨by omega,by omega,h.lst.ins,fun w hw=>?_⟩;rw[h.wat]at hw;obtain⟨r,hr,rfl⟩:=List.mem_map.1 hw;have:=gZ (Vx hv (h.ok r hr));omega
theorem AskP.wset{q:Pol}(h:AskP q){k:Nat}{w w':Wch}(hk:q.wats[k]?=some w)(hn:w'.name=w.name):AskP ⟨q.rules,q.wats.set k w'⟩:=
 ⟨h.rl,by show(q.wats.set k w').length≤1000;rw[List.length_set];exact h.wl,h.ins,fun x hx=>by
  rcases List.mem_or_eq_of_mem_set hx with e|e
  ·exact h.nm x e
  rw[e,hn];exact h.nm w (AT hk)⟩
theorem AskP.rset{q:Pol}(h:AskP q){k:Nat}{r:Rul}(hr:DJ r):AskP ⟨q.rules.set k r,q.wats⟩:=
 ⟨by show(q.rules.set k r).length≤1000;rw[List.length_set];exact h.rl,h.wl,fun x hx=>by
  rcases List.mem_or_eq_of_mem_set hx with e|e
  ·exact h.ins x e
  rw[e];exact hr,h.nm⟩
theorem AskP.tl{q:Pol}(h:AskP q):AskP ⟨q.rules,q.wats.drop 1⟩:=⟨h.rl,by show(q.wats.drop 1).length≤1000;have:=h.wl;simp;omega,h.ins,fun w hw=>h.nm w (List.mem_of_mem_drop hw)⟩
theorem AskP.two{q:Pol}(h:AskP q)(hl:q.rules.length≤900)(hl2:q.wats.length≤900){k:Nat}{r:Rul}{w:Wch}(hr:q.rules[k]?=some r)(hw:q.wats[k]?=some w):AskP ⟨q.rules++[r],q.wats++[w]⟩:=
 ⟨by show(q.rules++[r]).length≤1000;simp;omega,by show(q.wats++[w]).length≤1000;simp;omega,fun x hx=>by
  rcases List.mem_append.1 hx with e|e
  ·exact h.ins x e
  ·rw[List.mem_singleton.1 e];exact h.ins r (AT hr),fun x hx=>by
  rcases List.mem_append.1 hx with e|e
  ·exact h.nm x e
  rw[List.mem_singleton.1 e];exact h.nm w (AT hw)⟩
theorem Ei{a b c:List AV}{R:List Rul}{W:List Wch}{n m cap cap1:Nat}(hn:n=R.length)(hm:m=W.length)(h1:R.length≤cap)(h2:W.length≤cap1)(ha:F4 4 (Cs 4 [a,b,c,DP n 4 m 5 cap cap1,LB 8 AJ R cap,LB 6 BR W cap1] 1) a=a)(hb:F4 4 (Cs 4 [a,b,c,DP n 4 m 5 cap cap1,LB 8 AJ R cap,LB 6 BR W cap1] 1) b=b)(hc:F4 4 (Cs 4 [a,b,c,DP n 4 m 5 cap cap1,LB 8 AJ R cap,LB 6 BR W cap1] 1) c=c):
    (([a,b,c,DP n 4 m 5 cap cap1,LB 8 AJ R cap,LB 6 BR W cap1]:List (List AV)).take 4).map (F4 4 (Cs 4 [a,b,c,DP n 4 m 5 cap cap1,LB 8 AJ R cap,LB 6 BR W cap1] 1))=[a,b,c,Au ⟨R,W⟩]:=by
 subst hn;subst hm;show[_,_,_,_]=_;rw[ha,hb,hc]
 congr 4
 show[_,_]=Au ⟨R,W⟩;rw[RL CU rfl rfl h1,RL DO rfl rfl h2];rfl
section
theorem hC(l:List Int):AFn prog 8 [.sl 1 (l.map Gq) none] (fun r=>r= .v (.bool true)):=by
 refine enter Tryz.func8 rfl rfl rfl rfl rfl 0 rfl ?_;refine w_ (BJ (h:=?_));refine A3 rfl (X3 rfl (by repeat (first|exact Args.nil|refine Args.cons _ _ _ _ _ rfl (JE rfl) ?_|refine Args.cons _ _ _ _ _ rfl (KF _) ?_|refine Args.cons _ _ _ _ _ rfl (Jh _) ?_|refine Args.cons _ _ _ _ _ rfl (KK rfl (by repeat (first|exact A9 _|exact LeA.nil _|exact LeL.refl _|refine LeA.agg ?_|refine LeA.tup ?_|exact LeL.nil|refine LeL.cons ?_ ?_|exact LeA.any _))) ?_)) rfl (Zm l) (by repeat constructor) ?_)
 skip
 refine BJ (h:=?_);refine A3 rfl (AX 0 (hc:=R4 l _ (by omega)) (hR:=?_));rintro r a1 ha1 ⟨s,rfl,hv,hm⟩;refine AY ?_;have hmm:s.mounts.length≤1000:=by omega
 have hsb:=hv.b hmm;have hfne:=hv.files.ne;refine CY (h:=Aa (h:=l_ (h:=?_)));refine A3 rfl (AX 0 (hc:=fT l _ 6 s (by omega) (by omega) hv hmm) (hR:=?_));rintro r aP haP ⟨p,hp,rfl⟩;refine AY ?_;have hpa:=hp.ask hv (by decide);have hpw:=hp.len;have hpl:=hp.lst.len;have ht:∀r∈p.rules,r.tests.length≤1000:=fun r hr=>(hp.lst.ins r hr).2.2.2;rcases Nat.eq_zero_or_pos p.rules.length with h0|h0
 ·have hcp0:AFn prog 45 [.agg (Au p)] (fun r=>r= .agg (Au p)):=by rw[show p=Dq by cases p;simp at h0 hpw;simp[Dq,h0,Dr (hpw.trans (by simp[h0]))]];exact gW
  refine CY (h:=Be (h:=?_));refine A3 rfl (AA (hcp0) ?_);rintro r rfl;refine CY (h:=?_);refine C5 (fun S=>∃(q:Pol) (b2:Nat),b2≤1000000∧AskP q∧S=⟨look [(3, .bp 0 0),(4, .bp 1 0),(5, .bp 2 0),(6, .bp 3 0)],⟨[Cq l b2,AQ s,Au p,Au q],[]⟩⟩) ?_ ?_
  ·skip
   refine Ah (h:=n_ (h:=BJ (h:=Dk (h:=?_))));refine A6 rfl (fun hb1 hc1=>?_) (fun hb1 hc1=>?_)
   ·rw[List.length_map]at hc1;omega
   have hq:=hpa;refine As (Ab (?_))
   first|(refine⟨_,⟨_,_,?_,hq,rfl⟩,Aj 4 0 rfl rfl rfl rfl ((by repeat (first|exact Sub.nil|refine Ak rfl rfl ?_|refine Ao ?_|refine Ap rfl ?_|refine Aq rfl ?_)))⟩;omega)|(refine⟨_,⟨_,_,?_,hq,rfl⟩,Weak.trans (J9 3 rfl hd) (Aj 4 0 rfl rfl rfl rfl ((by repeat (first|exact Sub.nil|refine Ak rfl rfl ?_|refine Ao ?_|refine Ap rfl ?_|refine Aq rfl ?_))))⟩;omega)|(refine⟨_,⟨_,_,?_,hq,rfl⟩,Co 4 1 rfl (Ei ?_ ?_ ?_ ?_ rfl rfl rfl) (.cons _ _ _ _ rfl (A9 _) (.cons _ _ _ _ rfl (A9 _) (.cons _ _ _ _ rfl (A9 _) (.cons _ _ _ _ rfl (A9 _) .nil))))⟩<;>first|omega|assumption|(simp;done)|(simp;omega))|(refine⟨_,⟨_,_,?_,hq,rfl⟩,Weak.trans (E3 (l:=[(3, .bp 0 0),(4, .bp 1 0),(5, .bp 2 0),(6, .bp 3 0)]) [0,1,2,3,4,6] (fun i hi=>absurd hi (Nat.not_lt_zero i)) (by decide) (.cons _ _ _ _ _ rfl rfl (.cons _ _ _ _ _ rfl rfl (.cons _ _ _ _ _ rfl rfl (.cons _ _ _ _ _ rfl rfl (.cons _ _ _ _ _ rfl (DH CU _ _ _) (.cons _ _ _ _ _ rfl (DH DO _ _ _) .nil)))))) (by repeat (first|exact SubK.nil|refine SubK.cons _ _ _ _ rfl (A9 _) ?_))) (Co 4 1 rfl (Ei ?_ ?_ ?_ ?_ rfl rfl rfl) (.cons _ _ _ _ rfl (A9 _) (.cons _ _ _ _ rfl (A9 _) (.cons _ _ _ _ rfl (A9 _) (.cons _ _ _ _ rfl (A9 _) .nil)))))⟩<;>first|omega|assumption|(simp;done)|(simp;omega))
  rintro S ⟨q,b2,hb2,hqa,rfl⟩;refine Aa (h:=?_);refine A3 rfl (AX 0 (hc:=R4 l _ (by omega)) (hR:=?_));rintro r a2 ha2 ⟨y,rfl,hvy,hmy⟩;refine AY ?_;have hyb:=hvy.b (by omega);have hS1:AFn prog 44 [.agg (Au p), .agg (AQ s)] (fun r=>r= .v (.bool true)):=(Lv s p hsb hpa.rl hpa.ins).mono fun r hr=>by rw[hr,hp.sound hv]
  have hS2:=Lv s q hsb hqa.rl hqa.ins;have hS3:=P4 s q hsb hqa.rl hqa.ins hqa.nm;have hS4:=Lv y p hyb hpa.rl hpa.ins;have hS5:=P4 y p hyb hpa.rl hpa.ins hpa.nm;refine D4 (h:=s_ (h:=e_ (q_ (Bz ([(1,AQ s),(2,Au p),(3,Au q),(4,AQ y)]) 25 (h:=AD 0 (h:=AD 1 (h:=?_)))))));refine BT 2 rfl (fun _ _=>AA (hS1) fun _ e=>⟨e,rfl⟩) ?_;refine Ac 3 (h:=?_);refine Fs (j:=3) rfl (fun hb2=>?_) (fun hb2=>?_)
  ·have hc2:=bp hb2;refine AD 4 (h:=AD 5 (h:=?_));refine BT 6 rfl (fun _ _=>AA (hS2) fun _ e=>⟨e,rfl⟩) ?_;refine AD 7 (h:=AD 8 (h:=?_));refine BT 9 rfl (fun _ _=>AA (hS3) fun _ e=>⟨e,rfl⟩) ?_;refine Fj 10 (h:=Fi 11 (h:=Ac 12 (h:=?_)));refine Fs (j:=12) rfl (fun hb3=>?_) (fun hb3=>?_)
   ·have hc3:=bp hb3;refine AD 13 (h:=AD 14 (h:=?_));refine BT 15 rfl (fun _ _=>AA (hS4) fun _ e=>⟨e,rfl⟩) ?_;refine AD 16 (h:=AD 17 (h:=?_));refine BT 18 rfl (fun _ _=>AA (hS5) fun _ e=>⟨e,rfl⟩) ?_;refine Fj 19 (h:=Fi 20 (h:=Ac 21 (h:=?_)));refine Fs (j:=21) rfl (fun hb4=>?_) (fun hb4=>?_)
    ·have hc4:=bp hb4;refine BT 22 rfl (fun _ _=>AA (WO) fun _ e=>⟨e,rfl⟩) ?_;refine Fi 23 (h:=BM 24 (h:=z_ (h:=t_ (Ax (?_)))));refine A4 ?_
     first|rfl|(exfalso;first|contradiction|omega|(simp_all;done))
    have hc4:=bp hb4;simp at hc4
   have hc3:=bp hb3;simp at hc3
  have hc2:=bp hb2;simp at hc2
 skip
 refine CY (h:=?_);refine C5 (fun S=>∃(cap cap1:Nat),p.rules.length≤cap∧p.wats.length≤cap1∧S=⟨look [(3, .bp 0 0),(4, .bp 1 0),(5, .bp 2 0),(6, .bp 3 0)],⟨[Cq l aP,AQ s,Au p,DP p.rules.length 4 p.wats.length 5 cap cap1,LB 8 AJ p.rules cap,LB 6 BR p.wats cap1],[]⟩⟩) ?_ ?_
 ·skip
  refine B2 (l_ (h:=?_));refine A3 rfl (El [] rfl (.cons _ _ _ _ _ rfl (A9 _) .nil) (by decide) .nil (gV p (by omega) hpw ht h0) ?_);rintro r bc tc ⟨rfl,cap,cap1,hcap,hcap1,rfl,rfl⟩;refine⟨rfl,_,(gT (n:=3) rfl p _ _ cap cap1:Back _ [] _ [_,_,_,_,_,_,_]),?_⟩;refine LA (h:=Bq (h:=?_));exact⟨_,⟨cap,cap1,hcap,hcap1,rfl⟩,E3 [0,1,2,7,5,6] (fun i hi=>absurd hi (Nat.not_lt_zero i)) (by decide) (.cons _ _ _ _ _ rfl rfl (.cons _ _ _ _ _ rfl rfl (.cons _ _ _ _ _ rfl rfl (.cons _ _ _ _ _ rfl rfl (.cons _ _ _ _ _ rfl (DH CU _ _ _) (.cons _ _ _ _ _ rfl (DH DO _ _ _) .nil)))))) (by repeat (first|exact SubK.nil|refine SubK.cons _ _ _ _ rfl (A9 _) ?_))⟩
 rintro S ⟨cap,cap1,hcap,hcap1,rfl⟩;refine C5 (fun S=>∃(q:Pol) (b2:Nat),b2≤1000000∧AskP q∧S=⟨look [(3, .bp 0 0),(4, .bp 1 0),(5, .bp 2 0),(6, .bp 3 0)],⟨[Cq l b2,AQ s,Au p,Au q],[]⟩⟩) ?_ ?_
 ·skip
  refine Ah (h:=?_);refine A3 rfl (Ph rfl ?_);refine BJ (h:=Dk (h:=?_));refine A6 rfl (fun hb5 hc5=>?_) (fun hb5 hc5=>?_)
  ·refine EJ (h:=?_);refine A3 rfl (AX 0 (hc:=Gn l _ (p.rules.length:Int) (by omega) (by omega)) (hR:=?_));rintro r a3 ha3 ⟨k3,rfl,p3,q3,o3⟩;refine AY ?_;obtain⟨k,rfl⟩:=Int.eq_ofNat_of_zero_le p3;have hkl:k<p.rules.length:=by omega
   obtain⟨rk,hrk⟩:∃y,p.rules[k]?=some y:=⟨_,BA hkl⟩;obtain⟨wk,hwk⟩:∃y,p.wats[k]?=some y:=⟨_,BA (by omega)⟩;refine BJ (h:=?_);refine A3 rfl (AX 0 (hc:=Gn l _ (6) (by omega) (by omega)) (hR:=?_));rintro r a4 ha4 ⟨k4,rfl,p4,q4,o4⟩;refine AY ?_;refine e_ (BL (B6 (h:=?_)));refine A6 rfl (fun hb6 hc6=>?_) (fun hb6 hc6=>?_)
   ·refine S7 (Co (l:=[(3, .bp 0 0),(4, .bp 1 0),(5, .bp 2 0),(6, .bp 3 0)]) 4 1 rfl (Ei rfl rfl hcap hcap1 rfl rfl rfl) (.cons _ _ _ _ rfl (A9 _) (.cons _ _ _ _ rfl (A9 _) (.cons _ _ _ _ rfl (A9 _) (.cons _ _ _ _ rfl (A9 _) .nil))))) ?_;have hq:=hpa.tl;have hd:LeL [.sl 8 (p.rules.map AJ) none, .sl 6 ((p.wats.map BR).drop 1) none] (Au ⟨p.rules,p.wats.drop 1⟩):=by rw[Au,List.map_drop];exact LeL.refl _
    refine B2 (AN (h:=?_));refine A3 rfl (S6 (l:=1) rfl rfl rfl (by simp;omega) ?_);refine Bm (h:=CP (Am (Ab (?_))))
    first|(refine⟨_,⟨_,_,?_,hq,rfl⟩,Aj 4 0 rfl rfl rfl rfl ((by repeat (first|exact Sub.nil|refine Ak rfl rfl ?_|refine Ao ?_|refine Ap rfl ?_|refine Aq rfl ?_)))⟩;omega)|(refine⟨_,⟨_,_,?_,hq,rfl⟩,Weak.trans (J9 3 rfl hd) (Aj 4 0 rfl rfl rfl rfl ((by repeat (first|exact Sub.nil|refine Ak rfl rfl ?_|refine Ao ?_|refine Ap rfl ?_|refine Aq rfl ?_))))⟩;omega)|(refine⟨_,⟨_,_,?_,hq,rfl⟩,Co 4 1 rfl (Ei ?_ ?_ ?_ ?_ rfl rfl rfl) (.cons _ _ _ _ rfl (A9 _) (.cons _ _ _ _ rfl (A9 _) (.cons _ _ _ _ rfl (A9 _) (.cons _ _ _ _ rfl (A9 _) .nil))))⟩<;>first|omega|assumption|(simp;done)|(simp;omega))|(refine⟨_,⟨_,_,?_,hq,rfl⟩,Weak.trans (E3 (l:=[(3, .bp 0 0),(4, .bp 1 0),(5, .bp 2 0),(6, .bp 3 0)]) [0,1,2,3,4,6] (fun i hi=>absurd hi (Nat.not_lt_zero i)) (by decide) (.cons _ _ _ _ _ rfl rfl (.cons _ _ _ _ _ rfl rfl (.cons _ _ _ _ _ rfl rfl (.cons _ _ _ _ _ rfl rfl (.cons _ _ _ _ _ rfl (DH CU _ _ _) (.cons _ _ _ _ _ rfl (DH DO _ _ _) .nil)))))) (by repeat (first|exact SubK.nil|refine SubK.cons _ _ _ _ rfl (A9 _) ?_))) (Co 4 1 rfl (Ei ?_ ?_ ?_ ?_ rfl rfl rfl) (.cons _ _ _ _ rfl (A9 _) (.cons _ _ _ _ rfl (A9 _) (.cons _ _ _ _ rfl (A9 _) (.cons _ _ _ _ rfl (A9 _) .nil)))))⟩<;>first|omega|assumption|(simp;done)|(simp;omega))
   refine B6 (h:=?_);refine A6 rfl (fun hb7 hc7=>?_) (fun hb7 hc7=>?_)
   ·refine Bz ([(1,AQ s),(2,Au p),(3,DP p.rules.length 4 p.wats.length 5 cap cap1)]) 10 (h:=Ar 0 (h:=AD 1 (h:=Ac 2 (h:=Ac 3 (h:=Ar 4 (h:=AD 5 (h:=?_)))))));refine c_ 6 rfl (AX 0 (hc:=K3 l _ s.files (by omega) hsb.files hfne) (hR:=?_));rintro r a5 ha5 ⟨fl,rfl⟩;refine AY ?_;have hq:=hpa.wset (w':={wk with file:=fl}) hwk rfl;refine o_ (h:=?_);refine BT 7 rfl (fun _ hS=>Cr (m:=k) rfl rfl rfl (by omega) ⟨rfl,rfl⟩) ?_;refine Ar 8 (h:=?_);refine GN 9 rfl (F1 rfl rfl rfl rfl rfl rfl (On DO (k:=4) (x':={wk with file:=fl}) hwk (by repeat constructor) (by simp[Bu,A8])) (by repeat constructor) ?_);refine o_ (h:=z_ (h:=Am (Ab (?_))))
    first|(refine⟨_,⟨_,_,?_,hq,rfl⟩,Aj 4 0 rfl rfl rfl rfl ((by repeat (first|exact Sub.nil|refine Ak rfl rfl ?_|refine Ao ?_|refine Ap rfl ?_|refine Aq rfl ?_)))⟩;omega)|(refine⟨_,⟨_,_,?_,hq,rfl⟩,Weak.trans (J9 3 rfl hd) (Aj 4 0 rfl rfl rfl rfl ((by repeat (first|exact Sub.nil|refine Ak rfl rfl ?_|refine Ao ?_|refine Ap rfl ?_|refine Aq rfl ?_))))⟩;omega)|(refine⟨_,⟨_,_,?_,hq,rfl⟩,Co 4 1 rfl (Ei ?_ ?_ ?_ ?_ rfl rfl rfl) (.cons _ _ _ _ rfl (A9 _) (.cons _ _ _ _ rfl (A9 _) (.cons _ _ _ _ rfl (A9 _) (.cons _ _ _ _ rfl (A9 _) .nil))))⟩<;>first|omega|assumption|(simp;done)|(simp;omega))|(refine⟨_,⟨_,_,?_,hq,rfl⟩,Weak.trans (E3 (l:=[(3, .bp 0 0),(4, .bp 1 0),(5, .bp 2 0),(6, .bp 3 0)]) [0,1,2,3,4,6] (fun i hi=>absurd hi (Nat.not_lt_zero i)) (by decide) (.cons _ _ _ _ _ rfl rfl (.cons _ _ _ _ _ rfl rfl (.cons _ _ _ _ _ rfl rfl (.cons _ _ _ _ _ rfl rfl (.cons _ _ _ _ _ rfl (DH CU _ _ _) (.cons _ _ _ _ _ rfl (DH DO _ _ _) .nil)))))) (by repeat (first|exact SubK.nil|refine SubK.cons _ _ _ _ rfl (A9 _) ?_))) (Co 4 1 rfl (Ei ?_ ?_ ?_ ?_ rfl rfl rfl) (.cons _ _ _ _ rfl (A9 _) (.cons _ _ _ _ rfl (A9 _) (.cons _ _ _ _ rfl (A9 _) (.cons _ _ _ _ rfl (A9 _) .nil)))))⟩<;>first|omega|assumption|(simp;done)|(simp;omega))
   refine B6 (h:=?_);refine A6 rfl (fun hb8 hc8=>?_) (fun hb8 hc8=>?_)
   ·refine Bz ([(1,AQ s),(2,Au p),(3,DP p.rules.length 4 p.wats.length 5 cap cap1)]) 8 (h:=Ar 0 (h:=AD 1 (h:=Ac 2 (h:=Ac 3 (h:=?_)))));refine c_ 4 rfl (AX 0 (hc:=Ci l _ (0) (2) (by omega) (by omega) (by omega) (by omega)) (hR:=?_));rintro r a6 ha6 ⟨kd,rfl,pd,qd⟩;refine AY ?_;have hq:=hpa.wset (w':={wk with kind:=kd}) hwk rfl;refine o_ (h:=?_);refine BT 5 rfl (fun _ hS=>Cr (m:=k) rfl rfl rfl (by omega) ⟨rfl,rfl⟩) ?_;refine Ar 6 (h:=?_);refine GN 7 rfl (F1 rfl rfl rfl rfl rfl rfl (On DO (k:=0) (x':={wk with kind:=kd}) hwk (by repeat constructor) (by simp[Bu])) (by repeat constructor) ?_);refine o_ (h:=z_ (h:=Am (Ab (?_))))
    first|(refine⟨_,⟨_,_,?_,hq,rfl⟩,Aj 4 0 rfl rfl rfl rfl ((by repeat (first|exact Sub.nil|refine Ak rfl rfl ?_|refine Ao ?_|refine Ap rfl ?_|refine Aq rfl ?_)))⟩;omega)|(refine⟨_,⟨_,_,?_,hq,rfl⟩,Weak.trans (J9 3 rfl hd) (Aj 4 0 rfl rfl rfl rfl ((by repeat (first|exact Sub.nil|refine Ak rfl rfl ?_|refine Ao ?_|refine Ap rfl ?_|refine Aq rfl ?_))))⟩;omega)|(refine⟨_,⟨_,_,?_,hq,rfl⟩,Co 4 1 rfl (Ei ?_ ?_ ?_ ?_ rfl rfl rfl) (.cons _ _ _ _ rfl (A9 _) (.cons _ _ _ _ rfl (A9 _) (.cons _ _ _ _ rfl (A9 _) (.cons _ _ _ _ rfl (A9 _) .nil))))⟩<;>first|omega|assumption|(simp;done)|(simp;omega))|(refine⟨_,⟨_,_,?_,hq,rfl⟩,Weak.trans (E3 (l:=[(3, .bp 0 0),(4, .bp 1 0),(5, .bp 2 0),(6, .bp 3 0)]) [0,1,2,3,4,6] (fun i hi=>absurd hi (Nat.not_lt_zero i)) (by decide) (.cons _ _ _ _ _ rfl rfl (.cons _ _ _ _ _ rfl rfl (.cons _ _ _ _ _ rfl rfl (.cons _ _ _ _ _ rfl rfl (.cons _ _ _ _ _ rfl (DH CU _ _ _) (.cons _ _ _ _ _ rfl (DH DO _ _ _) .nil)))))) (by repeat (first|exact SubK.nil|refine SubK.cons _ _ _ _ rfl (A9 _) ?_))) (Co 4 1 rfl (Ei ?_ ?_ ?_ ?_ rfl rfl rfl) (.cons _ _ _ _ rfl (A9 _) (.cons _ _ _ _ rfl (A9 _) (.cons _ _ _ _ rfl (A9 _) (.cons _ _ _ _ rfl (A9 _) .nil)))))⟩<;>first|omega|assumption|(simp;done)|(simp;omega))
   refine B6 (h:=?_);refine A6 rfl (fun hb9 hc9=>?_) (fun hb9 hc9=>?_)
   ·refine Bz ([(1,AQ s),(2,Au p),(3,DP p.rules.length 4 p.wats.length 5 cap cap1)]) 7 (h:=Ar 0 (h:=AD 1 (h:=Ac 2 (h:=Ac 3 (h:=?_)))));refine c_ 4 rfl (AX 0 (hc:=Vw l _ (by omega)) (hR:=?_));rintro r a7 ha7 ⟨x,hx,rfl⟩;refine AY ?_;have hq:=hpa.rset (k:=k) hx;refine o_ (h:=?_);refine BT 5 rfl (fun _ hS=>Cr (m:=k) rfl rfl rfl (by omega) ⟨rfl,rfl⟩) ?_;refine GN 6 rfl (F1 rfl rfl rfl rfl rfl rfl (bS CU (x':=x) hrk) (by repeat constructor) ?_);refine o_ (h:=z_ (h:=Am (Ab (?_))))
    first|(refine⟨_,⟨_,_,?_,hq,rfl⟩,Aj 4 0 rfl rfl rfl rfl ((by repeat (first|exact Sub.nil|refine Ak rfl rfl ?_|refine Ao ?_|refine Ap rfl ?_|refine Aq rfl ?_)))⟩;omega)|(refine⟨_,⟨_,_,?_,hq,rfl⟩,Weak.trans (J9 3 rfl hd) (Aj 4 0 rfl rfl rfl rfl ((by repeat (first|exact Sub.nil|refine Ak rfl rfl ?_|refine Ao ?_|refine Ap rfl ?_|refine Aq rfl ?_))))⟩;omega)|(refine⟨_,⟨_,_,?_,hq,rfl⟩,Co 4 1 rfl (Ei ?_ ?_ ?_ ?_ rfl rfl rfl) (.cons _ _ _ _ rfl (A9 _) (.cons _ _ _ _ rfl (A9 _) (.cons _ _ _ _ rfl (A9 _) (.cons _ _ _ _ rfl (A9 _) .nil))))⟩<;>first|omega|assumption|(simp;done)|(simp;omega))|(refine⟨_,⟨_,_,?_,hq,rfl⟩,Weak.trans (E3 (l:=[(3, .bp 0 0),(4, .bp 1 0),(5, .bp 2 0),(6, .bp 3 0)]) [0,1,2,3,4,6] (fun i hi=>absurd hi (Nat.not_lt_zero i)) (by decide) (.cons _ _ _ _ _ rfl rfl (.cons _ _ _ _ _ rfl rfl (.cons _ _ _ _ _ rfl rfl (.cons _ _ _ _ _ rfl rfl (.cons _ _ _ _ _ rfl (DH CU _ _ _) (.cons _ _ _ _ _ rfl (DH DO _ _ _) .nil)))))) (by repeat (first|exact SubK.nil|refine SubK.cons _ _ _ _ rfl (A9 _) ?_))) (Co 4 1 rfl (Ei ?_ ?_ ?_ ?_ rfl rfl rfl) (.cons _ _ _ _ rfl (A9 _) (.cons _ _ _ _ rfl (A9 _) (.cons _ _ _ _ rfl (A9 _) (.cons _ _ _ _ rfl (A9 _) .nil)))))⟩<;>first|omega|assumption|(simp;done)|(simp;omega))
   refine B6 (h:=?_);refine A6 rfl (fun hb10 hc10=>?_) (fun hb10 hc10=>?_)
   ·have hq:=hpa.two (by omega) (by omega) hrk hwk;refine C5 (fun S=>∃(cap2 b3:Nat),b3≤900000∧(p.rules++[rk]).length≤cap2∧S=⟨look [(3, .bp 0 0),(4, .bp 1 0),(5, .bp 2 0),(6, .bp 3 0),(8, .v (.int .i64 (k:Int)))],⟨[Cq l b3,AQ s,Au p,DP (p.rules.length+1) 4 p.wats.length 5 cap2 cap1,LB 8 AJ (p.rules++[rk]) cap2,LB 6 BR p.wats cap1],[]⟩⟩) ?_ ?_
    ·skip
     refine Bz ([(1,AQ s),(2,Au p),(3,DP p.rules.length 4 p.wats.length 5 cap cap1),(4,LB 8 AJ p.rules cap)]) 8 (h:=Ar 0 (h:=AD 1 (h:=Ar 2 (h:=AD 3 (h:=Ac 4 (h:=?_))))));refine BT 5 rfl (fun _ hS=>Cr (m:=k) rfl rfl rfl (by omega) ⟨rfl,rfl⟩) ?_;refine BT 6 rfl (fun _ hS=>J0 rfl (kb hS rfl) (by rw[Mq CU hcap];omega) (V6 CU hrk) ⟨rfl,rfl⟩) ?_;refine L9 7 (h:=?_);refine c_ 8 rfl (L6 rfl rfl rfl (by rw[Mq CU hcap];omega) JQ (by omega) (by omega) ?_ ?_)
     ·rintro hg row2 bx2 hs hb;obtain rfl:=RN CU hs hg;obtain rfl:bx2=[_,_,_,_,_,_]:=hb.one.2;refine o_ (h:=?_);refine c_ 9 rfl (FG rfl ?_);refine o_ (h:=?_);refine CG 10 (h:=z_ (h:=?_));refine Ab ?_
      first|(refine⟨_,⟨cap,_,?_,(by simpa using hg),rfl⟩,CK 6 0 (by simp[B4,Az,Aw,GZ CU,GZ DO,Au,DP,AQ,Cq])⟩;omega)|exact⟨_,⟨cap3,_,(by omega),(by simpa using hcp3),rfl⟩,E3 [0,1,2,3,6,5] (fun i hi=>absurd hi (Nat.not_lt_zero i)) (by decide) (.cons _ _ _ _ _ rfl rfl (.cons _ _ _ _ _ rfl rfl (.cons _ _ _ _ _ rfl rfl (.cons _ _ _ _ _ rfl rfl (.cons _ _ _ _ _ rfl (DH CU _ _ _) (.cons _ _ _ _ _ rfl (DH DO _ _ _) .nil)))))) (by repeat (first|exact SubK.nil|refine SubK.cons _ _ _ _ rfl (A9 _) ?_))⟩
     rintro hg cap3 k bx2 hcp3 hs;change SnocAt _ (((LB 8 AJ p.rules cap).drop 0).take (p.rules.length * 8)++AJ rk++List.replicate ((cap3 - (p.rules.length+1)) * 8) AV.any) k bx2 at hs;rw[RM CU p.rules rk cap cap3]at hs;obtain⟨rfl,rfl⟩:k=6∧bx2=[_,_,_,_,_,_,_]:=hs.eq;refine o_ (h:=?_);refine c_ 9 rfl (FG rfl ?_);refine o_ (h:=?_);refine CG 10 (h:=z_ (h:=?_));refine Ab ?_
     first|(refine⟨_,⟨cap,_,?_,(by simpa using hg),rfl⟩,CK 6 0 (by simp[B4,Az,Aw,GZ CU,GZ DO,Au,DP,AQ,Cq])⟩;omega)|exact⟨_,⟨cap3,_,(by omega),(by simpa using hcp3),rfl⟩,E3 [0,1,2,3,6,5] (fun i hi=>absurd hi (Nat.not_lt_zero i)) (by decide) (.cons _ _ _ _ _ rfl rfl (.cons _ _ _ _ _ rfl rfl (.cons _ _ _ _ _ rfl rfl (.cons _ _ _ _ _ rfl rfl (.cons _ _ _ _ _ rfl (DH CU _ _ _) (.cons _ _ _ _ _ rfl (DH DO _ _ _) .nil)))))) (by repeat (first|exact SubK.nil|refine SubK.cons _ _ _ _ rfl (A9 _) ?_))⟩
    rintro S ⟨cap2,b3,hb3,hcap2,rfl⟩;refine Bz ([(1,AQ s),(2,Au p),(3,DP (p.rules.length+1) 4 p.wats.length 5 cap2 cap1),(5,LB 6 BR p.wats cap1)]) 8 (h:=Ar 0 (h:=AD 1 (h:=Ar 2 (h:=AD 3 (h:=Ac 4 (h:=?_))))));refine BT 5 rfl (fun _ hS=>Cr (m:=k) rfl rfl rfl (by omega) ⟨rfl,rfl⟩) ?_;refine BT 6 rfl (fun _ hS=>J0 rfl (kb hS rfl) (by rw[Mq DO hcap1];omega) (V6 DO hwk) ⟨rfl,rfl⟩) ?_;refine L9 7 (h:=?_);refine c_ 8 rfl (L6 rfl rfl rfl (by rw[Mq DO hcap1];omega) JQ (by omega) (by omega) ?_ ?_)
    ·rintro hg row2 bx2 hs hb;obtain rfl:=RN DO hs hg;obtain rfl:bx2=[_,_,_,_,_,_]:=hb.one.2;refine o_ (h:=?_);refine c_ 9 rfl (FG rfl ?_);refine o_ (h:=?_);refine CG 10 (h:=z_ (h:=Am (Ab (?_))))
     first|(refine⟨_,⟨_,_,?_,hq,rfl⟩,Aj 4 0 rfl rfl rfl rfl ((by repeat (first|exact Sub.nil|refine Ak rfl rfl ?_|refine Ao ?_|refine Ap rfl ?_|refine Aq rfl ?_)))⟩;omega)|(refine⟨_,⟨_,_,?_,hq,rfl⟩,Weak.trans (J9 3 rfl hd) (Aj 4 0 rfl rfl rfl rfl ((by repeat (first|exact Sub.nil|refine Ak rfl rfl ?_|refine Ao ?_|refine Ap rfl ?_|refine Aq rfl ?_))))⟩;omega)|(refine⟨_,⟨_,_,?_,hq,rfl⟩,Co 4 1 rfl (Ei ?_ ?_ ?_ ?_ rfl rfl rfl) (.cons _ _ _ _ rfl (A9 _) (.cons _ _ _ _ rfl (A9 _) (.cons _ _ _ _ rfl (A9 _) (.cons _ _ _ _ rfl (A9 _) .nil))))⟩<;>first|omega|assumption|(simp;done)|(simp;omega))|(refine⟨_,⟨_,_,?_,hq,rfl⟩,Weak.trans (E3 (l:=[(3, .bp 0 0),(4, .bp 1 0),(5, .bp 2 0),(6, .bp 3 0)]) [0,1,2,3,4,6] (fun i hi=>absurd hi (Nat.not_lt_zero i)) (by decide) (.cons _ _ _ _ _ rfl rfl (.cons _ _ _ _ _ rfl rfl (.cons _ _ _ _ _ rfl rfl (.cons _ _ _ _ _ rfl rfl (.cons _ _ _ _ _ rfl (DH CU _ _ _) (.cons _ _ _ _ _ rfl (DH DO _ _ _) .nil)))))) (by repeat (first|exact SubK.nil|refine SubK.cons _ _ _ _ rfl (A9 _) ?_))) (Co 4 1 rfl (Ei ?_ ?_ ?_ ?_ rfl rfl rfl) (.cons _ _ _ _ rfl (A9 _) (.cons _ _ _ _ rfl (A9 _) (.cons _ _ _ _ rfl (A9 _) (.cons _ _ _ _ rfl (A9 _) .nil)))))⟩<;>first|omega|assumption|(simp;done)|(simp;omega))
    rintro hg cap3 k bx2 hcp3 hs;change SnocAt _ (((LB 6 BR p.wats cap1).drop 0).take (p.wats.length * 6)++BR wk++List.replicate ((cap3 - (p.wats.length+1)) * 6) AV.any) k bx2 at hs;rw[RM DO p.wats wk cap1 cap3]at hs;obtain⟨rfl,rfl⟩:k=6∧bx2=[_,_,_,_,_,_,_]:=hs.eq;refine o_ (h:=?_);refine c_ 9 rfl (FG rfl ?_);refine o_ (h:=?_);refine CG 10 (h:=z_ (h:=Am (Ab (?_))))
    first|(refine⟨_,⟨_,_,?_,hq,rfl⟩,Aj 4 0 rfl rfl rfl rfl ((by repeat (first|exact Sub.nil|refine Ak rfl rfl ?_|refine Ao ?_|refine Ap rfl ?_|refine Aq rfl ?_)))⟩;omega)|(refine⟨_,⟨_,_,?_,hq,rfl⟩,Weak.trans (J9 3 rfl hd) (Aj 4 0 rfl rfl rfl rfl ((by repeat (first|exact Sub.nil|refine Ak rfl rfl ?_|refine Ao ?_|refine Ap rfl ?_|refine Aq rfl ?_))))⟩;omega)|(refine⟨_,⟨_,_,?_,hq,rfl⟩,Co 4 1 rfl (Ei ?_ ?_ ?_ ?_ rfl rfl rfl) (.cons _ _ _ _ rfl (A9 _) (.cons _ _ _ _ rfl (A9 _) (.cons _ _ _ _ rfl (A9 _) (.cons _ _ _ _ rfl (A9 _) .nil))))⟩<;>first|omega|assumption|(simp;done)|(simp;omega))|(refine⟨_,⟨_,_,?_,hq,rfl⟩,Weak.trans (E3 (l:=[(3, .bp 0 0),(4, .bp 1 0),(5, .bp 2 0),(6, .bp 3 0)]) [0,1,2,3,4,6] (fun i hi=>absurd hi (Nat.not_lt_zero i)) (by decide) (.cons _ _ _ _ _ rfl rfl (.cons _ _ _ _ _ rfl rfl (.cons _ _ _ _ _ rfl rfl (.cons _ _ _ _ _ rfl rfl (.cons _ _ _ _ _ rfl (DH CU _ _ _) (.cons _ _ _ _ _ rfl (DH DO _ _ _) .nil)))))) (by repeat (first|exact SubK.nil|refine SubK.cons _ _ _ _ rfl (A9 _) ?_))) (Co 4 1 rfl (Ei ?_ ?_ ?_ ?_ rfl rfl rfl) (.cons _ _ _ _ rfl (A9 _) (.cons _ _ _ _ rfl (A9 _) (.cons _ _ _ _ rfl (A9 _) (.cons _ _ _ _ rfl (A9 _) .nil)))))⟩<;>first|omega|assumption|(simp;done)|(simp;omega))
   refine B6 (h:=?_);refine A6 rfl (fun hb11 hc11=>?_) (fun hb11 hc11=>?_)
   ·refine Bz ([(1,AQ s),(2,Au p),(3,DP p.rules.length 4 p.wats.length 5 cap cap1)]) 10 (h:=Ar 0 (h:=AD 1 (h:=Ac 2 (h:=Ac 3 (h:=Ar 4 (h:=AD 5 (h:=?_)))))));refine c_ 6 rfl (AX 0 (hc:=K3 l _ s.files (by omega) hsb.files hfne) (hR:=?_));rintro r a8 ha8 ⟨fl,rfl⟩;refine AY ?_;have hq:=hpa.wset (w':={wk with dir:=fl}) hwk rfl;refine o_ (h:=?_);refine BT 7 rfl (fun _ hS=>Cr (m:=k) rfl rfl rfl (by omega) ⟨rfl,rfl⟩) ?_;refine Ar 8 (h:=?_);refine GN 9 rfl (F1 rfl rfl rfl rfl rfl rfl (On DO (k:=1) (x':={wk with dir:=fl}) hwk (by repeat constructor) (by simp[Bu,A8])) (by repeat constructor) ?_);refine o_ (h:=z_ (h:=Am (Ab (?_))))
    first|(refine⟨_,⟨_,_,?_,hq,rfl⟩,Aj 4 0 rfl rfl rfl rfl ((by repeat (first|exact Sub.nil|refine Ak rfl rfl ?_|refine Ao ?_|refine Ap rfl ?_|refine Aq rfl ?_)))⟩;omega)|(refine⟨_,⟨_,_,?_,hq,rfl⟩,Weak.trans (J9 3 rfl hd) (Aj 4 0 rfl rfl rfl rfl ((by repeat (first|exact Sub.nil|refine Ak rfl rfl ?_|refine Ao ?_|refine Ap rfl ?_|refine Aq rfl ?_))))⟩;omega)|(refine⟨_,⟨_,_,?_,hq,rfl⟩,Co 4 1 rfl (Ei ?_ ?_ ?_ ?_ rfl rfl rfl) (.cons _ _ _ _ rfl (A9 _) (.cons _ _ _ _ rfl (A9 _) (.cons _ _ _ _ rfl (A9 _) (.cons _ _ _ _ rfl (A9 _) .nil))))⟩<;>first|omega|assumption|(simp;done)|(simp;omega))|(refine⟨_,⟨_,_,?_,hq,rfl⟩,Weak.trans (E3 (l:=[(3, .bp 0 0),(4, .bp 1 0),(5, .bp 2 0),(6, .bp 3 0)]) [0,1,2,3,4,6] (fun i hi=>absurd hi (Nat.not_lt_zero i)) (by decide) (.cons _ _ _ _ _ rfl rfl (.cons _ _ _ _ _ rfl rfl (.cons _ _ _ _ _ rfl rfl (.cons _ _ _ _ _ rfl rfl (.cons _ _ _ _ _ rfl (DH CU _ _ _) (.cons _ _ _ _ _ rfl (DH DO _ _ _) .nil)))))) (by repeat (first|exact SubK.nil|refine SubK.cons _ _ _ _ rfl (A9 _) ?_))) (Co 4 1 rfl (Ei ?_ ?_ ?_ ?_ rfl rfl rfl) (.cons _ _ _ _ rfl (A9 _) (.cons _ _ _ _ rfl (A9 _) (.cons _ _ _ _ rfl (A9 _) (.cons _ _ _ _ rfl (A9 _) .nil)))))⟩<;>first|omega|assumption|(simp;done)|(simp;omega))
   have hq:=hpa;refine As (Am (Ab (?_)))
   first|(refine⟨_,⟨_,_,?_,hq,rfl⟩,Aj 4 0 rfl rfl rfl rfl ((by repeat (first|exact Sub.nil|refine Ak rfl rfl ?_|refine Ao ?_|refine Ap rfl ?_|refine Aq rfl ?_)))⟩;omega)|(refine⟨_,⟨_,_,?_,hq,rfl⟩,Weak.trans (J9 3 rfl hd) (Aj 4 0 rfl rfl rfl rfl ((by repeat (first|exact Sub.nil|refine Ak rfl rfl ?_|refine Ao ?_|refine Ap rfl ?_|refine Aq rfl ?_))))⟩;omega)|(refine⟨_,⟨_,_,?_,hq,rfl⟩,Co 4 1 rfl (Ei ?_ ?_ ?_ ?_ rfl rfl rfl) (.cons _ _ _ _ rfl (A9 _) (.cons _ _ _ _ rfl (A9 _) (.cons _ _ _ _ rfl (A9 _) (.cons _ _ _ _ rfl (A9 _) .nil))))⟩<;>first|omega|assumption|(simp;done)|(simp;omega))|(refine⟨_,⟨_,_,?_,hq,rfl⟩,Weak.trans (E3 (l:=[(3, .bp 0 0),(4, .bp 1 0),(5, .bp 2 0),(6, .bp 3 0)]) [0,1,2,3,4,6] (fun i hi=>absurd hi (Nat.not_lt_zero i)) (by decide) (.cons _ _ _ _ _ rfl rfl (.cons _ _ _ _ _ rfl rfl (.cons _ _ _ _ _ rfl rfl (.cons _ _ _ _ _ rfl rfl (.cons _ _ _ _ _ rfl (DH CU _ _ _) (.cons _ _ _ _ _ rfl (DH DO _ _ _) .nil)))))) (by repeat (first|exact SubK.nil|refine SubK.cons _ _ _ _ rfl (A9 _) ?_))) (Co 4 1 rfl (Ei ?_ ?_ ?_ ?_ rfl rfl rfl) (.cons _ _ _ _ rfl (A9 _) (.cons _ _ _ _ rfl (A9 _) (.cons _ _ _ _ rfl (A9 _) (.cons _ _ _ _ rfl (A9 _) .nil)))))⟩<;>first|omega|assumption|(simp;done)|(simp;omega))
  omega
 rintro S ⟨q,b2,hb2,hqa,rfl⟩;refine Aa (h:=?_);refine A3 rfl (AX 0 (hc:=R4 l _ (by omega)) (hR:=?_));rintro r a9 ha9 ⟨y,rfl,hvy,hmy⟩;refine AY ?_;have hyb:=hvy.b (by omega);have hS1:AFn prog 44 [.agg (Au p), .agg (AQ s)] (fun r=>r= .v (.bool true)):=(Lv s p hsb hpa.rl hpa.ins).mono fun r hr=>by rw[hr,hp.sound hv]
 have hS2:=Lv s q hsb hqa.rl hqa.ins;have hS3:=P4 s q hsb hqa.rl hqa.ins hqa.nm;have hS4:=Lv y p hyb hpa.rl hpa.ins;have hS5:=P4 y p hyb hpa.rl hpa.ins hpa.nm;refine D4 (h:=s_ (h:=e_ (q_ (Bz ([(1,AQ s),(2,Au p),(3,Au q),(4,AQ y)]) 25 (h:=AD 0 (h:=AD 1 (h:=?_)))))));refine BT 2 rfl (fun _ _=>AA (hS1) fun _ e=>⟨e,rfl⟩) ?_;refine Ac 3 (h:=?_);refine Fs (j:=3) rfl (fun hb12=>?_) (fun hb12=>?_)
 ·have hc12:=bp hb12;refine AD 4 (h:=AD 5 (h:=?_));refine BT 6 rfl (fun _ _=>AA (hS2) fun _ e=>⟨e,rfl⟩) ?_;refine AD 7 (h:=AD 8 (h:=?_));refine BT 9 rfl (fun _ _=>AA (hS3) fun _ e=>⟨e,rfl⟩) ?_;refine Fj 10 (h:=Fi 11 (h:=Ac 12 (h:=?_)));refine Fs (j:=12) rfl (fun hb13=>?_) (fun hb13=>?_)
  ·have hc13:=bp hb13;refine AD 13 (h:=AD 14 (h:=?_));refine BT 15 rfl (fun _ _=>AA (hS4) fun _ e=>⟨e,rfl⟩) ?_;refine AD 16 (h:=AD 17 (h:=?_));refine BT 18 rfl (fun _ _=>AA (hS5) fun _ e=>⟨e,rfl⟩) ?_;refine Fj 19 (h:=Fi 20 (h:=Ac 21 (h:=?_)));refine Fs (j:=21) rfl (fun hb14=>?_) (fun hb14=>?_)
   ·have hc14:=bp hb14;refine BT 22 rfl (fun _ _=>AA (WO) fun _ e=>⟨e,rfl⟩) ?_;refine Fi 23 (h:=BM 24 (h:=z_ (h:=t_ (Ax (?_)))));refine A4 ?_
    first|rfl|(exfalso;first|contradiction|omega|(simp_all;done))
   have hc14:=bp hb14;simp at hc14
  have hc13:=bp hb13;simp at hc13
 have hc12:=bp hb12;simp at hc12
end
theorem FilterSound_walk{H:Type}{enc:TypeId×Value→H}{sp:Nat→Bool}{held:Bool}{base:Nat}(a:Option Addr)(n c:Nat)(w:World){d:DataW H}{p:List MemPlace}(h:DataW.Trod enc prog w base sp held 22 (.slice a n c) d p):
    Calls prog 8 #[.slice a n c] w fun e w'=>e= .returned (.bool true)∧Below w.heap.size w w':=aN hC a n c w h
end Go.Proofs.YtbgnigjfkbmceaaGreatDoor
