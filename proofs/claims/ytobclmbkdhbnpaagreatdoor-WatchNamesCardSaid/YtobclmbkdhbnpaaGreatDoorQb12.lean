/-
  Part 12 of the proof of WatchNamesP: what the statement's proof uses of the texts in wip/tpl.
-/
import Derived.Test.YtobclmbkdhbnpaaGreatDoorQb11
open Go.Proofs.Tryz (prog)
set_option maxRecDepth 10000
set_option maxHeartbeats 4000000
set_option linter.unusedVariables false
set_option linter.unusedSimpArgs false
namespace Go.Proofs.YtobclmbkdhbnpaaGreatDoor
open Go.RowKit
theorem Zs{P:Program}{St:Nat→Nat→Prop}{w:World}(hst:∀b o,St b o→b<w.heap.size){T T' sz bytes:Nat}(hE:Ho P T=some (T',sz,bytes))(hby:bytes≤100000){rows new:List (List AV)}{A:Option Addr}{cap:Nat}{y:Value}
    (hs:AZ St w (.sl sz rows none) (.slice A rows.length cap)) (hy:AZ St w (.sl sz new none) y) (hsm:rows.length+new.length≤1000000) (rt:TypeId):
    ∃(v':Value) (w':World) (N:Nat→Nat→Prop),(Builtin.append_ #[T,T] rt #[.slice A rows.length rows.length,y]).run P w= .ok v' w'∧Below w.heap.size w w'∧(∀b o,N b o→w.heap.size≤b∧b<w'.heap.size)∧AZ (fun b o=>St b o∨N b o) w' (.sl sz (rows++new) none) v':=by
 obtain⟨hu,inf,z,hinf,hz,hzs,hsz,hbts,hp⟩:=EY hE;obtain⟨A',cap',vs,e1,e2,e3,e4,e5⟩:=JX hy;obtain⟨A0,cap0,us,f1,f2,f3,f4,f5⟩:=JX hs;injection f1 with f1a f1b f1c;subst f1a;by_cases h0:new=[]
 ·subst h0;refine⟨.slice A rows.length rows.length,w,fun _ _=>False,?_,Below.refl _ _,fun _ _ h=>h.elim,?_⟩
  ·rw[e1];rcases A' with _|ad<;>rcases A with _|ad0<;>simp[Builtin.append_,run_underlying hu,sizeOf,typeInfo,hinf,Builtin.lenOf,Builtin.firstCells,storeCells,loadCells,loadCellsFrom]
  rw[List.append_nil]
  have k:AZ St w (.sl sz rows none) (.slice A rows.length rows.length):=by
   simp only[AZ]at hs ⊢;obtain⟨_,B,c,h1,h2,h3,h4⟩:=hs;injection h1 with h1 _ _;subst h1;exact⟨trivial,_,_,rfl,Av _,Nat.le_trans h2 h3,h4⟩
  exact FJ (fun b o hb=>⟨.inl hb,rfl⟩) _ _ k
 obtain⟨b,off,q1,q2⟩:=e5 h0;subst q1;rw[e1];have hnl:0<new.length:=List.length_pos_iff.2 h0;have hnews:∀j u,vs[j]?=some u→w.cell? ((⟨b,off,none⟩:Addr).add j)=some u:=fun j u hj=>by rw[Addr.add_mid];exact q2 j u hj
 have hbt:(rows.length+new.length) * bytes≤140737488355328:=by
  have:(rows.length+new.length) * bytes≤1000000 * 100000:=Nat.mul_le_mul hsm hby;omega
 have key:∃v' w',(Builtin.append_ #[T,T] rt #[.slice A rows.length rows.length, .slice (some ⟨b,off,none⟩) new.length cap']).run P w= .ok v' w'∧w'.ownsRow w.heap.size T' sz v' (rows.length+new.length) (us++vs)∧w.grownBy w' none:=by
  by_cases hr0:rows=[]
  ·subst hr0;have hus:us=[]:=DC (by simpa using f4.1);subst hus;rcases A with _|ad
   ·obtain⟨v',w',r1,r2,r3,r4,r5⟩:=run_append_own_at (P:=P) w w.heap.size T rt T' inf z sz bytes hu hinf hz hsz hbts hzs hp (.slice none 0 0) 0 [] (World.ownsRow_nil w _ _ _) ⟨b,off,none⟩ new.length cap' vs (by rw[e4.1]) hnews e4.2.2.1 (by simp at hsm;unfold maxLen;omega) (by simpa using hbt) (Av _);exact⟨v',w',by simpa using r1,by simpa using r2,by simpa[Value.ownBlock]using r3⟩
   obtain⟨v',w',r1,r2,r3⟩:=run_append_arg_grows (P:=P) w T rt T' inf z sz bytes hu hinf hz hsz hbts hzs hp ad 0 0 [] (by simp) (by simp) ⟨b,off,none⟩ new.length cap' vs (by rw[e4.1]) hnews (by omega) (by simp at hsm;unfold maxLen;omega) (by simpa using hbt);exact⟨v',w',by simpa using r1,by simpa using r2,r3⟩
  obtain⟨b0,off0,p1,p2⟩:=f5 hr0;subst p1;exact run_append_arg_grows (P:=P) w T rt T' inf z sz bytes hu hinf hz hsz hbts hzs hp ⟨b0,off0,none⟩ rows.length rows.length us (by rw[f4.1]) (fun j u hj=>by rw[Addr.add_mid];exact p2 j u hj) ⟨b,off,none⟩ new.length cap' vs (by rw[e4.1]) hnews (by omega) (by unfold maxLen;omega) hbt
 obtain⟨v',w',r1,r2,r3⟩:=key;have hbel:Below w.heap.size w w':=⟨r3.os,r3.tape,r3.output,r3.size,fun k hk=>r3.block k hk (by simp)⟩;have hlt:=World.ownsRow.lt r2;refine⟨v',w',fun b _=>v'.ownBlock=some b,r1,hbel,fun b o hb=>hlt b hb,?_⟩;have hflat:FlatR (fun b o=>St b o∨v'.ownBlock=some b) w' sz (rows++new) (us++vs):=(f4.append e4).mono fun b o hb=>⟨.inl hb,hbel.cell (p:=⟨b,o,none⟩) (hst b o hb)⟩;rcases r2.2 with⟨c1,c2⟩|⟨gb,cp,cur,c1,c2,c3,c4,c5,c6,c7⟩
 ·omega
 subst c1;simp only[AZ];refine⟨trivial,_,cp,by rw[List.length_append],by rw[List.length_append];exact c4,c5, .inr ⟨gb,0,rfl,hflat.froR fun j u hj=>⟨.inr rfl,?_⟩⟩⟩
 have hj2:j<(rows.length+new.length) * sz:=by
  have:=(Ag.1 hj).1
  rwa [r2.1]at this
 rw[Nat.zero_add];simp only[World.cell?,c3];rw[←c7,List.getElem?_take,if_pos hj2,Array.getElem?_toList]at hj
 simpa using hj
theorem TT{a:Act}{d n:Nat}(v:Value)(hn:a.tmps.size=n)(hd:d<n):(a.put (some d) v).eval (.tmp d)=v:=by
 show(a.put (some d) v).tmps.getD d undef=v;simp[Act.put,hn,hd]
theorem Zt{a:Act}{d t:Nat}(v:Value)(h:d≠t):(a.put (some d) v).eval (.tmp t)=a.eval (.tmp t):=by
 show(a.put (some d) v).tmps.getD t undef=a.tmps.getD t undef;simp[Act.put,Array.getElem?_setIfInBounds_ne h]
theorem Zu{P:Program}{N:Dim}{ops:Array Oper}{Q:Exit→AS→Prop}{rest:List Oper}{l:List (Nat×AV)}{hh:AH}{d1 d2 d3:Nat}{ty1 ty2 ty3:TypeId}{pos1 pos2 pos3:String}{af1 af2 af3:Array Edge}{T:TypeId}{x hi mx y:Operand}{T' sz bytes:Nat}{rows new:List (List AV)}{tok tok':Option Nat}[hE:Elm P T T' sz bytes]{i j:Int}
    (h1:Nat.blt d1 N.n=true) (h2:Nat.blt d2 N.n=true) (h3:Nat.blt d3 N.n=true) (hne:Nat.beq d2 d1=false)
    (hx:Bx (look l) x=some (.sl sz rows tok)) (hhi:Bx (look l) hi=some (.v (.int .i64 i))) (hmx:Bx (look l) mx=some (.v (.int .i64 j))) (hi':i=(rows.length:Int)) (hj':j=(rows.length:Int)) (hy:Bx (look ((d1, .sl sz rows none)::l)) y=some (.sl sz new tok')) (hsm:rows.length+new.length≤1000000)
    (h:AL P N ops Q rest ⟨look ((d3, .sl sz (rows++new) none)::(d2, .sl sz new tok')::(d1, .sl sz rows none)::l),hh⟩):
    AL P N ops Q (⟨some d1, .slice T x none (some hi) (some mx),ty1,pos1,af1,none⟩::⟨some d2, .move y,ty2,pos2,af2,none⟩::⟨some d3, .call {callee:= .builtin .append,args:=#[.tmp d1, .tmp d2],argTypes:=#[T,T]},ty3,pos3,af3,none⟩::rest) ⟨look l,hh⟩:=by
 obtain⟨hu,inf,z,hinf,hz,hzs,hsz,hbts,hp⟩:=EY hE.eq;intro E a w hr;obtain⟨G,g1,g2,g3,g4,g5⟩:=hr;have kx:=Ef _ _ (g2.ev hx);have ki:=g2.ev hhi;have kj:=g2.ev hmx;simp only[CP]at kx;simp only[rep]at ki kj;subst hi' hj';obtain⟨A,cap,us,e1,e2,e3,e4,e5⟩:=JX kx;rw[e1]at kx;refine wpList_plain rfl fun K hK=>?_
 have run1:(execOp a.eval ⟨some d1, .slice T x none (some hi) (some mx),ty1,pos1,af1,none⟩).run P w= .ok (.value (.slice A rows.length rows.length)) w:=by
  have hA:Option.map (fun x:Addr=>x.add 0) A=A:=by cases A with
   |none=>rfl
   |some ad=>cases ad;rfl
  have e0:(if rows.length=0 then A else Option.map (fun x:Addr=>x.add 0) A)=A:=by rw[hA];split<;>rfl
  simp[execOp,e1,ki,kj,Instr.sliceAt,Instr.slice,Instr.sliceBounds,Instr.sliceBound,asIntOf,run_underlying hu,sizeOf,typeInfo,hinf,hsz,e2,hA]
 refine Lb (E:=E) (w:=w) (R:=fun x' h'=>x'= .v (.slice A rows.length rows.length)∧h'=hh) (G:=G) ?_ ?_
 ·rw[run1];exact⟨_,_,G,⟨rfl,rfl⟩,g1,Ext.refl G w,by simp only[rep]⟩
 rintro v1 w1 ⟨x1,h1',G1,⟨rfl,rfl⟩,k1,k2,k3⟩;simp only[rep]at k3;subst k3;have kx1:AZ G1.St w1 (.sl sz rows none) (.slice A rows.length cap):=FJ k2.st _ _ kx
 have kn1:AZ G1.St w1 (.sl sz rows none) (.slice A rows.length rows.length):=by
  have:=kx1;simp only[AZ]at this ⊢;obtain⟨_,B,c,q1,q2,q3,q4⟩:=this;injection q1 with q1 _ _;subst q1;exact⟨trivial,_,_,rfl,Av _,Nat.le_trans q2 q3,q4⟩
 obtain⟨s1,s2,s3⟩:=g2.put (d:=some d1) (x:= .sl sz rows none) k2 g3 h1 (FK _ _ kn1);apply hK;refine wpList_plain rfl fun K2 hK2=>?_;have ky:=s1.ev hy;refine Lb (E:=E) (R:=fun x' h'=>x'= .sl sz new tok'∧h'=h1') (G:=G1) (w:=w1) (r:= .ok (.value ((a.put (some d1) (.slice A rows.length rows.length)).eval y)) w1) ⟨_,_,G1,⟨rfl,rfl⟩,k1,Ext.refl G1 w1,ky⟩ ?_;rintro v2 w2 ⟨x2,h2',G2,⟨rfl,rfl⟩,m1,m2,m3⟩;obtain⟨t1,t2,t3⟩:=s1.put (d:=some d2) (x:= .sl sz new tok') m2 s2 h2 m3;have kn2:AZ G2.St w2 (.sl sz rows none) (.slice A rows.length rows.length):=FJ m2.st _ _ kn1;have ky2:=Ef _ _ m3;simp only[CP]at ky2;apply hK2;refine wpList_plain rfl fun K3 hK3=>?_;obtain⟨v',w',Nw,r1,r2,r3,r4⟩:=Zs (P:=P) m1.stlt hE.eq hE.few kn2 ky2 hsm ty3;obtain⟨u1,u2⟩:=m1.grow r2 Nw r3;have hd12:d2≠d1:=fun e=>by rw[e,Nat.beq_refl]at hne;cases hne
 have q1:((a.put (some d1) (.slice A rows.length rows.length)).put (some d2) v2).eval (.tmp d1)= .slice A rows.length rows.length:=by
  rw[Zt _ hd12];exact TT _ g3 (BK h1)
 have q2:((a.put (some d1) (.slice A rows.length rows.length)).put (some d2) v2).eval (.tmp d2)=v2:=TT _ s2 (BK h2);refine Lb (E:=E) (R:=fun x' h'=>x'= .sl sz (rows++new) none∧h'=h2') (G:=G2) (w:=w2) ?_ ?_
 ·simp only[execOp,resolve,invoke,builtin,Sem.run_bind,Sem.run_pure,Result.andThen_ok,List.map_toArray,List.map_cons,List.map_nil,q1,q2,r1];exact⟨_,_,_,⟨rfl,rfl⟩,u1,u2,FK _ _ r4⟩
 rintro v3 w3 ⟨x3,h3',G3,⟨rfl,rfl⟩,n1,n2,n3⟩;obtain⟨o1,o2,o3⟩:=t1.put (d:=some d3) (x:= .sl sz (rows++new) none) n2 t2 h3 n3;apply hK3;exact h E _ w3 ⟨G3,n1,o1,o2,o3.trans (t3.trans (s3.trans g4)),g5⟩
theorem TU(s:AB)(hs:s.size≤60000):AFn prog 78 [.v (.string s)] (fun r=>r= .tup [.sl 1 ((CN s).map Cx) none, .v (.bool (Cg s)), .v (.bool (B2 s))]):=by
 intro w St bl vs hr hv;have hbl:bl=[]:=by have:=hr.bxlen;simpa using this
 subst hbl;simp only[AP,rep]at hv;obtain⟨z,zs,rfl,rfl,rfl⟩:=hv;refine(Zr s w hs).mono ?_;rintro e w' ⟨v,ss,rfl,hv,hp,hB,A,c,rfl,hc⟩;obtain rfl:=P6 (ps:=ss) hp;obtain⟨k1,k2⟩:=hr.grow hB (fun b _=>O6 w w' b) (fun b _ hb=>hb);refine⟨_,_,_,_,⟨rfl,rfl,rfl⟩,k1,k2,?_⟩;simp only[rep,AP];refine⟨_,rfl,_,_,rfl,?_,_,_,rfl,rfl,_,_,rfl,rfl,rfl⟩;obtain⟨A',c',h1,h2,h3,h4⟩:=hv;injection h1 with h1 _ h1c;subst h1 h1c;simp only[AZ];refine⟨trivial,A,c,by rw[List.length_map],by rw[List.length_map];exact h2,hc,?_⟩;by_cases h0:(CN s).length=0
 ·exact .inl (by rw[DC h0];rfl)
 obtain⟨b,off,rfl,hb,hcell⟩:=h4 (by omega);refine .inr ⟨b,off,rfl,KJ fun i r hi=>?_⟩;rw[List.getElem?_map]at hi
 cases hy:(CN s)[i]? with
 |none=>rw[hy]at hi;cases hi
 |some x=>
   rw[hy]at hi;injection hi with hi;subst hi;refine⟨rfl,KH fun j av hj=>?_⟩
   match j,hj with
   |0,hj=>
     injection hj with hj;subst hj;exact⟨.inr hb, .string x,hcell i x 0 hy (by omega),rfl,by simp only[AZ]⟩
   |j+1,hj=>simp[Cx]at hj
def Ex(f:AR)(a:A6):Int:=match Bj f a with
 |none=>2
 |some n=>if n.kind=2 then 0 else 20
def FG(f:AR)(a:A6)(name:AB):A6×Bool:=match Bj f a with
 |none=>((0,0),false)
 |some n=>match n.entries.find? (fun e:B6=>decide (e.1=name))with
   |none=>((0,0),false)
   |some e=>((a.1,e.2),true)
theorem Zv{f:AR}{a:A6}{name:AB}(h:¬Ex f a=0):AK f a name=((0,0),Ex f a):=by
 unfold Ex at h ⊢;unfold AK
 cases hn:Bj f a with
 |none=>rfl
 |some n=>
   simp only[hn]at h ⊢;by_cases hk:n.kind=2
   ·rw[if_pos hk]at h;exact absurd rfl h
   rw[if_neg hk,if_neg hk]
theorem Zw{f:AR}{a:A6}{name:AB}(h:Ex f a=0)(h2:(FG f a name).2=false):AK f a name=((0,0),2):=by
 unfold Ex at h;unfold FG at h2;unfold AK
 cases hn:Bj f a with
 |none=>rfl
 |some n=>
   simp only[hn]at h h2 ⊢;by_cases hk:n.kind=2
   ·rw[if_pos hk]
    cases hf:n.entries.find? (fun e:B6=>decide (e.1=name))with
    |none=>rfl
    |some e=>rw[hf]at h2;cases h2
   rw[if_neg hk]at h;exact absurd h (by decide)
theorem Zx{f:AR}{a:A6}{name:AB}(h:Ex f a=0)(h2:(FG f a name).2=true):AK f a name=((FG f a name).1,0):=by
 unfold Ex at h;unfold FG at h2 ⊢;unfold AK
 cases hn:Bj f a with
 |none=>rw[hn]at h2;cases h2
 |some n=>
   simp only[hn]at h h2 ⊢;by_cases hk:n.kind=2
   ·rw[if_pos hk]
    cases hf:n.entries.find? (fun e:B6=>decide (e.1=name))with
    |none=>rw[hf]at h2;cases h2
    |some e=>rfl
   rw[if_neg hk]at h;exact absurd h (by decide)
def Dk(s:Spc)(fl:Bool)(w:Wk):List AV:=[.sl 2 (s.files.map Bp) none, .sl 3 (s.mounts.map Cu) none, .sl 1 (w.ps.map Cx) none, .v (.int .i64 w.at_.1), .v (.int .i64 w.at_.2), .v (.int .i64 w.dir.1), .v (.int .i64 w.dir.2), .v (.string w.name), .v (.bool w.missing), .v (.bool fl), .v (.int .i64 (w.links:Int))]
theorem TV(d m:AB)(hd:d.size≤1000000)(hm:m.size≤1000000):AFn prog 126 [.v (.string d), .v (.string m)] (fun r=>r= .v (.string (Cl d m))):=
 M0 (us:=[.string d, .string m]) fun w=>(SK d m w hd hm).mono fun e w' h=>by
  obtain⟨h1,rfl⟩:=h;exact⟨h1,Below.refl _ _⟩
theorem Zy(t:AB):AFn prog 120 [.v (.string t), .v (.string ⟨#[47]⟩)] (fun r=>r= .v (.bool (Cg t))):=
 M0 (us:=[.string t, .string ⟨#[47]⟩]) fun w=>(Tryz.strings_HasPrefix t ⟨#[47]⟩ w).mono fun e w' h=>by
  obtain⟨h1,rfl⟩:=h;refine⟨?_,Below.refl _ _⟩;rw[h1];unfold Cg;rw[←LT]
section
theorem Zz(f:AR)(a:A6)(hf:FlsB f):AFn prog 111 [.agg (Am f), .agg (A7 a)] (fun r=>r= .v (.int .i64 (Ex f a))):=by
 refine enter Tryz.func111 rfl rfl rfl rfl rfl 0 rfl ?_;refine w_ (b_ (h:=b_ (h:=a_ (h:=e_ (w_ (l_ (h:=l_ (h:=?_))))))));refine A8 rfl (AN (O1 f a hf) ?_);rintro r (⟨e,rfl⟩|⟨n,e,rfl⟩)
 ·skip
  refine a_ (h:=e_ (q_ (Ap (w_ (m_ (h:=?_))))))
  first|refine A8 rfl (Jf (by kernel_rfl) rfl rfl ?_)|refine A8 rfl (Jg (by kernel_rfl) rfl rfl ?_)
  refine a_ (h:=e_ (?_));refine AA rfl (fun hb1=>?_) (fun hb1=>?_)
  ·have hc1:=bp hb1;refine w_ (a_ (h:=e_ (A4 (Ab (A9 (?_))))));refine AD ?_;rw[show Ex f a=2 by simp only[Ex,e]];rfl
  have hc1:=bp hb1;exfalso;first|contradiction|omega
 skip
 refine a_ (h:=e_ (q_ (Ap (w_ (m_ (h:=?_))))))
 first|refine A8 rfl (Jf (by kernel_rfl) rfl rfl ?_)|refine A8 rfl (Jg (by kernel_rfl) rfl rfl ?_)
 refine a_ (h:=e_ (?_));refine AA rfl (fun hb2=>?_) (fun hb2=>?_)
 ·have hc2:=bp hb2;exfalso;first|contradiction|omega
 have hc2:=bp hb2;refine w_ (m_ (h:=k_ (h:=f_ (h:=l_ (h:=Bf (h:=a_ (h:=e_ (?_))))))));refine AA rfl (fun hb3=>?_) (fun hb3=>?_)
 ·have hc3:=bp hb3;refine w_ (a_ (h:=e_ (A4 (Ab (A9 (?_))))));refine AD ?_;rw[show Ex f a=20 by simp only[Ex,e];exact if_neg hc3];rfl
 have hc3:=bp hb3;refine BH (Ay (t_ (w_ (a_ (h:=e_ (A4 (?_)))))));refine AD ?_;rw[show Ex f a=0 by simp only[Ex,e];exact if_pos hc3];rfl
theorem a6(f:AR)(a:A6)(name:AB)(hf:FlsB f):AFn prog 112 [.agg (Am f), .agg (A7 a), .v (.string name)] (fun r=>r= .tup [.agg (A7 (FG f a name).1), .v (.bool (FG f a name).2)]):=by
 have hen:=Ki hf a;refine enter Tryz.func112 rfl rfl rfl rfl rfl 0 rfl ?_;refine w_ (b_ (h:=b_ (h:=Ak (h:=a_ (h:=e_ (w_ (l_ (h:=l_ (h:=?_)))))))));refine A8 rfl (AN (O1 f a hf) ?_);rintro r (⟨e,rfl⟩|⟨n,e,rfl⟩)
 ·skip
  refine a_ (h:=e_ (q_ (w_ (m_ (h:=?_)))))
  first|refine A8 rfl (Jf (by kernel_rfl) rfl rfl ?_)|refine A8 rfl (Jg (by kernel_rfl) rfl rfl ?_)
  refine e_ (?_);refine AA rfl (fun hb1=>?_) (fun hb1=>?_)
  ·have hc1:=bp hb1;refine w_ (Aa (h:=s_ (h:=a_ (h:=e_ (A4 (A9 (?_)))))));refine AD ?_;rw[show FG f a name=((0,0),false) by simp only[FG,e]];rfl
  have hc1:=bp hb1;exfalso;first|contradiction|omega
 have hnl:n.entries.length≤1000:=by simpa[AU,e]using hen
 refine a_ (h:=e_ (q_ (w_ (m_ (h:=?_)))))
 first|refine A8 rfl (Jf (by kernel_rfl) rfl rfl ?_)|refine A8 rfl (Jg (by kernel_rfl) rfl rfl ?_)
 refine e_ (?_);refine AA rfl (fun hb2=>?_) (fun hb2=>?_)
 ·have hc2:=bp hb2;exfalso;first|contradiction|omega
 have hc2:=bp hb2;refine AO (q_ (w_ (m_ (h:=k_ (h:=f_ (h:=l_ (h:=n_ (h:=m_ (h:=e_ (Ap (?_)))))))))));refine By (fun m t=>∃j:Nat,j≤n.entries.length∧m=n.entries.length - j∧(∀i y,i<j→n.entries[i]?=some y→decide (y.1=name)=false)∧t=⟨look [(2, .v (.string name)),(4, .bp 1 0),(6, .bp 2 0),(20, .sl 2 (n.entries.map CA) none),(21, .v (.int .i64 ((n.entries.map CA).length:Int))),(22, .v (.int .i64 (j:Int)))],⟨[Am f,A7 a,[.v (.int .i64 0), .v (.int .i64 0)]],[]⟩⟩) (n.entries.length) ((wk 3 0)) (⟨0,by omega,rfl,fun i y hi=>by omega,rfl⟩) ?_;rintro m t ⟨j,hj,rfl,ha,rfl⟩;refine w_ (BQ (h:=e_ (q_ (?_))));refine AA rfl (fun hb3=>?_) (fun hb3=>?_)
 ·have hc3:=bp hb3;obtain⟨hlt,x,hy,hrow, -⟩:=Cp CA hc3;refine AO (q_ (Ap (w_ (i_ (h:=l_ (h:=Ak (h:=s_ (h:=e_ (w_ (f_ (h:=l_ (h:=m_ (h:=Ah (h:=e_ (?_)))))))))))))));refine AA rfl (fun hb4=>?_) (fun hb4=>?_)
  ·have hc4:=bp hb4;refine w_ (f_ (h:=l_ (h:=f_ (h:=l_ (h:=Aa (h:=s_ (h:=a_ (h:=e_ (A4 (Ab (A9 (A9 (Ab (A9 (?_)))))))))))))));refine AD ?_;rw[show FG f a name=((a.1,x.2),true) by simp only[FG,e];rw[G0 hy (by simpa using hc4) ha]];rfl
  have hc4:=bp hb4;refine BH (Ay (t_ (AX (BB (h:=m_ (h:=AT (?_)))))));refine AG ?_;refine⟨_,_,?_,⟨j+1,by omega,rfl,Eb hy ha (by simpa using hc4),rfl⟩,(wk 3 0)⟩;omega
 have hc3:=bp hb3;have e3:=D0 CA hj hc3;subst e3;refine Ba (Ao (Ao (Bb (t_ (w_ (Aa (h:=s_ (h:=a_ (h:=e_ (A4 (?_)))))))))));refine AD ?_;rw[show FG f a name=((0,0),false) by simp only[FG,e];rw[G4 ha]];rfl
theorem PO(f:AR)(a:A6)(name:AB)(hf:FlsB f):AFn prog 71 [.agg (Am f), .agg (A7 a), .v (.string name)] (fun r=>r= .tup [.agg (A7 (AK f a name).1), .v (.int .i64 (AK f a name).2)]):=by
 refine enter Tryz.func71 rfl rfl rfl rfl rfl 0 rfl ?_;refine w_ (b_ (h:=b_ (h:=Ak (h:=a_ (h:=e_ (q_ (w_ (l_ (h:=l_ (h:=?_))))))))));refine A8 rfl (AN (Zz f a hf) ?_);rintro r rfl;refine a_ (h:=e_ (w_ (m_ (h:=Bf (h:=e_ (?_))))));refine AA rfl (fun hb1=>?_) (fun hb1=>?_)
 ·have hc1:=bp hb1;refine w_ (Aa (h:=m_ (h:=s_ (h:=a_ (h:=e_ (A4 (A9 (?_))))))));refine AD ?_;rw[Zv hc1];rfl
 have hc1:=bp hb1;refine AO (w_ (l_ (h:=l_ (h:=m_ (h:=?_)))));refine A8 rfl (AN (a6 f a name hf) ?_);rintro r rfl;refine m_ (h:=x_ (h:=x_ (h:=Ak (h:=s_ (h:=a_ (h:=e_ (q_ (w_ (m_ (h:=Bt (h:=e_ (?_))))))))))));refine AA rfl (fun hb2=>?_) (fun hb2=>?_)
 ·have hc2:=bp hb2;refine w_ (Aa (h:=s_ (h:=a_ (h:=e_ (A4 (A9 (?_)))))));refine AD ?_;rw[Zw hc1 (by simpa using hc2)];rfl
 have hc2:=bp hb2;refine AO (w_ (l_ (h:=s_ (h:=a_ (h:=e_ (A4 (?_)))))));refine AD ?_;rw[Zx hc1 (by simpa using hc2)];rfl
theorem TW(s:Spc)(hs:SpcB s):AFn prog 79 [.agg (As s)] (fun r=>r= .agg (A7 (DW s))):=by
 refine enter Tryz.func79 rfl rfl rfl rfl rfl 0 rfl ?_;refine w_ (b_ (h:=Ak (h:=e_ (w_ (l_ (h:=Aa (h:=?_)))))));refine A8 rfl (AN (O0 s (0,1) hs) ?_);rintro r rfl;refine s_ (h:=e_ (A4 (?_)));refine AD ?_;rfl
theorem PP(s:Spc)(fl:Bool)(w:Wk)(hs:SpcB s):AFn prog 80 [.fp (Dk s fl w)] (fun r=>r= .v (.bool (Al s.files w.at_))):=by
 have hde:=Fb s.files w.at_;refine enter Tryz.func80 rfl rfl rfl rfl rfl 0 rfl ?_;refine w_ (a_ (h:=e_ (q_ (Bo ([]) 16 (h:=AQ 0 (h:=BL 1 (h:=AJ 2 (h:=AJ 3 (h:=AF 4 (h:=AQ 5 (h:=BL 6 (h:=AJ 7 (h:=AF 8 (h:=?_))))))))))))));refine Fa 9 13 rfl rfl ?_ ?_
 ·refine AN (G5 s.files w.at_ hs.files) ?_;rintro r rfl;refine o_ (h:=?_);refine AQ 10 (h:=BU 11 (h:=BU 12 (h:=?_)));refine c_ 13 rfl (Cn (by repeat constructor) ?_);refine o_ (h:=?_);refine BA 14 rfl (B1 rfl rfl rfl rfl rfl rfl (by repeat constructor) (by repeat constructor) ?_);refine o_ (h:=BO 15 (h:=z_ (h:=t_ (w_ (m_ (h:=m_ (h:=?_)))))));refine Aw true rfl rfl (fun hb1=>?_) (fun hb1=>?_)
  ·have hc1:=bp hb1;refine f_ (h:=l_ (h:=Ah (h:=AY (h:=a_ (h:=e_ (A4 (?_)))))));refine AD ?_
   first|(rw[hde,hb1];rfl)|(rw[hde,hb2];rfl)
  have hc1:=bp hb1;refine A3 (h:=A3 (h:=A3 (h:=Aj (h:=a_ (h:=e_ (A4 (?_)))))));refine AD ?_
  first|(rw[hde,hb1];rfl)|(rw[hde,hb2];rfl)
 refine Cn (by repeat constructor) ?_;refine o_ (h:=?_);refine c_ 9 rfl (AN (G5 s.files w.at_ hs.files) ?_);rintro r rfl;refine o_ (h:=AQ 10 (h:=BU 11 (h:=BU 12 (h:=?_))));refine BA 14 rfl (B1 rfl rfl rfl rfl rfl rfl (by repeat constructor) (by repeat constructor) ?_);refine o_ (h:=BO 15 (h:=z_ (h:=t_ (w_ (m_ (h:=m_ (h:=?_)))))));refine Aw true rfl rfl (fun hb2=>?_) (fun hb2=>?_)
 ·have hc2:=bp hb2;refine f_ (h:=l_ (h:=Ah (h:=AY (h:=a_ (h:=e_ (A4 (?_)))))));refine AD ?_
  first|(rw[hde,hb1];rfl)|(rw[hde,hb2];rfl)
 have hc2:=bp hb2;refine A3 (h:=A3 (h:=A3 (h:=Aj (h:=a_ (h:=e_ (A4 (?_)))))));refine AD ?_
 first|(rw[hde,hb1];rfl)|(rw[hde,hb2];rfl)
theorem a7(s:Spc)(fl sl:Bool)(w:Wk)(hs:SpcN s)(hw:∀a,(BV s a).1.size≤1000)(hn:w.name.size≤1000000):AFn prog 82 [.fp (Dk s fl w), .v (.bool sl)] (fun r=>r= .agg (Aq (FF s sl w))):=by
 refine enter Tryz.func82 rfl rfl rfl rfl rfl 0 rfl ?_;refine w_ (Ak (h:=e_ (q_ (Bo ([(0,Aq Cm)]) 17 (h:=AQ 0 (h:=BL 1 (h:=AJ 2 (h:=AF 3 (h:=AQ 4 (h:=BL 5 (h:=AJ 6 (h:=AF 7 (h:=AQ 8 (h:=BL 9 (h:=AJ 10 (h:=AF 11 (h:=M9 12 (h:=AQ 13 (h:=Fy 14 (h:=?_))))))))))))))))))));refine c_ 15 rfl (Cn (by repeat constructor) ?_);refine o_ (h:=?_);refine BA 16 rfl (B1 rfl rfl rfl rfl rfl rfl (by repeat constructor) (by repeat constructor) ?_);refine o_ (h:=z_ (h:=t_ (q_ (w_ (m_ (h:=k_ (h:=f_ (h:=l_ (h:=Ah (h:=e_ (?_)))))))))));refine AA rfl (fun hb1=>?_) (fun hb1=>?_)
 ·have hc1:=bp hb1;refine q_ (Bo ([(0,Aq Cm)]) 12 (h:=AQ 0 (h:=BL 1 (h:=AJ 2 (h:=AF 3 (h:=AQ 4 (h:=BL 5 (h:=AJ 6 (h:=AF 7 (h:=AJ 8 (h:=?_)))))))))));refine BA 9 rfl (B1 rfl rfl rfl rfl rfl rfl (by repeat constructor) (by repeat constructor) ?_);refine o_ (h:=AJ 10 (h:=?_));refine BA 11 rfl (B1 rfl rfl rfl rfl rfl rfl (by repeat constructor) (by repeat constructor) ?_);refine o_ (h:=z_ (h:=t_ (q_ (Bo ([(0,Aq Cm)]) 12 (h:=AQ 0 (h:=BL 1 (h:=AJ 2 (h:=AF 3 (h:=AJ 4 (h:=?_))))))))));refine c_ 5 rfl (EZ rfl rfl rfl ?_);refine o_ (h:=?_);refine c_ 6 rfl (AN (Ow hs w.at_) ?_);rintro r rfl;refine o_ (h:=AQ 7 (h:=BU 8 (h:=BU 9 (h:=AJ 10 (h:=?_)))));refine BA 11 rfl (B1 rfl rfl rfl rfl rfl rfl (by repeat constructor) (by repeat constructor) ?_);refine o_ (h:=z_ (h:=t_ (w_ (l_ (h:=s_ (h:=e_ (A4 (A9 (?_)))))))));refine AD ?_;rw[show FF s sl w=⟨w.at_,⟨#[]⟩,w.at_, !w.missing,sl,(BV s w.at_).1⟩ from if_pos hc1,hc1];rfl
 have hc1:=bp hb1;refine AO (q_ (w_ (f_ (h:=l_ (h:=e_ (?_))))));refine AA rfl (fun hb2=>?_) (fun hb2=>?_)
 ·have hc2:=bp hb2;refine AX (m_ (h:=k_ (h:=f_ (h:=l_ (h:=f_ (h:=s_ (h:=e_ (q_ (q_ (Dp 12 (h:=AQ 0 (h:=BL 1 (h:=AJ 2 (h:=AF 3 (h:=AJ 4 (h:=AF 5 (h:=?_)))))))))))))))));refine c_ 6 rfl (AN (Ow hs w.dir) ?_);rintro r rfl;refine o_ (h:=AQ 7 (h:=BU 8 (h:=BU 9 (h:=BO 10 (h:=BO 11 (h:=z_ (h:=t_ (w_ (m_ (h:=e_ (?_)))))))))));refine AA rfl (fun hb3=>?_) (fun hb3=>?_)
  ·have hc3:=bp hb3;refine AX (m_ (h:=f_ (h:=l_ (h:=?_))));refine A8 rfl (AN (TV (BV s w.dir).1 w.name (by have:=hw w.dir;omega) hn) ?_);rintro r rfl;refine f_ (h:=s_ (h:=e_ (w_ (l_ (h:=s_ (h:=e_ (A4 (?_))))))));refine AD ?_;rw[show FF s sl w=⟨w.dir,w.name,w.at_, !w.missing,sl,Cl (BV s w.dir).1 w.name⟩ by unfold FF;rw[if_neg hc1,if_neg (by simp[hc2]),if_pos hc3]];rfl
  have hc3:=bp hb3;refine AO (w_ (l_ (h:=s_ (h:=e_ (A4 (?_))))));refine AD ?_;rw[show FF s sl w=⟨w.dir,w.name,w.at_, !w.missing,sl,⟨#[]⟩⟩ by unfold FF;rw[if_neg hc1,if_neg (by simp[hc2]),if_neg (by simp[hc3])]];rfl
 have hc2:=bp hb2;refine AO (q_ (q_ (Dp 12 (h:=AQ 0 (h:=BL 1 (h:=AJ 2 (h:=AF 3 (h:=AJ 4 (h:=AF 5 (h:=?_))))))))));refine c_ 6 rfl (AN (Ow hs w.dir) ?_);rintro r rfl;refine o_ (h:=AQ 7 (h:=BU 8 (h:=BU 9 (h:=BO 10 (h:=BO 11 (h:=z_ (h:=t_ (w_ (m_ (h:=e_ (?_)))))))))));refine AA rfl (fun hb4=>?_) (fun hb4=>?_)
 ·have hc4:=bp hb4;refine AX (m_ (h:=f_ (h:=l_ (h:=?_))));refine A8 rfl (AN (TV (BV s w.dir).1 w.name (by have:=hw w.dir;omega) hn) ?_);rintro r rfl;refine f_ (h:=s_ (h:=e_ (w_ (l_ (h:=s_ (h:=e_ (A4 (?_))))))));refine AD ?_;rw[show FF s sl w=⟨w.dir,w.name,(0,0), !w.missing,sl,Cl (BV s w.dir).1 w.name⟩ by unfold FF;rw[if_neg hc1,if_pos (by simp[hc2]),if_pos hc4]];rfl
 have hc4:=bp hb4;refine AO (w_ (l_ (h:=s_ (h:=e_ (A4 (?_))))));refine AD ?_;rw[show FF s sl w=⟨w.dir,w.name,(0,0), !w.missing,sl,⟨#[]⟩⟩ by unfold FF;rw[if_neg hc1,if_pos (by simp[hc2]),if_neg (by simp[hc4])]];rfl
end
def Mt(s:Spc)(tg:AB)(rest:List AB)(w:Wk):Wk:=⟨CN tg++rest,if Cg tg=true then DW s else w.at_,if Cg tg=true then(0,0)else w.dir,if Cg tg=true then⟨#[]⟩else w.name,w.missing,w.links+1⟩
theorem Mu(s:Spc)(fl:Bool)(w:Wk):Ac 0 0 (Dk s fl w)=true:=rfl
section
theorem a8(s:Spc)(fl:Bool)(w:Wk)(tg:AB)(rest:List AB)(hs:SpcB s)(h8:w.links≤8)(htg:tg.size≤60000)(hrl:rest.length≤500000):Nb prog 124 [.bp 0 0, .v (.string tg), .sl 1 (rest.map Cx) none] (Dk s fl w) (fun r row'=>(w.links=8∧r= .v (.int .i64 40)∧row'=Dk s fl w)∨(w.links≠8∧r= .v (.int .i64 0)∧row'=Dk s fl (Mt s tg rest w))):=by
 have hpl:=Jq tg;refine enter Tryz.func124 rfl rfl rfl rfl rfl 1 rfl ?_;refine w_ (a_ (h:=e_ (q_ (w_ (m_ (h:=k_ (h:=f_ (h:=l_ (h:=Ah (h:=e_ (?_)))))))))));refine AA rfl (fun hb1=>?_) (fun hb1=>?_)
 ·have hc1:=bp hb1;refine w_ (a_ (h:=e_ (A4 (A9 (?_)))));refine BS none (h5:=(AM _)) (h6:=⟨_,rfl,rfl, .inl ⟨by omega,rfl,rfl⟩⟩)
 have hc1:=bp hb1;refine AO (w_ (m_ (h:=k_ (h:=f_ (h:=l_ (h:=?_))))));refine A8 rfl (KP rfl rfl (by omega) ?_);refine k_ (h:=f_ (h:=s_ (h:=e_ (w_ (m_ (h:=?_))))));refine A8 rfl (AN (TU tg htg) ?_);rintro r rfl;refine m_ (h:=x_ (h:=x_ (h:=x_ (h:=a_ (h:=a_ (h:=a_ (h:=e_ (w_ (m_ (h:=m_ (h:=m_ (h:=n_ (h:=m_ (h:=n_ (h:=?_)))))))))))))));refine Zu rfl rfl rfl rfl rfl rfl rfl rfl rfl rfl (by simp;omega) ?_;refine k_ (h:=f_ (h:=s_ (h:=e_ (q_ (w_ (m_ (h:=?_)))))));refine A8 rfl (AN (Zy tg) ?_);rintro r rfl;refine e_ (?_);refine AA rfl (fun hb2=>?_) (fun hb2=>?_)
 ·have hc2:=bp hb2;refine AX (m_ (h:=m_ (h:=m_ (h:=m_ (h:=k_ (h:=f_ (h:=l_ (h:=?_))))))));refine A8 rfl (AN (TW s hs) ?_);rintro r rfl;refine Aa (h:=k_ (h:=f_ (h:=s_ (h:=k_ (h:=f_ (h:=s_ (h:=k_ (h:=f_ (h:=s_ (h:=e_ (w_ (a_ (h:=e_ (A4 (?_)))))))))))))));refine BS none (h5:=(AM _)) (h6:=⟨_,rfl,rfl, .inr ⟨by omega,rfl,by simp only[Dk,Mt,if_pos hc2,List.map_append];rfl⟩⟩)
 have hc2:=bp hb2;refine AO (w_ (a_ (h:=e_ (A4 (?_)))));refine BS none (h5:=(AM _)) (h6:=⟨_,rfl,rfl, .inr ⟨by omega,rfl,by simp only[Dk,Mt,hc2,if_neg (show¬false=true by simp),List.map_append];rfl⟩⟩)
theorem aA(s:Spc)(fl:Bool)(w:Wk)(p:AB)(ps:List AB)(hps:w.ps=p::ps)(hs:SpcB s)(hv:SpcV s)(h8:w.links≤8)(hrl:ps.length≤500000):Nb prog 81 [.bp 0 0] (Dk s fl w) (fun r row'=>(∃e,Dj s fl p ps w= .inl e∧e≠0∧r= .v (.int .i64 e)∧row'=Dk s fl w)∨∃w',Dj s fl p ps w= .inr w'∧r= .v (.int .i64 0)∧row'=Dk s fl w'):=by
 obtain⟨ps0,a,dr,nm,mi,lk⟩:=w;simp only at hps h8;subst hps;have hml:(ps.map Cx).length=ps.length:=by simp
 have htg:=MZ hv.files (AK s.files a p).1;refine enter Tryz.func81 rfl rfl rfl rfl rfl 1 rfl ?_;refine w_ (a_ (h:=e_ (q_ (Bo ([(0,Dk s fl ⟨p::ps,a,dr,nm,mi,lk⟩)]) 13 (h:=AQ 0 (h:=BL 1 (h:=AJ 2 (h:=AF 3 (h:=?_)))))))));refine B5 4 rfl (fun _ hS=>DZ (n:=0) rfl rfl rfl rfl ⟨rfl,rfl⟩) ?_;refine AF 5 (h:=AQ 6 (h:=BL 7 (h:=AJ 8 (h:=AF 9 (h:=?_)))));refine B5 10 rfl (fun _ hS=>NU (l:=1) rfl rfl rfl (by simp) ⟨rfl,rfl⟩) ?_;refine BO 11 (h:=BO 12 (h:=z_ (h:=t_ (q_ (w_ (m_ (h:=?_)))))));refine A8 rfl (EJ 1 rfl (.cons _ _ _ _ _ rfl (AM _) .nil) (PP s fl ⟨p::ps,a,dr,nm,mi,lk⟩ hs) ?_);rintro r rfl;refine⟨rfl,?_⟩;refine Bt (h:=e_ (?_));refine AA rfl (fun hb1=>?_) (fun hb1=>?_)
 ·have hc1:=bp hb1;refine w_ (a_ (h:=e_ (A4 (A9 (?_)))));refine BS none (h5:=(AM _)) (h6:=⟨_,rfl,rfl, .inl ⟨20,by unfold Dj;rw[if_pos hc1],by decide,rfl,rfl⟩⟩)
 have hc1:=bp hb1;refine AO (q_ (w_ (m_ (h:=n_ (h:=Co (h:=e_ (?_)))))));refine AA rfl (fun hb2=>?_) (fun hb2=>?_)
 ·have hc2:=bp hb2;refine w_ (a_ (h:=e_ (A4 (A9 (?_)))));refine BS none (h5:=(AM _)) (h6:=⟨_,rfl,rfl, .inl ⟨36,by unfold Dj;rw[if_neg (by simp[hc1]),if_pos (by omega)],by decide,rfl,rfl⟩⟩)
 have hc2:=bp hb2;refine AO (q_ (w_ (m_ (h:=e_ (Ap (q_ (Ap (q_ (Ap (q_ (q_ (w_ (Ah (h:=a_ (h:=e_ (?_))))))))))))))));refine AA rfl (fun hb3=>?_) (fun hb3=>?_)
 ·have hc3:=bp hb3;refine Ba (Ao (Ao (Bb (t_ (?_)))));refine JU (fun h=>∃x y,h.bx=[[.sl 2 (s.files.map Bp) none, .sl 3 (s.mounts.map Cu) none, .sl 1 ((p::ps).map Cx) none,x,y, .v (.int .i64 dr.1), .v (.int .i64 dr.2), .v (.string nm), .v (.bool mi), .v (.bool fl), .v (.int .i64 (lk:Int))]]) 18 (by kernel_rfl) ?_;refine B7 (i:=0) rfl rfl (by kernel_rfl) (by first|rfl|exact AE rfl rfl (Az ‹_›)|exact AE rfl rfl (B0 ‹_›)|exact AE rfl rfl (by simp[*])) (fun h0 hS=>EP rfl ⟨rfl,rfl⟩) ⟨_,_,rfl⟩ ?_;refine B7 (i:=1) rfl rfl (by kernel_rfl) (by first|rfl|exact AE rfl rfl (Az ‹_›)|exact AE rfl rfl (B0 ‹_›)|exact AE rfl rfl (by simp[*])) (fun h0 hS=>EP rfl ⟨rfl,rfl⟩) ⟨_,_,rfl⟩ ?_
  first|refine B7 (i:=2) rfl rfl (by kernel_rfl) (by first|rfl|exact AE rfl rfl (Az ‹_›)|exact AE rfl rfl (B0 ‹_›)|exact AE rfl rfl (by simp[*])) (fun h0 hS=>Fs rfl ⟨rfl,rfl⟩) ⟨_,_,rfl⟩ ?_|refine B7 (i:=2) rfl rfl (by kernel_rfl) (by first|rfl|exact AE rfl rfl (Az ‹_›)|exact AE rfl rfl (B0 ‹_›)|exact AE rfl rfl (by simp[*])) (fun h0 hS=>Ft rfl ⟨rfl,rfl⟩) ⟨_,_,rfl⟩ ?_
  first|refine B7 (i:=3) rfl rfl (by kernel_rfl) (by first|rfl|exact AE rfl rfl (Az ‹_›)|exact AE rfl rfl (B0 ‹_›)|exact AE rfl rfl (by simp[*])) (fun h0 hS=>EF rfl ⟨rfl,rfl⟩) ⟨_,_,rfl⟩ ?_|refine B7 (i:=3) rfl rfl (by kernel_rfl) (by first|rfl|exact AE rfl rfl (Az ‹_›)|exact AE rfl rfl (B0 ‹_›)|exact AE rfl rfl (by simp[*])) (fun h0 hS=>Fu rfl ⟨rfl,rfl⟩) ⟨_,_,rfl⟩ ?_
  first|refine B7 (i:=4) rfl rfl (by kernel_rfl) (by first|rfl|exact AE rfl rfl (Az ‹_›)|exact AE rfl rfl (B0 ‹_›)|exact AE rfl rfl (by simp[*])) (fun h0 hS=>by obtain⟨x,y,e⟩:=hS;exact EZ (row:=[.sl 2 (s.files.map Bp) none, .sl 3 (s.mounts.map Cu) none, .sl 1 ((p::ps).map Cx) none,x,y, .v (.int .i64 dr.1), .v (.int .i64 dr.2), .v (.string nm), .v (.bool mi), .v (.bool fl), .v (.int .i64 (lk:Int))]) rfl (by rw[e];rfl) rfl (show _=AV.agg (As s)∧_ from⟨rfl,rfl⟩)) ⟨_,_,rfl⟩ ?_|refine B7 (i:=4) rfl rfl (by kernel_rfl) (by first|rfl|exact AE rfl rfl (Az ‹_›)|exact AE rfl rfl (B0 ‹_›)|exact AE rfl rfl (by simp[*])) (fun h0 hS=>Bd rfl rfl rfl ⟨rfl,rfl⟩) ⟨_,_,rfl⟩ ?_|refine B7 (i:=4) rfl rfl (by kernel_rfl) (by first|rfl|exact AE rfl rfl (Az ‹_›)|exact AE rfl rfl (B0 ‹_›)|exact AE rfl rfl (by simp[*])) (fun h0 hS=>Eg rfl rfl rfl ⟨rfl,rfl⟩) ⟨_,_,rfl⟩ ?_|refine B7 (i:=4) rfl rfl (by kernel_rfl) (by first|rfl|exact AE rfl rfl (Az ‹_›)|exact AE rfl rfl (B0 ‹_›)|exact AE rfl rfl (by simp[*])) (fun h0 hS=>Fv rfl rfl ⟨rfl,rfl⟩) ⟨_,_,rfl⟩ ?_|refine B7 (i:=4) rfl rfl (by kernel_rfl) (by first|rfl|exact AE rfl rfl (Az ‹_›)|exact AE rfl rfl (B0 ‹_›)|exact AE rfl rfl (by simp[*])) (fun h0 hS=>Gv rfl rfl ⟨rfl,rfl⟩) ⟨_,_,rfl⟩ ?_|refine B7 (i:=4) rfl rfl (by kernel_rfl) (by first|rfl|exact AE rfl rfl (Az ‹_›)|exact AE rfl rfl (B0 ‹_›)|exact AE rfl rfl (by simp[*])) (fun h0 hS=>EZ rfl rfl rfl ⟨rfl,rfl⟩) ⟨_,_,rfl⟩ ?_|refine B7 (i:=4) rfl rfl (by kernel_rfl) (by first|rfl|exact AE rfl rfl (Az ‹_›)|exact AE rfl rfl (B0 ‹_›)|exact AE rfl rfl (by simp[*])) (fun h0 hS=>GR rfl rfl ⟨rfl,rfl⟩) ⟨_,_,rfl⟩ ?_
  refine B7 (i:=5) rfl rfl (by kernel_rfl) (by first|rfl|exact AE rfl rfl (Az ‹_›)|exact AE rfl rfl (B0 ‹_›)|exact AE rfl rfl (by simp[*])) (fun h0 hS=>EP rfl ⟨rfl,rfl⟩) ⟨_,_,rfl⟩ ?_
  first|refine B7 (i:=6) rfl rfl (by kernel_rfl) (by first|rfl|exact AE rfl rfl (Az ‹_›)|exact AE rfl rfl (B0 ‹_›)|exact AE rfl rfl (by simp[*])) (fun h0 hS=>Fs rfl ⟨rfl,rfl⟩) ⟨_,_,rfl⟩ ?_|refine B7 (i:=6) rfl rfl (by kernel_rfl) (by first|rfl|exact AE rfl rfl (Az ‹_›)|exact AE rfl rfl (B0 ‹_›)|exact AE rfl rfl (by simp[*])) (fun h0 hS=>Ft rfl ⟨rfl,rfl⟩) ⟨_,_,rfl⟩ ?_
  first|refine B7 (i:=7) rfl rfl (by kernel_rfl) (by first|rfl|exact AE rfl rfl (Az ‹_›)|exact AE rfl rfl (B0 ‹_›)|exact AE rfl rfl (by simp[*])) (fun h0 hS=>EF rfl ⟨rfl,rfl⟩) ⟨_,_,rfl⟩ ?_|refine B7 (i:=7) rfl rfl (by kernel_rfl) (by first|rfl|exact AE rfl rfl (Az ‹_›)|exact AE rfl rfl (B0 ‹_›)|exact AE rfl rfl (by simp[*])) (fun h0 hS=>Fu rfl ⟨rfl,rfl⟩) ⟨_,_,rfl⟩ ?_
  first|refine B7 (i:=8) rfl rfl (by kernel_rfl) (by first|rfl|exact AE rfl rfl (Az ‹_›)|exact AE rfl rfl (B0 ‹_›)|exact AE rfl rfl (by simp[*])) (fun h0 hS=>by obtain⟨x,y,e⟩:=hS;exact EZ (row:=[.sl 2 (s.files.map Bp) none, .sl 3 (s.mounts.map Cu) none, .sl 1 ((p::ps).map Cx) none,x,y, .v (.int .i64 dr.1), .v (.int .i64 dr.2), .v (.string nm), .v (.bool mi), .v (.bool fl), .v (.int .i64 (lk:Int))]) rfl (by rw[e];rfl) rfl (show _=AV.agg (As s)∧_ from⟨rfl,rfl⟩)) ⟨_,_,rfl⟩ ?_|refine B7 (i:=8) rfl rfl (by kernel_rfl) (by first|rfl|exact AE rfl rfl (Az ‹_›)|exact AE rfl rfl (B0 ‹_›)|exact AE rfl rfl (by simp[*])) (fun h0 hS=>Bd rfl rfl rfl ⟨rfl,rfl⟩) ⟨_,_,rfl⟩ ?_|refine B7 (i:=8) rfl rfl (by kernel_rfl) (by first|rfl|exact AE rfl rfl (Az ‹_›)|exact AE rfl rfl (B0 ‹_›)|exact AE rfl rfl (by simp[*])) (fun h0 hS=>Eg rfl rfl rfl ⟨rfl,rfl⟩) ⟨_,_,rfl⟩ ?_|refine B7 (i:=8) rfl rfl (by kernel_rfl) (by first|rfl|exact AE rfl rfl (Az ‹_›)|exact AE rfl rfl (B0 ‹_›)|exact AE rfl rfl (by simp[*])) (fun h0 hS=>Fv rfl rfl ⟨rfl,rfl⟩) ⟨_,_,rfl⟩ ?_|refine B7 (i:=8) rfl rfl (by kernel_rfl) (by first|rfl|exact AE rfl rfl (Az ‹_›)|exact AE rfl rfl (B0 ‹_›)|exact AE rfl rfl (by simp[*])) (fun h0 hS=>Gv rfl rfl ⟨rfl,rfl⟩) ⟨_,_,rfl⟩ ?_|refine B7 (i:=8) rfl rfl (by kernel_rfl) (by first|rfl|exact AE rfl rfl (Az ‹_›)|exact AE rfl rfl (B0 ‹_›)|exact AE rfl rfl (by simp[*])) (fun h0 hS=>EZ rfl rfl rfl ⟨rfl,rfl⟩) ⟨_,_,rfl⟩ ?_|refine B7 (i:=8) rfl rfl (by kernel_rfl) (by first|rfl|exact AE rfl rfl (Az ‹_›)|exact AE rfl rfl (B0 ‹_›)|exact AE rfl rfl (by simp[*])) (fun h0 hS=>GR rfl rfl ⟨rfl,rfl⟩) ⟨_,_,rfl⟩ ?_
  refine B7 (i:=9) rfl rfl (by kernel_rfl) (by first|rfl|exact AE rfl rfl (Az ‹_›)|exact AE rfl rfl (B0 ‹_›)|exact AE rfl rfl (by simp[*])) (fun h0 hS=>EP rfl ⟨rfl,rfl⟩) ⟨_,_,rfl⟩ ?_
  first|refine B7 (i:=10) rfl rfl (by kernel_rfl) (by first|rfl|exact AE rfl rfl (Az ‹_›)|exact AE rfl rfl (B0 ‹_›)|exact AE rfl rfl (by simp[*])) (fun h0 hS=>Fs rfl ⟨rfl,rfl⟩) ⟨_,_,rfl⟩ ?_|refine B7 (i:=10) rfl rfl (by kernel_rfl) (by first|rfl|exact AE rfl rfl (Az ‹_›)|exact AE rfl rfl (B0 ‹_›)|exact AE rfl rfl (by simp[*])) (fun h0 hS=>Ft rfl ⟨rfl,rfl⟩) ⟨_,_,rfl⟩ ?_
  first|refine B7 (i:=11) rfl rfl (by kernel_rfl) (by first|rfl|exact AE rfl rfl (Az ‹_›)|exact AE rfl rfl (B0 ‹_›)|exact AE rfl rfl (by simp[*])) (fun h0 hS=>EF rfl ⟨rfl,rfl⟩) ⟨_,_,rfl⟩ ?_|refine B7 (i:=11) rfl rfl (by kernel_rfl) (by first|rfl|exact AE rfl rfl (Az ‹_›)|exact AE rfl rfl (B0 ‹_›)|exact AE rfl rfl (by simp[*])) (fun h0 hS=>Fu rfl ⟨rfl,rfl⟩) ⟨_,_,rfl⟩ ?_
  first|refine c_ 12 rfl (Bd rfl rfl rfl ?_)|refine c_ 12 rfl (Eg rfl rfl rfl ?_)|refine c_ 12 rfl (Fv rfl rfl ?_)|refine c_ 12 rfl (Gv rfl rfl ?_)|refine c_ 12 rfl (EZ rfl rfl rfl ?_)|refine c_ 12 rfl (GR rfl rfl ?_)
  refine⟨.inr ⟨_,_,rfl⟩,?_⟩;refine c_ 13 rfl (AN (YD hs hv a) ?_);rintro r rfl;refine⟨.inr ⟨_,_,rfl⟩,?_⟩;refine c_ 14 rfl (AN (O0 s (DH s (s.mounts.length+1) a) hs) ?_);rintro r rfl;refine⟨.inr ⟨_,_,rfl⟩,?_⟩
  first|refine B7 (i:=15) rfl rfl (by kernel_rfl) (by first|rfl|exact AE rfl rfl (Az ‹_›)|exact AE rfl rfl (B0 ‹_›)|exact AE rfl rfl (by simp[*])) (fun h0 hS=>Fs rfl ⟨rfl,rfl⟩) ⟨_,_,rfl⟩ ?_|refine B7 (i:=15) rfl rfl (by kernel_rfl) (by first|rfl|exact AE rfl rfl (Az ‹_›)|exact AE rfl rfl (B0 ‹_›)|exact AE rfl rfl (by simp[*])) (fun h0 hS=>Ft rfl ⟨rfl,rfl⟩) ⟨_,_,rfl⟩ ?_
  first|refine B7 (i:=16) rfl rfl (by kernel_rfl) (by first|rfl|exact AE rfl rfl (Az ‹_›)|exact AE rfl rfl (B0 ‹_›)|exact AE rfl rfl (by simp[*])) (fun h0 hS=>EF rfl ⟨rfl,rfl⟩) ⟨_,_,rfl⟩ ?_|refine B7 (i:=16) rfl rfl (by kernel_rfl) (by first|rfl|exact AE rfl rfl (Az ‹_›)|exact AE rfl rfl (B0 ‹_›)|exact AE rfl rfl (by simp[*])) (fun h0 hS=>Fu rfl ⟨rfl,rfl⟩) ⟨_,_,rfl⟩ ?_
  refine BA 17 rfl (B1 rfl rfl rfl rfl rfl rfl (by repeat constructor) (by repeat constructor) ?_);refine⟨.inr ⟨_,_,rfl⟩,?_⟩;refine z_ (h:=Ay (t_ (q_ (w_ (m_ (h:=m_ (h:=m_ (h:=m_ (h:=Aa (h:=k_ (h:=f_ (h:=s_ (h:=k_ (h:=f_ (h:=s_ (h:=k_ (h:=f_ (h:=s_ (h:=e_ (w_ (a_ (h:=e_ (A4 (?_))))))))))))))))))))))));refine A9 (Ab (A9 (?_)));refine BS none (h5:=(AM _)) (h6:=⟨_,rfl,rfl, .inr ⟨⟨ps,CS s s.mounts.length (DH s (s.mounts.length+1) a),(0,0),⟨#[]⟩,mi,lk⟩,by unfold Dj;rw[if_neg (by simp[hc1]),if_neg (by omega),if_pos hc3],rfl,rfl⟩⟩)
 have hc3:=bp hb3;refine AO (w_ (Ah (h:=a_ (h:=e_ (?_)))));refine AA rfl (fun hb4=>?_) (fun hb4=>?_)
 ·have hc4:=bp hb4;refine Ba (Ao (KK rfl (Ao (Bb (t_ (q_ (w_ (m_ (h:=m_ (h:=m_ (h:=m_ (h:=Aa (h:=k_ (h:=f_ (h:=s_ (h:=k_ (h:=f_ (h:=s_ (h:=k_ (h:=f_ (h:=s_ (h:=e_ (w_ (?_))))))))))))))))))))))));refine a_ (h:=e_ (A4 (A9 (Ab (A9 (?_))))));refine BS none (h5:=(AM _)) (h6:=⟨_,rfl,rfl, .inr ⟨⟨ps,a,(0,0),⟨#[]⟩,mi,lk⟩,by unfold Dj;rw[if_neg (by simp[hc1]),if_neg (by omega),if_neg hc3,if_pos hc4],rfl,rfl⟩⟩)
 have hc4:=bp hb4;refine AO (Ba (KK rfl (Ao (KK rfl (Ao (Bb (t_ (q_ (w_ (m_ (h:=?_)))))))))));refine A8 rfl (AN (ZG p) ?_);rintro r rfl;refine Bt (h:=e_ (?_));refine AA rfl (fun hb5=>?_) (fun hb5=>?_)
 ·have hc5:=bp hb5;refine w_ (a_ (h:=e_ (A4 (A9 (?_)))));refine BS none (h5:=(AM _)) (h6:=⟨_,rfl,rfl, .inl ⟨2,by unfold Dj;rw[if_neg (by simp[hc1]),if_neg (by omega),if_neg hc3,if_neg hc4,if_pos hc5],by decide,rfl,rfl⟩⟩)
 have hc5:=bp hb5;refine AO (?_);refine Gz (⟨look [(0, .bp 0 0),(3, .v (.string p)),(4, .sl 1 (ps.map Cx) none),(5, .bp 1 0),(6, .v (.int .i64 (AK s.files a p).2))],⟨[Dk s fl ⟨p::ps,a,dr,nm,mi,lk⟩,A7 (AK s.files a p).1],[]⟩⟩) ?_ ?_
 ·skip
  refine Bo ([(0,Dk s fl ⟨p::ps,a,dr,nm,mi,lk⟩)]) 17 (h:=AQ 0 (h:=BL 1 (h:=AJ 2 (h:=AJ 3 (h:=AF 4 (h:=AQ 5 (h:=BL 6 (h:=AJ 7 (h:=AF 8 (h:=AQ 9 (h:=?_)))))))))));refine Fa 10 14 rfl rfl ?_ ?_
  ·refine AN (PO s.files a p hs.files) ?_;rintro r rfl;refine o_ (h:=?_);refine AQ 11 (h:=BU 12 (h:=BU 13 (h:=?_)));refine c_ 14 rfl (Cn (by repeat constructor) ?_);refine o_ (h:=?_);refine BA 15 rfl (B1 rfl rfl rfl rfl rfl rfl (by repeat constructor) (by repeat constructor) ?_);refine o_ (h:=BO 16 (h:=z_ (h:=?_)));refine AG ?_
   first|(exfalso;first|contradiction|omega)|exact B4 2 0 rfl rfl rfl rfl (by repeat (first|exact Sub.nil|refine B9 rfl rfl ?_|refine BD ?_|refine BE rfl ?_|refine BF rfl ?_|(apply Sub.of;(focus exact rfl);(focus exact LeA.of_eq (vb (by rfl)));(focus exact rfl))))
  refine Cn (by repeat constructor) ?_;refine o_ (h:=?_);refine c_ 10 rfl (AN (PO s.files a p hs.files) ?_);rintro r rfl;refine o_ (h:=AQ 11 (h:=BU 12 (h:=BU 13 (h:=?_))));refine BA 15 rfl (B1 rfl rfl rfl rfl rfl rfl (by repeat constructor) (by repeat constructor) ?_);refine o_ (h:=BO 16 (h:=z_ (h:=?_)));refine AG ?_
  first|(exfalso;first|contradiction|omega)|exact B4 2 0 rfl rfl rfl rfl (by repeat (first|exact Sub.nil|refine B9 rfl rfl ?_|refine BD ?_|refine BE rfl ?_|refine BF rfl ?_|(apply Sub.of;(focus exact rfl);(focus exact LeA.of_eq (vb (by rfl)));(focus exact rfl))))
 skip
 refine q_ (w_ (m_ (h:=Bf (h:=e_ (?_)))));refine AA rfl (fun hb6=>?_) (fun hb6=>?_)
 ·have hc6:=bp hb6;refine q_ (w_ (m_ (h:=n_ (h:=Co (h:=e_ (?_))))));refine AA rfl (fun hb7=>?_) (fun hb7=>?_)
  ·have hc7:=bp hb7;have hps:ps≠[]:=fun e=>by rw[e]at hml hc7;simp at hc7
   refine w_ (a_ (h:=e_ (A4 (A9 (A9 (?_))))));refine BS none (h5:=(AM _)) (h6:=⟨_,rfl,rfl, .inl ⟨2,by unfold Dj;rw[if_neg (by simp[hc1]),if_neg (by omega),if_neg hc3,if_neg hc4,if_neg (by simp[hc5]),if_pos hc6,if_pos hps],by decide,rfl,rfl⟩⟩)
  have hc7:=bp hb7;have hps:¬ps≠[]:=fun e=>e (DC (by omega));refine AO (w_ (m_ (h:=m_ (h:=m_ (h:=m_ (h:=m_ (h:=m_ (h:=k_ (h:=f_ (h:=l_ (h:=m_ (h:=k_ (h:=f_ (h:=s_ (h:=k_ (h:=f_ (h:=s_ (h:=k_ (h:=f_ (h:=s_ (h:=k_ (h:=f_ (h:=s_ (h:=?_))))))))))))))))))))))));refine e_ (w_ (a_ (h:=e_ (A4 (A9 (?_))))));refine BS none (h5:=(AM _)) (h6:=⟨_,rfl,rfl, .inr ⟨⟨ps,a,a,p,true,lk⟩,by unfold Dj;rw[if_neg (by simp[hc1]),if_neg (by omega),if_neg hc3,if_neg hc4,if_neg (by simp[hc5]),if_pos hc6,if_neg hps],rfl,rfl⟩⟩)
 have hc6:=bp hb6;refine AO (?_);refine Gz (⟨look [(0, .bp 0 0),(3, .v (.string p)),(4, .sl 1 (ps.map Cx) none),(5, .bp 1 0),(7, .bp 2 0)],⟨[Dk s fl ⟨p::ps,a,dr,nm,mi,lk⟩,A7 (AK s.files a p).1,AW (AU s.files (AK s.files a p).1)],[]⟩⟩) ?_ ?_
 ·skip
  refine Bo ([(0,Dk s fl ⟨p::ps,a,dr,nm,mi,lk⟩),(1,A7 (AK s.files a p).1)]) 13 (h:=AQ 0 (h:=BL 1 (h:=AJ 2 (h:=AJ 3 (h:=AF 4 (h:=AF 5 (h:=?_)))))));refine Fa 6 10 rfl rfl ?_ ?_
  ·refine AN (G5 s.files (AK s.files a p).1 hs.files) ?_;rintro r rfl;refine o_ (h:=?_);refine AQ 7 (h:=BU 8 (h:=BU 9 (h:=?_)));refine c_ 10 rfl (Cn (by repeat constructor) ?_);refine o_ (h:=?_);refine BA 11 rfl (B1 rfl rfl rfl rfl rfl rfl (by repeat constructor) (by repeat constructor) ?_);refine o_ (h:=BO 12 (h:=z_ (h:=?_)));refine AG ?_
   first|(exfalso;first|contradiction|omega)|exact B4 3 0 rfl rfl rfl rfl (by repeat (first|exact Sub.nil|refine B9 rfl rfl ?_|refine BD ?_|refine BE rfl ?_|refine BF rfl ?_|(apply Sub.of;(focus exact rfl);(focus exact LeA.of_eq (vb (by rfl)));(focus exact rfl))))
  refine Cn (by repeat constructor) ?_;refine o_ (h:=?_);refine c_ 6 rfl (AN (G5 s.files (AK s.files a p).1 hs.files) ?_);rintro r rfl;refine o_ (h:=AQ 7 (h:=BU 8 (h:=BU 9 (h:=?_))));refine BA 11 rfl (B1 rfl rfl rfl rfl rfl rfl (by repeat constructor) (by repeat constructor) ?_);refine o_ (h:=BO 12 (h:=z_ (h:=?_)));refine AG ?_
  first|(exfalso;first|contradiction|omega)|exact B4 3 0 rfl rfl rfl rfl (by repeat (first|exact Sub.nil|refine B9 rfl rfl ?_|refine BD ?_|refine BE rfl ?_|refine BF rfl ?_|(apply Sub.of;(focus exact rfl);(focus exact LeA.of_eq (vb (by rfl)));(focus exact rfl))))
 skip
 refine q_ (?_);refine Gz (⟨look [(0, .bp 0 0),(3, .v (.string p)),(4, .sl 1 (ps.map Cx) none),(5, .bp 1 0),(7, .bp 2 0),(122, .v (.bool (decide ((AU s.files (AK s.files a p).1).kind=3)&&(decide (0<((ps.map Cx).length:Int))||fl))))],⟨[Dk s fl ⟨p::ps,a,dr,nm,mi,lk⟩,A7 (AK s.files a p).1,AW (AU s.files (AK s.files a p).1)],[]⟩⟩) ?_ ?_
 ·skip
  refine AX (f_ (h:=l_ (h:=Ah (h:=m_ (h:=?_)))));refine Aw true rfl rfl (fun hb8=>?_) (fun hb8=>?_)
  ·have hc8:=bp hb8;refine m_ (h:=n_ (h:=Co (h:=m_ (h:=?_))));refine Aw false rfl rfl (fun hb9=>?_) (fun hb9=>?_)
   ·have hc9:=bp hb9;refine A3 (h:=A3 (h:=A3 (h:=A3 (h:=AY (h:=AY (h:=AT (?_)))))));refine AG ?_
    first|(exfalso;first|contradiction|omega)|exact B4 3 0 rfl rfl rfl rfl (by repeat (first|exact Sub.nil|refine B9 rfl rfl ?_|refine BD ?_|refine BE rfl ?_|refine BF rfl ?_|(apply Sub.of;(focus exact rfl);(focus exact LeA.of_eq (vb (by first|(rw[hb8];rfl)|(rw[hb8,hb9];rfl))));(focus exact rfl))))
   have hc9:=bp hb9;refine m_ (h:=k_ (h:=f_ (h:=l_ (h:=Aj (h:=AY (h:=AT (?_)))))));refine AG ?_
   first|(exfalso;first|contradiction|omega)|exact B4 3 0 rfl rfl rfl rfl (by repeat (first|exact Sub.nil|refine B9 rfl rfl ?_|refine BD ?_|refine BE rfl ?_|refine BF rfl ?_|(apply Sub.of;(focus exact rfl);(focus exact LeA.of_eq (vb (by first|(rw[hb8];rfl)|(rw[hb8,hb9];rfl))));(focus exact rfl))))
  have hc8:=bp hb8;refine A3 (h:=A3 (h:=A3 (h:=A3 (h:=Jb (h:=Jb (h:=Jb (h:=Jb (h:=A3 (h:=Aj (h:=AT (?_)))))))))));refine AG ?_
  first|(exfalso;first|contradiction|omega)|exact B4 3 0 rfl rfl rfl rfl (by repeat (first|exact Sub.nil|refine B9 rfl rfl ?_|refine BD ?_|refine BE rfl ?_|refine BF rfl ?_|(apply Sub.of;(focus exact rfl);(focus exact LeA.of_eq (vb (by first|(rw[hb8];rfl)|(rw[hb8,hb9];rfl))));(focus exact rfl))))
 skip
 refine AA rfl (fun hb10=>?_) (fun hb10=>?_)
 ·have hc10:=bp hb10
  have hlk:(AU s.files (AK s.files a p).1).kind=3∧(ps≠[]∨fl=true):=by
   simp only[Bool.and_eq_true,Bool.or_eq_true,decide_eq_true_eq]at hc10;exact⟨hc10.1,hc10.2.imp (fun h e=>by rw[e]at h;simp at h) id⟩
  refine w_ (m_ (h:=f_ (h:=l_ (h:=m_ (h:=?_)))));refine A8 rfl (QN 0 rfl (by repeat (first|exact ArgsB.nil|refine ArgsB.cons _ _ _ _ _ rfl rfl ?_)) rfl rfl (a8 s fl ⟨p::ps,a,dr,nm,mi,lk⟩ (AU s.files (AK s.files a p).1).target ps hs h8 (by omega) hrl) ?_);rintro r row2 (⟨h9,rfl,rfl⟩|⟨h9,rfl,rfl⟩)
  ·refine⟨Mu _ _ _,rfl,_,(by repeat constructor),?_⟩;refine a_ (h:=e_ (A4 (A9 (?_))));refine BS none (h5:=(AM _)) (h6:=⟨_,rfl,rfl, .inl ⟨40,by unfold Dj;rw[if_neg (by simp[hc1]),if_neg (by omega),if_neg hc3,if_neg hc4,if_neg (by simp[hc5]),if_neg (by simp[hc6]),if_pos hlk,if_pos h9],by decide,rfl,rfl⟩⟩)
  refine⟨Mu _ _ _,rfl,_,(by repeat constructor),?_⟩;refine a_ (h:=e_ (A4 (A9 (?_))));refine BS none (h5:=(AM _)) (h6:=⟨_,rfl,rfl, .inr ⟨Mt s (AU s.files (AK s.files a p).1).target ps ⟨p::ps,a,dr,nm,mi,lk⟩,by unfold Dj;rw[if_neg (by simp[hc1]),if_neg (by omega),if_neg hc3,if_neg hc4,if_neg (by simp[hc5]),if_neg (by simp[hc6]),if_pos hlk,if_neg h9];rfl,rfl,rfl⟩⟩)
 have hc10:=bp hb10
 have hlk:¬((AU s.files (AK s.files a p).1).kind=3∧(ps≠[]∨fl=true)):=fun h=>by
  rw[decide_eq_true h.1,Bool.true_and,Bool.or_eq_false_iff]at hc10;rcases h.2 with e|e
  ·exact e (DC (by have:=of_decide_eq_false hc10.1;omega))
  rw[hc10.2]at e;cases e
 refine AO (w_ (m_ (h:=m_ (h:=m_ (h:=m_ (h:=m_ (h:=k_ (h:=f_ (h:=l_ (h:=m_ (h:=k_ (h:=f_ (h:=s_ (h:=k_ (h:=f_ (h:=s_ (h:=k_ (h:=f_ (h:=s_ (h:=e_ (q_ (?_))))))))))))))))))))));refine JU (fun h=>∃x y r,h.bx=[[.sl 2 (s.files.map Bp) none, .sl 3 (s.mounts.map Cu) none, .sl 1 (ps.map Cx) none,x,y, .v (.int .i64 a.1), .v (.int .i64 a.2), .v (.string p), .v (.bool mi), .v (.bool fl), .v (.int .i64 (lk:Int))],A7 (AK s.files a p).1]++r) 10 (by kernel_rfl) ?_;refine B7 (i:=0) rfl rfl (by kernel_rfl) (by first|rfl|exact AE rfl rfl (Az ‹_›)|exact AE rfl rfl (B0 ‹_›)|exact AE rfl rfl (by simp[*])) (fun h0 hS=>EP rfl ⟨rfl,rfl⟩) ⟨_,_,_,rfl⟩ ?_;refine B7 (i:=1) rfl rfl (by kernel_rfl) (by first|rfl|exact AE rfl rfl (Az ‹_›)|exact AE rfl rfl (B0 ‹_›)|exact AE rfl rfl (by simp[*])) (fun h0 hS=>EP rfl ⟨rfl,rfl⟩) ⟨_,_,_,rfl⟩ ?_
 first|refine B7 (i:=2) rfl rfl (by kernel_rfl) (by first|rfl|exact AE rfl rfl (Az ‹_›)|exact AE rfl rfl (B0 ‹_›)|exact AE rfl rfl (by simp[*])) (fun h0 hS=>Fs rfl ⟨rfl,rfl⟩) ⟨_,_,_,rfl⟩ ?_|refine B7 (i:=2) rfl rfl (by kernel_rfl) (by first|rfl|exact AE rfl rfl (Az ‹_›)|exact AE rfl rfl (B0 ‹_›)|exact AE rfl rfl (by simp[*])) (fun h0 hS=>Ft rfl ⟨rfl,rfl⟩) ⟨_,_,_,rfl⟩ ?_
 first|refine B7 (i:=3) rfl rfl (by kernel_rfl) (by first|rfl|exact AE rfl rfl (Az ‹_›)|exact AE rfl rfl (B0 ‹_›)|exact AE rfl rfl (by simp[*])) (fun h0 hS=>EF rfl ⟨rfl,rfl⟩) ⟨_,_,_,rfl⟩ ?_|refine B7 (i:=3) rfl rfl (by kernel_rfl) (by first|rfl|exact AE rfl rfl (Az ‹_›)|exact AE rfl rfl (B0 ‹_›)|exact AE rfl rfl (by simp[*])) (fun h0 hS=>Fu rfl ⟨rfl,rfl⟩) ⟨_,_,_,rfl⟩ ?_
 first|refine B7 (i:=4) rfl rfl (by kernel_rfl) (by first|rfl|exact AE rfl rfl (Az ‹_›)|exact AE rfl rfl (B0 ‹_›)|exact AE rfl rfl (by simp[*])) (fun h0 hS=>by obtain⟨x,y,r,e⟩:=hS;exact EZ (row:=[.sl 2 (s.files.map Bp) none, .sl 3 (s.mounts.map Cu) none, .sl 1 (ps.map Cx) none,x,y, .v (.int .i64 a.1), .v (.int .i64 a.2), .v (.string p), .v (.bool mi), .v (.bool fl), .v (.int .i64 (lk:Int))]) rfl (by rw[e];rfl) rfl (show _=AV.agg (As s)∧_ from⟨rfl,rfl⟩)) ⟨_,_,_,rfl⟩ ?_|refine B7 (i:=4) rfl rfl (by kernel_rfl) (by first|rfl|exact AE rfl rfl (Az ‹_›)|exact AE rfl rfl (B0 ‹_›)|exact AE rfl rfl (by simp[*])) (fun h0 hS=>by obtain⟨x,y,r,e⟩:=hS;exact Eg (row:=A7 (AK s.files a p).1) rfl (by rw[e];rfl) rfl ⟨rfl,rfl⟩) ⟨_,_,_,rfl⟩ ?_|refine B7 (i:=4) rfl rfl (by kernel_rfl) (by first|rfl|exact AE rfl rfl (Az ‹_›)|exact AE rfl rfl (B0 ‹_›)|exact AE rfl rfl (by simp[*])) (fun h0 hS=>Bd rfl rfl rfl ⟨rfl,rfl⟩) ⟨_,_,_,rfl⟩ ?_|refine B7 (i:=4) rfl rfl (by kernel_rfl) (by first|rfl|exact AE rfl rfl (Az ‹_›)|exact AE rfl rfl (B0 ‹_›)|exact AE rfl rfl (by simp[*])) (fun h0 hS=>Eg rfl rfl rfl ⟨rfl,rfl⟩) ⟨_,_,_,rfl⟩ ?_|refine B7 (i:=4) rfl rfl (by kernel_rfl) (by first|rfl|exact AE rfl rfl (Az ‹_›)|exact AE rfl rfl (B0 ‹_›)|exact AE rfl rfl (by simp[*])) (fun h0 hS=>Fv rfl rfl ⟨rfl,rfl⟩) ⟨_,_,_,rfl⟩ ?_|refine B7 (i:=4) rfl rfl (by kernel_rfl) (by first|rfl|exact AE rfl rfl (Az ‹_›)|exact AE rfl rfl (B0 ‹_›)|exact AE rfl rfl (by simp[*])) (fun h0 hS=>Gv rfl rfl ⟨rfl,rfl⟩) ⟨_,_,_,rfl⟩ ?_|refine B7 (i:=4) rfl rfl (by kernel_rfl) (by first|rfl|exact AE rfl rfl (Az ‹_›)|exact AE rfl rfl (B0 ‹_›)|exact AE rfl rfl (by simp[*])) (fun h0 hS=>EZ rfl rfl rfl ⟨rfl,rfl⟩) ⟨_,_,_,rfl⟩ ?_|refine B7 (i:=4) rfl rfl (by kernel_rfl) (by first|rfl|exact AE rfl rfl (Az ‹_›)|exact AE rfl rfl (B0 ‹_›)|exact AE rfl rfl (by simp[*])) (fun h0 hS=>GR rfl rfl ⟨rfl,rfl⟩) ⟨_,_,_,rfl⟩ ?_
 first|refine B7 (i:=5) rfl rfl (by kernel_rfl) (by first|rfl|exact AE rfl rfl (Az ‹_›)|exact AE rfl rfl (B0 ‹_›)|exact AE rfl rfl (by simp[*])) (fun h0 hS=>by obtain⟨x,y,r,e⟩:=hS;exact EZ (row:=[.sl 2 (s.files.map Bp) none, .sl 3 (s.mounts.map Cu) none, .sl 1 (ps.map Cx) none,x,y, .v (.int .i64 a.1), .v (.int .i64 a.2), .v (.string p), .v (.bool mi), .v (.bool fl), .v (.int .i64 (lk:Int))]) rfl (by rw[e];rfl) rfl (show _=AV.agg (As s)∧_ from⟨rfl,rfl⟩)) ⟨_,_,_,rfl⟩ ?_|refine B7 (i:=5) rfl rfl (by kernel_rfl) (by first|rfl|exact AE rfl rfl (Az ‹_›)|exact AE rfl rfl (B0 ‹_›)|exact AE rfl rfl (by simp[*])) (fun h0 hS=>by obtain⟨x,y,r,e⟩:=hS;exact Eg (row:=A7 (AK s.files a p).1) rfl (by rw[e];rfl) rfl ⟨rfl,rfl⟩) ⟨_,_,_,rfl⟩ ?_|refine B7 (i:=5) rfl rfl (by kernel_rfl) (by first|rfl|exact AE rfl rfl (Az ‹_›)|exact AE rfl rfl (B0 ‹_›)|exact AE rfl rfl (by simp[*])) (fun h0 hS=>Eg rfl rfl rfl ⟨rfl,rfl⟩) ⟨_,_,_,rfl⟩ ?_
 refine c_ 6 rfl (AN (O0 s (AK s.files a p).1 hs) ?_);rintro r rfl;refine⟨.inr ⟨_,_,_,rfl⟩,?_⟩
 first|refine B7 (i:=7) rfl rfl (by kernel_rfl) (by first|rfl|exact AE rfl rfl (Az ‹_›)|exact AE rfl rfl (B0 ‹_›)|exact AE rfl rfl (by simp[*])) (fun h0 hS=>Fs rfl ⟨rfl,rfl⟩) ⟨_,_,_,rfl⟩ ?_|refine B7 (i:=7) rfl rfl (by kernel_rfl) (by first|rfl|exact AE rfl rfl (Az ‹_›)|exact AE rfl rfl (B0 ‹_›)|exact AE rfl rfl (by simp[*])) (fun h0 hS=>Ft rfl ⟨rfl,rfl⟩) ⟨_,_,_,rfl⟩ ?_
 first|refine B7 (i:=8) rfl rfl (by kernel_rfl) (by first|rfl|exact AE rfl rfl (Az ‹_›)|exact AE rfl rfl (B0 ‹_›)|exact AE rfl rfl (by simp[*])) (fun h0 hS=>EF rfl ⟨rfl,rfl⟩) ⟨_,_,_,rfl⟩ ?_|refine B7 (i:=8) rfl rfl (by kernel_rfl) (by first|rfl|exact AE rfl rfl (Az ‹_›)|exact AE rfl rfl (B0 ‹_›)|exact AE rfl rfl (by simp[*])) (fun h0 hS=>Fu rfl ⟨rfl,rfl⟩) ⟨_,_,_,rfl⟩ ?_
 refine BA 9 rfl (B1 rfl rfl rfl rfl rfl rfl (by repeat constructor) (by repeat constructor) ?_);refine⟨.inr ⟨_,_,_,rfl⟩,?_⟩;refine z_ (h:=t_ (w_ (a_ (h:=e_ (A4 (?_))))));refine BS none (h5:=(AM _)) (h6:=⟨_,rfl,rfl, .inr ⟨⟨ps,CS s s.mounts.length (AK s.files a p).1,a,p,mi,lk⟩,by unfold Dj;rw[if_neg (by simp[hc1]),if_neg (by omega),if_neg hc3,if_neg hc4,if_neg (by simp[hc5]),if_neg (by simp[hc6]),if_neg hlk],rfl,rfl⟩⟩)
end
theorem aB{s:Spc}(hv:SpcV s):Al s.files (DW s)=true:=(P5 ((TN hv _).1 (ZN hv (ZK hv (Sm hv (Int.le_refl 0) (by have:=hv.pos;omega))))).1.1).1
theorem aC{s:Spc}(fl:Bool){p:AB}{ps:List AB}{w w':Wk}(hn:w.name.size≤12)(h:Dj s fl p ps w= .inr w'):w'.name.size≤12:=by
 unfold Dj at h;split at h
 ·cases h
 split at h
 ·cases h
 rename_i h2;split at h
 ·injection h with h;subst h;exact BC _
 split at h
 ·injection h with h;subst h;exact BC _
 split at h
 ·cases h
 split at h
 ·split at h
  ·cases h
  injection h with h;subst h;exact Nat.le_of_not_lt h2
 split at h
 ·split at h
  ·cases h
  injection h with h;subst h;show ByteArray.size (if _ then _ else _)≤12;split
  ·exact BC _
  exact hn
 injection h with h;subst h;exact Nat.le_of_not_lt h2
theorem PQ{s:Spc}(hv:FlsV s.files)(fl:Bool){p:AB}{ps:List AB}{w w':Wk}(hl:w.links≤8)(h:Dj s fl p ps w= .inr w'):w'.links≤8∧(8 - w'.links) * 200+w'.ps.length<(8 - w.links) * 200+(ps.length+1):=by
 unfold Dj at h;split at h
 ·cases h
 split at h
 ·cases h
 split at h
 ·injection h with h;subst h;exact⟨hl,by simp only;omega⟩
 split at h
 ·injection h with h;subst h;exact⟨hl,by simp only;omega⟩
 split at h
 ·cases h
 split at h
 ·split at h
  ·cases h
  injection h with h;subst h;exact⟨hl,by simp only;omega⟩
 split at h
 ·split at h
  ·cases h
  rename_i h9;injection h with h;subst h;have ht:=MZ hv (AK s.files w.at_ p).1;have hs:=Jq (AU s.files (AK s.files w.at_ p).1).target;refine⟨by simp only;omega,?_⟩;simp only[List.length_append]
  have:(8 - w.links) * 200=(8 - (w.links+1)) * 200+200:=by
   rw[show 8 - w.links=(8 - (w.links+1))+1 by omega,Nat.add_mul]
  omega
 injection h with h;subst h;exact⟨hl,by simp only;omega⟩
theorem TX{s:Spc}{start:A6}{p:AB}{fl:Bool}(h1:¬p=⟨#[]⟩)(h2:128<p.size):BY s start p fl=(Cm,36):=by unfold BY;rw[if_neg h1,if_pos h2]
section
variable {s:Spc}{start a:A6}{p:AB}{fl:Bool}(h1:¬p=⟨#[]⟩)(h2:¬128<p.size)(ha:(if Cg p=true then DW s else start)=a)
include h1 h2 ha
theorem TY(hd:Al s.files a=false):BY s start p fl=(Cm,2):=by
 unfold BY;rw[if_neg h1,if_neg h2,ha,if_pos hd]
variable (hd:Al s.files a=true)
include hd
theorem Jw{e:Int}{τ:Lk}(h:DX s (fl||B2 p) (FC (CN p) a)=(e,τ))(he:e≠0):BY s start p fl=(Cm,e):=by
 unfold BY;rw[if_neg h1,if_neg h2,ha,if_neg (by simp[hd]),h,if_pos he]
theorem TZ{τ:Lk}(h:DX s (fl||B2 p) (FC (CN p) a)=(0,τ))(hs:B2 p=true∧τ.ex=true∧Al s.files τ.file=false):BY s start p fl=(Cm,20):=by
 unfold BY;rw[if_neg h1,if_neg h2,ha,if_neg (by simp[hd]),h,if_neg (by simp),if_pos hs]
theorem Mv{τ:Lk}(h:DX s (fl||B2 p) (FC (CN p) a)=(0,τ))(hs:¬(B2 p=true∧τ.ex=true∧Al s.files τ.file=false)):BY s start p fl=(Fk s (B2 p) τ,0):=by
 unfold BY;rw[if_neg h1,if_neg h2,ha,if_neg (by simp[hd]),h,if_neg (by simp),if_neg hs]
end
theorem aD(ps:List AB)(a d:A6)(hd:ps=[]→True):Sim ⟨ps,a,d,⟨#[]⟩,false,0⟩ (FC ps a):=by
 have _:=hd;exact⟨rfl,rfl,rfl,fun _=>rfl,fun h=>(by cases h),fun _ _=>⟨fun _=>⟨rfl,rfl⟩,fun h=>absurd rfl h⟩⟩
def Mw(s:Spc)(F:Bool)(σ0:Lk)(w:Wk):Prop:=w.links≤8∧w.name.size≤12∧∃σ,Sim w σ∧DX s F σ=DX s F σ0
theorem Ta{s:Spc}(hv:SpcV s){F:Bool}{σ0:Lk}{w:Wk}{p:AB}{ps:List AB}(hps:w.ps=p::ps)(h:Mw s F σ0 w):(∀e,Dj s F p ps w= .inl e→DX s F σ0=(e,Mn))∧∀w',Dj s F p ps w= .inr w'→Mw s F σ0 w':=by
 obtain⟨h8,hn,σ,hS,hT⟩:=h
 have hm:w.missing=false:=by
  cases hm:w.missing with
  |false=>rfl
  |true=>have:=(hS.gone hm).2.1;rw[hps]at this;cases this
 have h8σ:σ.links≤8:=by rw[←hS.links];exact h8
 have hc:=Sq hv.files (fl:=F) h8σ (hS.ps.symm.trans hps);rcases ZV hv F (p:=p) (ps:=ps) hS hm with⟨e,q1,q2⟩|⟨w1,τ,q1,q2,q3⟩
 ·refine⟨fun e' he=>?_,fun w' hw=>by rw[q1]at hw;cases hw⟩;rw[q1]at he;injection he with he;subst he;rw[←hT,hc,q2]
 refine⟨fun e' he=>by(rw[q1]at he;cases he),fun w' hw=>?_⟩;have k1:=PQ hv.files F h8 hw;have k2:=aC F hn hw;rw[q1]at hw;injection hw with hw;subst hw;refine⟨k1.1,k2,τ,q3,?_⟩;rw[←hT,hc,q2]
theorem aF{s:Spc}(hv:SpcV s){F:Bool}{σ0:Lk}{w:Wk}(hps:w.ps=[])(h:Mw s F σ0 w):∃σ,DX s F σ0=(0,σ)∧σ.ex= !w.missing∧(w.missing=false→σ.file=w.at_)∧∀sl,FF s sl w=Fk s sl σ:=by
 obtain⟨h8,hn,σ,hS,hT⟩:=h;exact⟨σ,by rw[←hT];exact P8 (hS.ps.symm.trans hps),hS.ex,fun hm=>(hS.here hm).symm,fun sl=>ZW hv hS hps⟩
section
theorem aG(s:Spc)(start:A6)(p:AB)(fl:Bool)(hs:SpcN s)(hv:SpcV s)(hp:p.size≤1000000):AFn prog 53 [.agg (As s), .agg (A7 start), .v (.string p), .v (.bool fl)] (fun r=>r= .tup [.agg (Aq (BY s start p fl).1), .v (.int .i64 (BY s start p fl).2)]):=by
 have hw:=P3 hv;have hri:=aB hv;refine enter Tryz.func53 rfl rfl rfl rfl rfl 0 rfl ?_;refine w_ (b_ (h:=b_ (h:=Ak (h:=a_ (h:=e_ (q_ (Ap (w_ (m_ (h:=Ah (h:=a_ (h:=e_ (?_)))))))))))));refine AA rfl (fun hb1=>?_) (fun hb1=>?_)
 ·have hc1:=bp hb1;refine w_ (Aa (h:=s_ (h:=a_ (h:=e_ (A4 (Ab (A9 (?_))))))));refine AD ?_;rw[show BY s start p fl=(Cm,2) from if_pos hc1];rfl
 have hc1:=bp hb1;refine w_ (m_ (h:=n_ (h:=Co (h:=a_ (h:=e_ (?_))))));refine AA rfl (fun hb2=>?_) (fun hb2=>?_)
 ·have hc2:=bp hb2;refine w_ (Aa (h:=s_ (h:=a_ (h:=e_ (A4 (Ab (A9 (?_))))))));refine AD ?_;rw[TX hc1 (by omega)];rfl
 have hc2:=bp hb2;refine BH (Ay (t_ (w_ (m_ (h:=?_)))));refine A8 rfl (AN (TU p (by omega)) ?_);rintro r rfl;refine m_ (h:=x_ (h:=x_ (h:=x_ (h:=a_ (h:=a_ (h:=a_ (h:=e_ (?_))))))));refine BR (fun t=>t=⟨look [(2, .v (.string p)),(4, .bp 0 0),(5, .bp 1 0),(8, .bp 2 0),(11, .v (.bool (Cg p))),(12, .v (.bool (B2 p))),(13, .bp 3 0)],⟨[As s,A7 start,Aq Cm,Dk s (fl||B2 p) ⟨CN p,start,(0,0),⟨#[]⟩,false,0⟩],[]⟩⟩) ?_ ?_
 ·skip
  refine AX (l_ (h:=m_ (h:=l_ (h:=m_ (h:=m_ (h:=?_))))));refine Aw false rfl rfl (fun hb3=>?_) (fun hb3=>?_)
  ·have hc3:=bp hb3;refine A3 (h:=AY (h:=Aa (h:=Ak (h:=s_ (h:=AT (?_))))));refine AG ?_
   first|(rw[hb3];exact⟨_,rfl,(wk 4 0)⟩)|exact⟨_,rfl,(wk 4 0)⟩
  have hc3:=bp hb3;refine m_ (h:=Aj (h:=Aa (h:=Ak (h:=s_ (h:=AT (?_))))));refine AG ?_
  first|(rw[hb3];exact⟨_,rfl,(wk 4 0)⟩)|exact⟨_,rfl,(wk 4 0)⟩
 rintro t rfl;refine BR (fun t=>∃a,(if Cg p=true then DW s else start)=a∧Al s.files a=true∧t=⟨look [(4, .bp 0 0),(8, .bp 2 0),(12, .v (.bool (B2 p))),(13, .bp 3 0)],⟨[As s,A7 start,Aq Cm,Dk s (fl||B2 p) ⟨CN p,a,(0,0),⟨#[]⟩,false,0⟩],[]⟩⟩) ?_ ?_
 ·skip
  refine w_ (m_ (h:=e_ (?_)));refine AA rfl (fun hb4=>?_) (fun hb4=>?_)
  ·have hc4:=bp hb4;refine AX (l_ (h:=?_));refine A8 rfl (AN (TW s hs.b) ?_);rintro r rfl;refine f_ (h:=s_ (h:=AT (?_)));refine AG ?_
   first|exact⟨_,⟨DW s,if_pos hc4,hri,rfl⟩,(wk 4 0)⟩|exact⟨_,⟨start,if_neg (by simp[hc4]),by simpa using hc5,rfl⟩,(wk 4 0)⟩
  have hc4:=bp hb4;refine w_ (?_);refine A8 rfl (EJ 1 rfl (.cons _ _ _ _ _ rfl (AM _) .nil) (PP s (fl||B2 p) ⟨CN p,start,(0,0),⟨#[]⟩,false,0⟩ hs.b) ?_);rintro r rfl;refine⟨rfl,?_⟩;refine Bt (h:=e_ (?_));refine AA rfl (fun hb5=>?_) (fun hb5=>?_)
  ·have hc5:=bp hb5;refine w_ (Aa (h:=s_ (h:=a_ (h:=e_ (A4 (A9 (?_)))))));refine AD ?_;rw[TY hc1 (by omega) (if_neg (by simp[hc4])) (by simpa using hc5)];rfl
  have hc5:=bp hb5;refine BH (?_);refine AG ?_
  first|exact⟨_,⟨DW s,if_pos hc4,hri,rfl⟩,(wk 4 0)⟩|exact⟨_,⟨start,if_neg (by simp[hc4]),by simpa using hc5,rfl⟩,(wk 4 0)⟩
 rintro t ⟨a,ha,had,rfl⟩;refine q_ (Ap (?_));refine By (fun m t=>∃w,Mw s (fl||B2 p) (FC (CN p) a) w∧m=(8 - w.links) * 200+w.ps.length∧m≤1600+(p.size+1)∧t=⟨look [(4, .bp 0 0),(8, .bp 2 0),(12, .v (.bool (B2 p))),(13, .bp 3 0)],⟨[As s,A7 start,Aq Cm,Dk s (fl||B2 p) w],[]⟩⟩) ((8 - 0) * 200+(CN p).length) ((wk 4 0)) (⟨_,⟨BC _,BC _,_,aD (CN p) a (0,0) (fun _=>trivial),rfl⟩,rfl,by have:=Jq p;omega,rfl⟩) ?_;rintro m t ⟨w,hR,rfl,hm,rfl⟩;have hml:(w.ps.map Cx).length=w.ps.length:=by simp
 refine q_ (w_ (f_ (h:=l_ (h:=n_ (h:=Co (h:=e_ (?_)))))));refine AA rfl (fun hb6=>?_) (fun hb6=>?_)
 ·have hc6:=bp hb6
  obtain⟨q,qs,hqs⟩:∃q qs,w.ps=q::qs:=by
   cases hq:w.ps with
   |nil=>rw[hq]at hml hc6;simp at hc6
   |cons q qs=>exact⟨q,qs,rfl⟩
  have hql:w.ps.length=qs.length+1:=by rw[hqs];rfl
  refine AO (Ap (w_ (?_)));refine A8 rfl (QN 3 rfl (by repeat (first|exact ArgsB.nil|refine ArgsB.cons _ _ _ _ _ rfl rfl ?_)) rfl rfl (aA s (fl||B2 p) w q qs hqs hs.b hv hR.1 (by omega)) ?_);rintro r row2 (⟨e,he,he0,rfl,rfl⟩|⟨w2,hw2,rfl,rfl⟩)
  ·refine⟨Mu _ _ _,rfl,_,(by repeat constructor),?_⟩;refine a_ (h:=e_ (w_ (m_ (h:=Bf (h:=e_ (?_))))));refine AA rfl (fun hb7=>?_) (fun hb7=>?_)
   ·have hc7:=bp hb7;refine w_ (Aa (h:=m_ (h:=s_ (h:=a_ (h:=e_ (A4 (Ab (A9 (Ab (A9 (?_)))))))))));refine AD ?_;rw[Jw hc1 (by omega) ha had ((Ta hv hqs hR).1 e he) he0];rfl
   have hc7:=bp hb7;exact absurd hc7 he0
  refine⟨Mu _ _ _,rfl,_,(by repeat constructor),?_⟩;refine a_ (h:=e_ (w_ (m_ (h:=Bf (h:=e_ (?_))))));refine AA rfl (fun hb8=>?_) (fun hb8=>?_)
  ·have hc8:=bp hb8;exact absurd rfl hc8
  have hc8:=bp hb8;refine BH (Ay (?_));refine AG ?_;exact⟨(8 - w2.links) * 200+w2.ps.length,_,(by have:=(PQ hv.files _ hR.1 hw2).2;omega),⟨w2,(Ta hv hqs hR).2 w2 hw2,rfl,by have:=(PQ hv.files _ hR.1 hw2).2;omega,rfl⟩,(wk 4 0)⟩
 have hc6:=bp hb6;have hps:w.ps=[]:=DC (by omega);obtain⟨σ,hT,hσx,hσf,hσe⟩:=aF hv hps hR;refine Ba (Ao (Ao (Bb (t_ (q_ (?_))))));refine Gz (⟨look [(8, .bp 2 0),(12, .v (.bool (B2 p))),(13, .bp 3 0),(63, .v (.bool (B2 p&&(!w.missing&& !Al s.files w.at_))))],⟨[As s,A7 start,Aq Cm,Dk s (fl||B2 p) w],[]⟩⟩) ?_ ?_
 ·skip
  refine AX (m_ (h:=m_ (h:=?_)));refine Aw true rfl rfl (fun hb9=>?_) (fun hb9=>?_)
  ·have hc9:=bp hb9;refine f_ (h:=l_ (h:=Bt (h:=AY (h:=m_ (h:=?_)))));refine Aw true rfl rfl (fun hb10=>?_) (fun hb10=>?_)
   ·have hc10:=bp hb10;refine Ax (EJ 1 rfl (.cons _ _ _ _ _ rfl (AM _) .nil) (PP s (fl||B2 p) w hs.b) ?_);rintro r rfl;refine⟨rfl,?_⟩;refine Bt (h:=AY (h:=AT (?_)));refine AG ?_
    first|(exfalso;first|contradiction|omega)|exact B4 4 0 rfl rfl rfl rfl (by repeat (first|exact Sub.nil|refine B9 rfl rfl ?_|refine BD ?_|refine BE rfl ?_|refine BF rfl ?_|(apply Sub.of;(focus exact rfl);(focus exact LeA.of_eq (vb (by first|(rw[hb9];rfl)|(rw[hb9,hb10];rfl))));(focus exact rfl))))
   have hc10:=bp hb10;refine A3 (h:=A3 (h:=Aj (h:=AT (?_))));refine AG ?_
   first|(exfalso;first|contradiction|omega)|exact B4 4 0 rfl rfl rfl rfl (by repeat (first|exact Sub.nil|refine B9 rfl rfl ?_|refine BD ?_|refine BE rfl ?_|refine BF rfl ?_|(apply Sub.of;(focus exact rfl);(focus exact LeA.of_eq (vb (by first|(rw[hb9];rfl)|(rw[hb9,hb10];rfl))));(focus exact rfl))))
  have hc9:=bp hb9;refine A3 (h:=A3 (h:=A3 (h:=Aj (h:=m_ (h:=A3 (h:=A3 (h:=Aj (h:=AT (?_)))))))));refine AG ?_
  first|(exfalso;first|contradiction|omega)|exact B4 4 0 rfl rfl rfl rfl (by repeat (first|exact Sub.nil|refine B9 rfl rfl ?_|refine BD ?_|refine BE rfl ?_|refine BF rfl ?_|(apply Sub.of;(focus exact rfl);(focus exact LeA.of_eq (vb (by first|(rw[hb9];rfl)|(rw[hb9,hb10];rfl))));(focus exact rfl))))
 skip
 refine AA rfl (fun hb11=>?_) (fun hb11=>?_)
 ·have hc11:=bp hb11;refine w_ (Aa (h:=s_ (h:=a_ (h:=e_ (A4 (A9 (?_)))))));refine AD ?_;rw[TZ hc1 (by omega) ha had hT (by simp only[Bool.and_eq_true,Bool.not_eq_true']at hc11;exact⟨hc11.1,by rw[hσx,hc11.2.1];rfl,by rw[hσf hc11.2.1];exact hc11.2.2⟩)];rfl
 have hc11:=bp hb11;refine AO (w_ (m_ (h:=?_)));refine A8 rfl (EJ 1 rfl (.cons _ _ _ _ _ rfl (AM _) (.cons _ _ _ _ _ rfl (AM _) .nil)) (a7 s (fl||B2 p) (B2 p) w hs hw (by have:=hR.2.1;omega)) ?_);rintro r rfl;refine⟨rfl,?_⟩;refine s_ (h:=a_ (h:=e_ (A4 (?_))));refine AD ?_
 rw[Mv hc1 (by omega) ha had hT (fun h=>by
  obtain⟨h1,h2,h3⟩:=h;rw[hσx]at h2;have hm2:w.missing=false:=by simpa using h2
  rw[hσf hm2]at h3;rw[h1,h2,h3]at hc11
  cases hc11),←hσe]
 rfl
end
section
theorem PR{s:Spc}(hs:SpcB s)(hv:SpcV s)(a:A6):AFn prog 88 [.agg (As s), .agg (A7 a)] (fun r=>r= .agg (A7 (CS s s.mounts.length a))):=
 (VU s a hs).mono fun r hr=>by rw[hr,Y0 hv]
end
def LU(σ:Lk):List AV:=Aq ⟨σ.dir,σ.name,σ.file,σ.ex,false,⟨#[]⟩⟩
theorem Fm{s:Spc}(hv:FlsV s.files){F:Bool}{q:AB}{qs:List AB}{da:A6}{na:AB}{a:A6}{ea:Bool}{lk:Nat}(h8:lk≤8):(∀e,CG s F q qs a lk= .inl e→DX s F ⟨q::qs,da,na,a,ea,lk⟩=(e,Mn))∧∀τ,CG s F q qs a lk= .inr τ→τ.links≤8∧DX s F ⟨q::qs,da,na,a,ea,lk⟩=DX s F τ∧EB τ<(8 - lk) * 200+(qs.length+1):=by
 have hc:=Sq hv (fl:=F) (σ:=⟨q::qs,da,na,a,ea,lk⟩) (p:=q) (ps:=qs) h8 rfl;refine⟨fun e he=>?_,fun τ hτ=>?_⟩
 ·rw[hc];simp only[he]
 obtain⟨h1,h2⟩:=P7 hv h8 hτ;refine⟨h1,?_,h2⟩;rw[hc];simp only[hτ]
section
theorem Tc(s:Spc)(hs:SpcB s)(hv:SpcV s):AFn prog 87 [.agg (As s)] (fun r=>r= .agg (A7 (DW s))):=by
 refine enter Tryz.func87 rfl rfl rfl rfl rfl 0 rfl ?_;refine w_ (b_ (h:=Ak (h:=e_ (w_ (l_ (h:=Aa (h:=?_)))))));refine A8 rfl (AN (PR hs hv (0,1)) ?_);rintro r rfl;refine s_ (h:=e_ (A4 (?_)));refine AD ?_;rfl
theorem aH(s:Spc)(start:A6)(p:AB)(fl:Bool)(hs:SpcN s)(hv:SpcV s)(hp:p.size≤100000):AFn prog 58 [.agg (As s), .agg (A7 start), .v (.string p), .v (.bool fl)] (fun r=>r= .tup [.agg (Aq (BY s start p fl).1), .v (.int .i64 (BY s start p fl).2)]):=by
 have hw:=P3 hv;have hsp:=Jq p;refine enter Tryz.func58 rfl rfl rfl rfl rfl 0 rfl ?_;refine w_ (b_ (h:=b_ (h:=Ak (h:=a_ (h:=e_ (w_ (m_ (h:=?_))))))));refine A8 rfl (AN (Sg p hp) ?_);rintro r ⟨ps,hps,rfl⟩;obtain rfl:=P6 hps;clear hps;refine m_ (h:=x_ (h:=x_ (h:=x_ (h:=a_ (h:=a_ (h:=a_ (h:=e_ (q_ (w_ (m_ (h:=Ah (h:=e_ (?_)))))))))))));refine AA rfl (fun hb1=>?_) (fun hb1=>?_)
 ·have hc1:=bp hb1;refine w_ (Aa (h:=s_ (h:=a_ (h:=e_ (A4 (A9 (?_)))))));refine AD ?_;rw[show BY s start p fl=(Cm,2) from if_pos hc1];rfl
 have hc1:=bp hb1;refine AO (q_ (w_ (m_ (h:=n_ (h:=Co (h:=e_ (?_)))))));refine AA rfl (fun hb2=>?_) (fun hb2=>?_)
 ·have hc2:=bp hb2;refine w_ (Aa (h:=s_ (h:=a_ (h:=e_ (A4 (A9 (?_)))))));refine AD ?_;rw[TX hc1 (by omega)];rfl
 have hc2:=bp hb2;refine AO (w_ (l_ (h:=Ak (h:=s_ (h:=e_ (?_))))));refine BR (fun t=>∃a,(if Cg p=true then DW s else start)=a∧t=⟨look [(3, .v (.bool fl)),(4, .bp 0 0),(8, .bp 2 0),(10, .sl 1 ((CN p).map Cx) none),(12, .v (.bool (B2 p))),(13, .bp 3 0)],⟨[As s,A7 start,Aq Cm,A7 a],[]⟩⟩) ?_ ?_
 ·skip
  refine w_ (m_ (h:=e_ (?_)));refine AA rfl (fun hb3=>?_) (fun hb3=>?_)
  ·have hc3:=bp hb3;refine AX (l_ (h:=?_));refine A8 rfl (AN (Tc s hs.b hv) ?_);rintro r rfl;refine s_ (h:=AT (?_));refine AG ?_
   first|exact⟨_,⟨DW s,if_pos hc3,rfl⟩,(wk 4 0)⟩|exact⟨_,⟨start,if_neg (by simp[hc3]),rfl⟩,(wk 4 0)⟩
  have hc3:=bp hb3;refine BH (?_);refine AG ?_
  first|exact⟨_,⟨DW s,if_pos hc3,rfl⟩,(wk 4 0)⟩|exact⟨_,⟨start,if_neg (by simp[hc3]),rfl⟩,(wk 4 0)⟩
 rintro t ⟨a0,ha,rfl⟩;refine q_ (w_ (f_ (h:=l_ (h:=l_ (h:=?_)))));refine A8 rfl (AN (GX s.files a0 hs.b.files) ?_);rintro r rfl;refine Bt (h:=e_ (?_));refine AA rfl (fun hb4=>?_) (fun hb4=>?_)
 ·have hc4:=bp hb4;refine w_ (Aa (h:=s_ (h:=a_ (h:=e_ (A4 (A9 (?_)))))));refine AD ?_;rw[TY hc1 (by omega) ha (by simpa using hc4)];rfl
 have hc4:=bp hb4;have had:Al s.files a0=true:=by simpa using hc4
 refine AO (w_ (l_ (h:=l_ (h:=Aa (h:=Ak (h:=s_ (h:=e_ (w_ (a_ (h:=e_ (?_)))))))))));refine BR (fun t=>∃(τ:Lk) (d:A6),DX s (fl||B2 p) (FC (CN p) a0)=(0,τ)∧τ.name.size≤1000∧t=⟨look [(4, .bp 0 0),(8, .bp 2 0),(12, .v (.bool (B2 p))),(14, .bp 4 0)],⟨[As s,A7 start,Aq Cm,A7 d,LU τ],[]⟩⟩) ?_ ?_
 ·skip
  refine Ap (?_);refine By (fun m t=>∃(σ:Lk) (d:A6),σ.links≤8∧σ.name.size≤12∧DX s (fl||B2 p) σ=DX s (fl||B2 p) (FC (CN p) a0)∧m=EB σ∧m≤1729∧t=⟨look [(3, .v (.bool fl)),(4, .bp 0 0),(8, .bp 2 0),(10, .sl 1 (σ.ps.map Cx) none),(12, .v (.bool (B2 p))),(13, .bp 3 0),(14, .bp 4 0),(15, .v (.int .i64 (σ.links:Int)))],⟨[As s,A7 start,Aq Cm,A7 d,LU σ],[]⟩⟩) (EB (FC (CN p) a0)) ((wk 5 0)) (⟨_,a0,BC _,BC _,rfl,rfl,by show(8 - 0) * 200+(CN p).length≤1729;omega,rfl⟩) ?_;rintro m t ⟨⟨ps0,da,na,a,ea,lk⟩,d,h8,hna,hT,rfl,hm,rfl⟩;have hm:(8 - lk) * 200+ps0.length≤1729:=hm;have h8:lk≤8:=h8;have hml:(ps0.map Cx).length=ps0.length:=by simp
  refine q_ (w_ (m_ (h:=n_ (h:=Co (h:=e_ (?_))))));refine AA rfl (fun hb5=>?_) (fun hb5=>?_)
  ·have hc5:=bp hb5
   obtain⟨q,qs,hps⟩:∃q qs,ps0=q::qs:=by
    cases ps0 with
    |nil=>simp at hc5
    |cons q qs=>exact⟨q,qs,rfl⟩
   subst hps;have hml:(qs.map Cx).length=qs.length:=by simp
   have hmq:(8 - lk) * 200+(qs.length+1)≤1729:=hm;have htg:=MZ hv.files (AK s.files a q).1;have htp:=Jq (AU s.files (AK s.files a q).1).target;refine AO (Ap (w_ (m_ (h:=?_))));refine A8 rfl (DZ (n:=0) rfl rfl rfl rfl ?_);refine l_ (h:=a_ (h:=e_ (?_)));refine Gz (⟨look [(3, .v (.bool fl)),(4, .bp 0 0),(8, .bp 2 0),(10, .sl 1 (qs.map Cx) none),(12, .v (.bool (B2 p))),(13, .bp 3 0),(14, .bp 4 0),(15, .v (.int .i64 (lk:Int))),(16, .v (.string q))],⟨[As s,A7 start,Aq Cm,A7 d,LU ⟨q::qs,da,na,a,ea,lk⟩],[]⟩⟩) ?_ ?_
   ·skip
    refine AX (m_ (h:=?_));refine A8 rfl (NU (l:=1) rfl rfl rfl (by simp) ?_);refine a_ (h:=AT (?_));refine AG ?_
    first|(exfalso;first|contradiction|omega)|exact B4 5 0 rfl rfl rfl rfl (by repeat (first|exact Sub.nil|refine B9 rfl rfl ?_|refine BD ?_|refine BE rfl ?_|refine BF rfl ?_|(apply Sub.of;(focus exact rfl);(focus exact LeA.of_eq (vb (by rfl)));(focus exact rfl))))
   skip
   refine w_ (f_ (h:=l_ (h:=s_ (h:=e_ (q_ (w_ (f_ (h:=l_ (h:=l_ (h:=?_))))))))));refine A8 rfl (AN (GX s.files a hs.b.files) ?_);rintro r rfl;refine Bt (h:=e_ (?_));refine AA rfl (fun hb6=>?_) (fun hb6=>?_)
   ·have hc6:=bp hb6;have hst:CG s (fl||B2 p) q qs a lk= .inl 20:=by unfold CG;rw[if_pos hc6]
    refine w_ (Aa (h:=s_ (h:=a_ (h:=e_ (A4 (A9 (Ab (A9 (Ab (A9 (?_)))))))))));refine AD ?_;rw[Jw hc1 (by omega) ha had (hT.symm.trans ((Fm (F:=fl||B2 p) (da:=da) (na:=na) (ea:=ea) hv.files h8).1 _ hst)) (by decide)];rfl
   have hc6:=bp hb6;refine AO (q_ (w_ (m_ (h:=n_ (h:=Co (h:=e_ (?_)))))));refine AA rfl (fun hb7=>?_) (fun hb7=>?_)
   ·have hc7:=bp hb7;have hst:CG s (fl||B2 p) q qs a lk= .inl 36:=by unfold CG;rw[if_neg (by simp[hc6]),if_pos (by omega)]
    refine w_ (Aa (h:=s_ (h:=a_ (h:=e_ (A4 (A9 (Ab (A9 (Ab (A9 (?_)))))))))));refine AD ?_;rw[Jw hc1 (by omega) ha had (hT.symm.trans ((Fm (F:=fl||B2 p) (da:=da) (na:=na) (ea:=ea) hv.files h8).1 _ hst)) (by decide)];rfl
   have hc7:=bp hb7;have hq12:q.size≤12:=by omega
   refine AO (q_ (w_ (m_ (h:=Ah (h:=m_ (h:=?_))))));refine Aw false rfl rfl (fun hb8=>?_) (fun hb8=>?_)
   ·have hc8:=bp hb8;refine A3 (h:=A3 (h:=AY (h:=e_ (CD (h:=q_ (w_ (m_ (h:=Ah (h:=e_ (?_))))))))));refine AA rfl (fun hb9=>?_) (fun hb9=>?_)
    ·have hc9:=bp hb9;rw[hc8]at hc9;exact absurd hc9 (by decide)
    have hc9:=bp hb9;have hst:CG s (fl||B2 p) q qs a lk= .inr ⟨qs,a,⟨#[]⟩,a,true,lk⟩:=by unfold CG;rw[if_neg (by simp[hc6]),if_neg (by omega),if_pos hc8]
    refine AO (w_ (l_ (h:=l_ (h:=Aa (h:=s_ (h:=e_ (Ba (Ao (Bb (?_))))))))));refine AG ?_;obtain⟨g1,g2,g3⟩:=(Fm (F:=fl||B2 p) (da:=da) (na:=na) (ea:=ea) hv.files h8).2 _ hst;exact⟨_,_,g3,⟨_,_,g1,(by first|exact BC _|exact hq12),g2.symm.trans hT,rfl,Nat.le_trans (Nat.le_of_lt g3) hmq,rfl⟩,(by(try simp only[List.map_append]);exact B4 5 0 rfl rfl rfl rfl ((by repeat (first|exact Sub.nil|refine B9 rfl rfl ?_|refine BD ?_|refine BE rfl ?_|refine BF rfl ?_))))⟩
   have hc8:=bp hb8;refine m_ (h:=Ah (h:=Aj (h:=e_ (?_))));refine AA rfl (fun hb10=>?_) (fun hb10=>?_)
   ·have hc10:=bp hb10;refine q_ (w_ (m_ (h:=Ah (h:=e_ (?_)))));refine AA rfl (fun hb11=>?_) (fun hb11=>?_)
    ·have hc11:=bp hb11;have hst:CG s (fl||B2 p) q qs a lk= .inr ⟨qs,CS s s.mounts.length (DH s (s.mounts.length+1) a),⟨#[]⟩,CS s s.mounts.length (DH s (s.mounts.length+1) a),true,lk⟩:=by unfold CG;rw[if_neg (by simp[hc6]),if_neg (by omega),if_neg hc8,if_pos hc11]
     refine Bo ([(0,As s),(3,A7 a)]) 5 (h:=AF 0 (h:=AF 1 (h:=AF 2 (h:=?_))));refine c_ 3 rfl (AN (YC hs.b hv (s.mounts.length+1) a (by have:=Xy (s:=s) a.1;omega)) ?_);rintro r rfl;refine o_ (h:=?_);refine c_ 4 rfl (AN (PR hs.b hv (DH s (s.mounts.length+1) a)) ?_);rintro r rfl;refine o_ (h:=?_);refine BA 5 rfl (B1 rfl rfl rfl rfl rfl rfl (by repeat constructor) (by repeat constructor) ?_);refine o_ (h:=z_ (h:=t_ (w_ (l_ (h:=l_ (h:=Aa (h:=s_ (h:=e_ (Ba (Ao (Bb (?_))))))))))));refine AG ?_;obtain⟨g1,g2,g3⟩:=(Fm (F:=fl||B2 p) (da:=da) (na:=na) (ea:=ea) hv.files h8).2 _ hst;exact⟨_,_,g3,⟨_,_,g1,(by first|exact BC _|exact hq12),g2.symm.trans hT,rfl,Nat.le_trans (Nat.le_of_lt g3) hmq,rfl⟩,(by(try simp only[List.map_append]);exact B4 5 0 rfl rfl rfl rfl ((by repeat (first|exact Sub.nil|refine B9 rfl rfl ?_|refine BD ?_|refine BE rfl ?_|refine BF rfl ?_))))⟩
    have hc11:=bp hb11;exact absurd hc10 hc11
   have hc10:=bp hb10;refine AO (w_ (f_ (h:=l_ (h:=l_ (h:=m_ (h:=?_))))));refine A8 rfl (AN (H7 s.files a q hs.b.files) ?_);rintro r rfl;refine m_ (h:=x_ (h:=x_ (h:=Ak (h:=s_ (h:=a_ (h:=e_ (q_ (w_ (m_ (h:=Bf (h:=e_ (?_))))))))))));refine AA rfl (fun hb12=>?_) (fun hb12=>?_)
   ·have hc12:=bp hb12;refine q_ (w_ (m_ (h:=n_ (h:=Co (h:=m_ (h:=?_))))));refine Aw false rfl rfl (fun hb13=>?_) (fun hb13=>?_)
    ·have hc13:=bp hb13;have hne:qs≠[]:=fun e=>by rw[e]at hc13;simp at hc13
     have hst:CG s (fl||B2 p) q qs a lk= .inl 2:=by unfold CG;rw[if_neg (by simp[hc6]),if_neg (by omega),if_neg hc8,if_neg hc10,if_pos hc12,if_pos (.inl hne)]
     refine A3 (h:=A3 (h:=A3 (h:=AY (h:=e_ (CD (h:=w_ (Aa (h:=s_ (h:=a_ (h:=e_ (A4 (A9 (A9 (Ab (A9 (Ab (A9 (?_))))))))))))))))));refine AD ?_;rw[Jw hc1 (by omega) ha had (hT.symm.trans ((Fm (F:=fl||B2 p) (da:=da) (na:=na) (ea:=ea) hv.files h8).1 _ hst)) (by decide)];rfl
    have hc13:=bp hb13;have hne:¬qs≠[]:=fun e=>e (DC (by omega));refine m_ (h:=?_);refine Ax (AN (Ql q (by omega)) ?_);rintro r rfl;refine Bt (h:=Aj (h:=e_ (?_)));refine AA rfl (fun hb14=>?_) (fun hb14=>?_)
    ·have hc14:=bp hb14;have hst:CG s (fl||B2 p) q qs a lk= .inl 2:=by unfold CG;rw[if_neg (by simp[hc6]),if_neg (by omega),if_neg hc8,if_neg hc10,if_pos hc12,if_pos (.inr hc14)]
     refine w_ (Aa (h:=s_ (h:=a_ (h:=e_ (A4 (A9 (A9 (Ab (A9 (Ab (A9 (?_))))))))))));refine AD ?_;rw[Jw hc1 (by omega) ha had (hT.symm.trans ((Fm (F:=fl||B2 p) (da:=da) (na:=na) (ea:=ea) hv.files h8).1 _ hst)) (by decide)];rfl
    have hc14:=bp hb14;have hst:CG s (fl||B2 p) q qs a lk= .inr ⟨[],a,q,(0,0),false,lk⟩:=by unfold CG;rw[if_neg (by simp[hc6]),if_neg (by omega),if_neg hc8,if_neg hc10,if_pos hc12,if_neg (fun e=>e.elim hne (by simp[hc14]))]
    have hfin:=hT.symm.trans (((Fm (F:=fl||B2 p) (da:=da) (na:=na) (ea:=ea) hv.files h8).2 _ hst).2.1.trans (P8 rfl));refine AO (w_ (l_ (h:=m_ (h:=Aa (h:=s_ (h:=e_ (Ba (Ao (KK rfl (Ao (Bb (?_))))))))))));refine AG ?_;exact⟨_,⟨_,_,hfin,(by first|exact Nat.le_trans hna (by decide)|exact Nat.le_trans hq12 (by decide)),rfl⟩,(wk 5 0)⟩
   have hc12:=bp hb12;refine AO (w_ (f_ (h:=l_ (h:=l_ (h:=?_)))));refine A8 rfl (AN (E1 s.files (AK s.files a q).1 hs.b.files) ?_);rintro r rfl;refine m_ (h:=x_ (h:=x_ (h:=Ak (h:=s_ (h:=a_ (h:=e_ (q_ (?_))))))));refine Gz (⟨look [(3, .v (.bool fl)),(4, .bp 0 0),(8, .bp 2 0),(10, .sl 1 (qs.map Cx) none),(12, .v (.bool (B2 p))),(13, .bp 3 0),(14, .bp 4 0),(15, .v (.int .i64 (lk:Int))),(16, .v (.string q)),(17, .bp 5 0),(19, .bp 6 0),(130, .v (.bool (decide ((AU s.files (AK s.files a q).1).kind=3)&&(decide (0<((qs.map Cx).length:Int))||(fl||B2 p)))))],⟨[As s,A7 start,Aq Cm,A7 a,LU ⟨q::qs,da,na,a,ea,lk⟩,A7 (AK s.files a q).1,AW (AU s.files (AK s.files a q).1)],[]⟩⟩) ?_ ?_
   ·skip
    refine AX (f_ (h:=l_ (h:=Ah (h:=m_ (h:=?_)))));refine Aw true rfl rfl (fun hb15=>?_) (fun hb15=>?_)
    ·have hc15:=bp hb15;refine m_ (h:=n_ (h:=Co (h:=m_ (h:=?_))));refine Aw false rfl rfl (fun hb16=>?_) (fun hb16=>?_)
     ·have hc16:=bp hb16;refine A3 (h:=AY (h:=m_ (h:=A3 (h:=AY (h:=AY (h:=AT (?_)))))));refine AG ?_
      first|(exfalso;first|contradiction|omega)|exact B4 7 0 rfl rfl rfl rfl (by repeat (first|exact Sub.nil|refine B9 rfl rfl ?_|refine BD ?_|refine BE rfl ?_|refine BF rfl ?_|(apply Sub.of;(focus exact rfl);(focus exact LeA.of_eq (vb (by first|(rw[hb15];rfl)|(rw[hb15,hb16];rfl)|(rw[hb15,hb16,hb17];rfl))));(focus exact rfl))))
     have hc16:=bp hb16;refine m_ (h:=Aj (h:=m_ (h:=?_)));refine Aw false rfl rfl (fun hb17=>?_) (fun hb17=>?_)
     ·have hc17:=bp hb17;refine A3 (h:=AY (h:=AY (h:=AT (?_))));refine AG ?_
      first|(exfalso;first|contradiction|omega)|exact B4 7 0 rfl rfl rfl rfl (by repeat (first|exact Sub.nil|refine B9 rfl rfl ?_|refine BD ?_|refine BE rfl ?_|refine BF rfl ?_|(apply Sub.of;(focus exact rfl);(focus exact LeA.of_eq (vb (by first|(rw[hb15];rfl)|(rw[hb15,hb16];rfl)|(rw[hb15,hb16,hb17];rfl))));(focus exact rfl))))
     have hc17:=bp hb17;refine m_ (h:=Aj (h:=AY (h:=AT (?_))));refine AG ?_
     first|(exfalso;first|contradiction|omega)|exact B4 7 0 rfl rfl rfl rfl (by repeat (first|exact Sub.nil|refine B9 rfl rfl ?_|refine BD ?_|refine BE rfl ?_|refine BF rfl ?_|(apply Sub.of;(focus exact rfl);(focus exact LeA.of_eq (vb (by first|(rw[hb15];rfl)|(rw[hb15,hb16];rfl)|(rw[hb15,hb16,hb17];rfl))));(focus exact rfl))))
    have hc15:=bp hb15;refine A3 (h:=A3 (h:=A3 (h:=A3 (h:=Jb (h:=A3 (h:=A3 (h:=Jb (h:=A3 (h:=Aj (h:=AT (?_)))))))))));refine AG ?_
    first|(exfalso;first|contradiction|omega)|exact B4 7 0 rfl rfl rfl rfl (by repeat (first|exact Sub.nil|refine B9 rfl rfl ?_|refine BD ?_|refine BE rfl ?_|refine BF rfl ?_|(apply Sub.of;(focus exact rfl);(focus exact LeA.of_eq (vb (by first|(rw[hb15];rfl)|(rw[hb15,hb16];rfl)|(rw[hb15,hb16,hb17];rfl))));(focus exact rfl))))
   skip
   refine AA rfl (fun hb18=>?_) (fun hb18=>?_)
   ·have hc18:=bp hb18
    have hlk:(AU s.files (AK s.files a q).1).kind=3∧(qs≠[]∨(fl||B2 p)=true):=by
     rw[Bool.and_eq_true,decide_eq_true_eq,Bool.or_eq_true,decide_eq_true_eq]at hc18;exact⟨hc18.1,hc18.2.imp (fun h e=>by rw[e]at h;simp at h) id⟩
    refine q_ (w_ (m_ (h:=Ah (h:=e_ (?_)))));refine AA rfl (fun hb19=>?_) (fun hb19=>?_)
    ·have hc19:=bp hb19;have hst:CG s (fl||B2 p) q qs a lk= .inl 40:=by unfold CG;rw[if_neg (by simp[hc6]),if_neg (by omega),if_neg hc8,if_neg hc10,if_neg (by simp[hc12]),if_pos hlk,if_pos (by omega)]
     refine w_ (Aa (h:=s_ (h:=a_ (h:=e_ (A4 (A9 (A9 (Ab (A9 (Ab (A9 (?_))))))))))));refine AD ?_;rw[Jw hc1 (by omega) ha had (hT.symm.trans ((Fm (F:=fl||B2 p) (da:=da) (na:=na) (ea:=ea) hv.files h8).1 _ hst)) (by decide)];rfl
    have hc19:=bp hb19;refine AO (w_ (m_ (h:=?_)));refine A8 rfl (KP rfl rfl (by omega) ?_);refine a_ (h:=e_ (w_ (f_ (h:=l_ (h:=?_)))));refine A8 rfl (AN (Sg (AU s.files (AK s.files a q).1).target (by omega)) ?_);rintro r ⟨ps,hps,rfl⟩;obtain rfl:=P6 hps;clear hps;refine m_ (h:=x_ (h:=x_ (h:=x_ (h:=a_ (h:=a_ (h:=a_ (h:=e_ (q_ (w_ (m_ (h:=e_ (?_))))))))))));refine AA rfl (fun hb20=>?_) (fun hb20=>?_)
    ·have hc20:=bp hb20;have hst:CG s (fl||B2 p) q qs a lk= .inr ⟨CN (AU s.files (AK s.files a q).1).target++qs,DW s,⟨#[]⟩,DW s,true,lk+1⟩:=by unfold CG;rw[if_neg (by simp[hc6]),if_neg (by omega),if_neg hc8,if_neg hc10,if_neg (by simp[hc12]),if_pos hlk,if_neg (by omega),if_pos hc20]
     refine AX (l_ (h:=?_));refine A8 rfl (AN (Tc s hs.b hv) ?_);rintro r rfl;refine s_ (h:=e_ (w_ (m_ (h:=GT (h:=m_ (h:=GT (h:=a_ (h:=e_ (w_ (l_ (h:=l_ (h:=Aa (h:=s_ (h:=e_ (Ba (Ao (Bb (?_))))))))))))))))));refine AG ?_;obtain⟨g1,g2,g3⟩:=(Fm (F:=fl||B2 p) (da:=da) (na:=na) (ea:=ea) hv.files h8).2 _ hst;exact⟨_,_,g3,⟨_,_,g1,(by first|exact BC _|exact hq12),g2.symm.trans hT,rfl,Nat.le_trans (Nat.le_of_lt g3) hmq,rfl⟩,(by(try simp only[List.map_append]);exact B4 5 0 rfl rfl rfl rfl ((by repeat (first|exact Sub.nil|refine B9 rfl rfl ?_|refine BD ?_|refine BE rfl ?_|refine BF rfl ?_))))⟩
    have hc20:=bp hb20;have hst:CG s (fl||B2 p) q qs a lk= .inr ⟨CN (AU s.files (AK s.files a q).1).target++qs,a,⟨#[]⟩,a,true,lk+1⟩:=by unfold CG;rw[if_neg (by simp[hc6]),if_neg (by omega),if_neg hc8,if_neg hc10,if_neg (by simp[hc12]),if_pos hlk,if_neg (by omega),if_neg (by simp[hc20])]
    refine AO (w_ (m_ (h:=GT (h:=m_ (h:=GT (h:=a_ (h:=e_ (w_ (l_ (h:=l_ (h:=Aa (h:=s_ (h:=e_ (Ba (Ao (Bb (?_)))))))))))))))));refine AG ?_;obtain⟨g1,g2,g3⟩:=(Fm (F:=fl||B2 p) (da:=da) (na:=na) (ea:=ea) hv.files h8).2 _ hst;exact⟨_,_,g3,⟨_,_,g1,(by first|exact BC _|exact hq12),g2.symm.trans hT,rfl,Nat.le_trans (Nat.le_of_lt g3) hmq,rfl⟩,(by(try simp only[List.map_append]);exact B4 5 0 rfl rfl rfl rfl ((by repeat (first|exact Sub.nil|refine B9 rfl rfl ?_|refine BD ?_|refine BE rfl ?_|refine BF rfl ?_))))⟩
   have hc18:=bp hb18
   have hlk:¬((AU s.files (AK s.files a q).1).kind=3∧(qs≠[]∨(fl||B2 p)=true)):=fun h=>by
    rw[decide_eq_true h.1,Bool.true_and,Bool.or_eq_false_iff]at hc18;rcases h.2 with e|e
    ·exact e (DC (by have:=of_decide_eq_false hc18.1;omega))
    rw[hc18.2]at e;cases e
   have hst:CG s (fl||B2 p) q qs a lk= .inr ⟨qs,a,q,CS s s.mounts.length (AK s.files a q).1,true,lk⟩:=by unfold CG;rw[if_neg (by simp[hc6]),if_neg (by omega),if_neg hc8,if_neg hc10,if_neg (by simp[hc12]),if_neg hlk]
   refine AO (Bo ([(0,As s),(3,A7 a),(5,A7 (AK s.files a q).1)]) 6 (h:=AF 0 (h:=AQ 1 (h:=AF 2 (h:=AF 3 (h:=?_))))));refine c_ 4 rfl (AN (PR hs.b hv (AK s.files a q).1) ?_);rintro r rfl;refine o_ (h:=Fy 5 (h:=?_));refine BA 6 rfl (B1 rfl rfl rfl rfl rfl rfl (by repeat constructor) (by repeat constructor) ?_);refine o_ (h:=z_ (h:=Ay (?_)));refine AG ?_;obtain⟨g1,g2,g3⟩:=(Fm (F:=fl||B2 p) (da:=da) (na:=na) (ea:=ea) hv.files h8).2 _ hst;exact⟨_,_,g3,⟨_,_,g1,(by first|exact BC _|exact hq12),g2.symm.trans hT,rfl,Nat.le_trans (Nat.le_of_lt g3) hmq,rfl⟩,(by(try simp only[List.map_append]);exact B4 5 0 rfl rfl rfl rfl ((by repeat (first|exact Sub.nil|refine B9 rfl rfl ?_|refine BD ?_|refine BE rfl ?_|refine BF rfl ?_))))⟩
  have hc5:=bp hb5;have hc5:¬(0:Int)<((ps0.map Cx).length:Int):=hc5;have e5:ps0=[]:=DC (by omega);subst e5;have hfin:=hT.symm.trans (P8 (s:=s) (fl:=fl||B2 p) (σ:=⟨[],da,na,a,ea,lk⟩) rfl);refine Ba (Ao (Ao (Bb (?_))));refine AG ?_;exact⟨_,⟨_,_,hfin,(by first|exact Nat.le_trans hna (by decide)|exact Nat.le_trans hq12 (by decide)),rfl⟩,(wk 5 0)⟩
 rintro t ⟨τ,d,hT,hnm,rfl⟩;refine q_ (?_);refine Gz (⟨look [(4, .bp 0 0),(8, .bp 2 0),(12, .v (.bool (B2 p))),(14, .bp 4 0),(171, .v (.bool (B2 p&&(τ.ex&& !Al s.files τ.file))))],⟨[As s,A7 start,Aq Cm,A7 d,LU τ],[]⟩⟩) ?_ ?_
 ·skip
  refine AX (m_ (h:=m_ (h:=?_)));refine Aw true rfl rfl (fun hb21=>?_) (fun hb21=>?_)
  ·have hc21:=bp hb21;refine f_ (h:=l_ (h:=AY (h:=m_ (h:=?_))));refine Aw true rfl rfl (fun hb22=>?_) (fun hb22=>?_)
   ·have hc22:=bp hb22;have hx:τ.ex=true:=hb22;refine f_ (h:=l_ (h:=f_ (h:=l_ (h:=?_))));refine Ax (AN (GX s.files τ.file hs.b.files) ?_);rintro r rfl;refine Bt (h:=AY (h:=AT (?_)));refine AG ?_
    first|(exfalso;first|contradiction|omega)|exact B4 5 0 rfl rfl rfl rfl (by repeat (first|exact Sub.nil|refine B9 rfl rfl ?_|refine BD ?_|refine BE rfl ?_|refine BF rfl ?_|(apply Sub.of;(focus exact rfl);(focus exact LeA.of_eq (vb (by first|(rw[hb21];rfl)|(rw[hb21,hx];rfl))));(focus exact rfl))))
   have hc22:=bp hb22;have hx:τ.ex=false:=hb22;refine A3 (h:=A3 (h:=A3 (h:=A3 (h:=A3 (h:=A3 (h:=Aj (h:=AT (?_))))))));refine AG ?_
   first|(exfalso;first|contradiction|omega)|exact B4 5 0 rfl rfl rfl rfl (by repeat (first|exact Sub.nil|refine B9 rfl rfl ?_|refine BD ?_|refine BE rfl ?_|refine BF rfl ?_|(apply Sub.of;(focus exact rfl);(focus exact LeA.of_eq (vb (by first|(rw[hb21];rfl)|(rw[hb21,hx];rfl))));(focus exact rfl))))
  have hc21:=bp hb21;refine A3 (h:=A3 (h:=Aj (h:=m_ (h:=A3 (h:=A3 (h:=A3 (h:=A3 (h:=A3 (h:=A3 (h:=Aj (h:=AT (?_))))))))))));refine AG ?_
  first|(exfalso;first|contradiction|omega)|exact B4 5 0 rfl rfl rfl rfl (by repeat (first|exact Sub.nil|refine B9 rfl rfl ?_|refine BD ?_|refine BE rfl ?_|refine BF rfl ?_|(apply Sub.of;(focus exact rfl);(focus exact LeA.of_eq (vb (by first|(rw[hb21];rfl)|(rw[hb21,hx];rfl))));(focus exact rfl))))
 skip
 refine AA rfl (fun hb23=>?_) (fun hb23=>?_)
 ·have hc23:=bp hb23;refine w_ (Aa (h:=s_ (h:=a_ (h:=e_ (A4 (A9 (?_)))))));refine AD ?_;rw[TZ hc1 (by omega) ha had hT (by simp only[Bool.and_eq_true,Bool.not_eq_true']at hc23;exact hc23)];rfl
 have hc23:=bp hb23;refine AO (w_ (m_ (h:=f_ (h:=s_ (h:=e_ (q_ (w_ (l_ (h:=f_ (h:=l_ (h:=?_)))))))))));refine A8 rfl (AN (YA hs.b hv τ.dir) ?_);rintro r rfl;refine m_ (h:=x_ (h:=x_ (h:=a_ (h:=a_ (h:=e_ (w_ (m_ (h:=e_ (?_)))))))));refine AA rfl (fun hb24=>?_) (fun hb24=>?_)
 ·have hc24:=bp hb24;refine w_ (m_ (h:=f_ (h:=s_ (h:=e_ (w_ (f_ (h:=l_ (h:=Bf (h:=e_ (?_))))))))));refine AA rfl (fun hb25=>?_) (fun hb25=>?_)
  ·have hc25:=bp hb25;refine AX (m_ (h:=f_ (h:=l_ (h:=?_))));refine A8 rfl (AN (SZ (BV s τ.dir).1 τ.name (by have:=hw τ.dir;omega) (by omega)) ?_);rintro r rfl;refine f_ (h:=s_ (h:=e_ (w_ (l_ (h:=s_ (h:=a_ (h:=e_ (A4 (?_)))))))));refine AD ?_;rw[Mv hc1 (by omega) ha had hT (fun h=>by rw[h.1,h.2.1,h.2.2]at hc23;cases hc23),show Fk s (B2 p) τ=⟨τ.dir,τ.name,τ.file,τ.ex,B2 p,Cl (BV s τ.dir).1 τ.name⟩ by unfold Fk;rw[if_pos hc24,if_neg hc25]];rfl
  have hc25:=bp hb25;refine AO (w_ (l_ (h:=s_ (h:=a_ (h:=e_ (A4 (?_)))))));refine AD ?_;rw[Mv hc1 (by omega) ha had hT (fun h=>by rw[h.1,h.2.1,h.2.2]at hc23;cases hc23),show Fk s (B2 p) τ=⟨τ.dir,τ.name,τ.file,τ.ex,B2 p,(BV s τ.dir).1⟩ by unfold Fk;rw[if_pos hc24,if_pos hc25]];rfl
 have hc24:=bp hb24;refine AO (w_ (l_ (h:=s_ (h:=a_ (h:=e_ (A4 (?_)))))));refine AD ?_;rw[Mv hc1 (by omega) ha had hT (fun h=>by rw[h.1,h.2.1,h.2.2]at hc23;cases hc23),show Fk s (B2 p) τ=⟨τ.dir,τ.name,τ.file,τ.ex,B2 p,⟨#[]⟩⟩ by unfold Fk;rw[if_neg (by simp[hc24])]];rfl
end
end Go.Proofs.YtobclmbkdhbnpaaGreatDoor
