/-
  Part 13 of the proof of WatchTreesP: what the statement's proof uses of the texts in wip/tpl.
-/
import Derived.Test.YtbglbmnhgbgelaaGreatDoorQg12
set_option maxRecDepth 10000
set_option maxHeartbeats 4000000
set_option linter.unusedVariables false
set_option linter.unusedSimpArgs false
namespace Go.Proofs.YtbglbmnhgbgelaaGreatDoor
open Go.RowKit
theorem f8{P:Program}{St:Nat→Nat→Prop}{w:World}(hst:∀b o,St b o→b<w.heap.size){T T' sz bytes:Nat}(hE:Js P T=some (T',sz,bytes))(hby:bytes≤100000){rows new:List (List AV)}{A:Option Addr}{cap:Nat}{y:Value}
    (hs:Ap St w (.sl sz rows none) (.slice A rows.length cap)) (hy:Ap St w (.sl sz new none) y) (hsm:rows.length+new.length≤1000000) (rt:TypeId):
    ∃(v':Value) (w':World) (N:Nat→Nat→Prop),(Builtin.append_ #[T,T] rt #[.slice A rows.length rows.length,y]).run P w= .ok v' w'∧Below w.heap.size w w'∧(∀b o,N b o→w.heap.size≤b∧b<w'.heap.size)∧Ap (fun b o=>St b o∨N b o) w' (.sl sz (rows++new) none) v':=by
 obtain⟨hu,inf,z,hinf,hz,hzs,hsz,hbts,hp⟩:=Ey hE
 obtain⟨A',cap',vs,e1,e2,e3,e4,e5⟩:=Kk hy
 obtain⟨A0,cap0,us,f1,f2,f3,f4,f5⟩:=Kk hs
 injection f1 with f1a f1b f1c
 subst f1a
 by_cases h0:new=[]
 ·subst h0
  refine⟨.slice A rows.length rows.length,w,fun _ _=>False,?_,Below.refl _ _,fun _ _ h=>h.elim,?_⟩
  ·rw[e1]
   rcases A' with _|ad<;>rcases A with _|ad0<;>simp[Builtin.append_,run_underlying hu,sizeOf,typeInfo,hinf,Builtin.lenOf,Builtin.firstCells,storeCells,loadCells,loadCellsFrom]
  rw[List.append_nil]
  have k:Ap St w (.sl sz rows none) (.slice A rows.length rows.length):=by
   simp only[Ap]at hs ⊢
   obtain⟨_,B,c,h1,h2,h3,h4⟩:=hs
   injection h1 with h1 _ _
   subst h1
   exact⟨trivial,_,_,rfl,Nat.le_refl _,Nat.le_trans h2 h3,h4⟩
  exact Fn (fun b o hb=>⟨.inl hb,rfl⟩) _ _ k
 obtain⟨b,off,q1,q2⟩:=e5 h0
 subst q1
 rw[e1]
 have hnl:0<new.length:=List.length_pos_iff.2 h0
 have hnews:∀j u,vs[j]?=some u→w.cell? ((⟨b,off,none⟩:Addr).add j)=some u:=fun j u hj=>by rw[Addr.add_mid];exact q2 j u hj
 have hbt:(rows.length+new.length) * bytes≤140737488355328:=by
  have:(rows.length+new.length) * bytes≤1000000 * 100000:=Nat.mul_le_mul hsm hby
  omega
 have key:∃v' w',(Builtin.append_ #[T,T] rt #[.slice A rows.length rows.length, .slice (some ⟨b,off,none⟩) new.length cap']).run P w= .ok v' w'∧w'.ownsRow w.heap.size T' sz v' (rows.length+new.length) (us++vs)∧w.grownBy w' none:=by
  by_cases hr0:rows=[]
  ·subst hr0
   have hus:us=[]:=List.eq_nil_of_length_eq_zero (by simpa using f4.1)
   subst hus
   rcases A with _|ad
   ·obtain⟨v',w',r1,r2,r3,r4,r5⟩:=run_append_own_at (P:=P) w w.heap.size T rt T' inf z sz bytes hu hinf hz hsz hbts hzs hp (.slice none 0 0) 0 [] (World.ownsRow_nil w _ _ _) ⟨b,off,none⟩ new.length cap' vs (by rw[e4.1]) hnews e4.2.2.1 (by simp at hsm;unfold maxLen;omega) (by simpa using hbt) (Nat.le_refl _)
    exact⟨v',w',by simpa using r1,by simpa using r2,by simpa[Value.ownBlock]using r3⟩
   obtain⟨v',w',r1,r2,r3⟩:=run_append_arg_grows (P:=P) w T rt T' inf z sz bytes hu hinf hz hsz hbts hzs hp ad 0 0 [] (by simp) (by simp) ⟨b,off,none⟩ new.length cap' vs (by rw[e4.1]) hnews (by omega) (by simp at hsm;unfold maxLen;omega) (by simpa using hbt)
   exact⟨v',w',by simpa using r1,by simpa using r2,r3⟩
  obtain⟨b0,off0,p1,p2⟩:=f5 hr0
  subst p1
  exact run_append_arg_grows (P:=P) w T rt T' inf z sz bytes hu hinf hz hsz hbts hzs hp ⟨b0,off0,none⟩ rows.length rows.length us (by rw[f4.1]) (fun j u hj=>by rw[Addr.add_mid];exact p2 j u hj) ⟨b,off,none⟩ new.length cap' vs (by rw[e4.1]) hnews (by omega) (by unfold maxLen;omega) hbt
 obtain⟨v',w',r1,r2,r3⟩:=key
 have hbel:Below w.heap.size w w':=⟨r3.os,r3.tape,r3.output,r3.size,fun k hk=>r3.block k hk (by simp)⟩
 have hlt:=World.ownsRow.lt r2
 refine⟨v',w',fun b _=>v'.ownBlock=some b,r1,hbel,fun b o hb=>hlt b hb,?_⟩
 have hflat:FlatR (fun b o=>St b o∨v'.ownBlock=some b) w' sz (rows++new) (us++vs):=(f4.append e4).mono fun b o hb=>⟨.inl hb,hbel.cell (p:=⟨b,o,none⟩) (hst b o hb)⟩
 rcases r2.2 with⟨c1,c2⟩|⟨gb,cp,cur,c1,c2,c3,c4,c5,c6,c7⟩
 ·omega
 subst c1
 simp only[Ap]
 refine⟨trivial,_,cp,by rw[List.length_append],by rw[List.length_append];exact c4,c5, .inr ⟨gb,0,rfl,hflat.froR fun j u hj=>⟨.inr rfl,?_⟩⟩⟩
 have hj2:j<(rows.length+new.length) * sz:=by
  have:=(Ar.1 hj).1
  rwa [r2.1]at this
 rw[Nat.zero_add]
 simp only[World.cell?,c3]
 rw[←c7,List.getElem?_take,if_pos hj2,Array.getElem?_toList]at hj
 simpa using hj
theorem VS{a:Act}{d n:Nat}(v:Value)(hn:a.tmps.size=n)(hd:d<n):(a.put (some d) v).eval (.tmp d)=v:=by
 show(a.put (some d) v).tmps.getD d undef=v
 simp[Act.put,hn,hd]
theorem fA{a:Act}{d t:Nat}(v:Value)(h:d≠t):(a.put (some d) v).eval (.tmp t)=a.eval (.tmp t):=by
 show(a.put (some d) v).tmps.getD t undef=a.tmps.getD t undef
 simp[Act.put,Array.getElem?_setIfInBounds_ne h]
theorem fB{P:Program}{N:Dim}{ops:Array Oper}{Q:Exit→AS→Prop}{rest:List Oper}{l:List (Nat×AV)}{hh:AH}{d1 d2 d3:Nat}{ty1 ty2 ty3:TypeId}{pos1 pos2 pos3:String}{af1 af2 af3:Array Edge}{T:TypeId}{x hi mx y:Operand}{T' sz bytes:Nat}{rows new:List (List AV)}{tok tok':Option Nat}[hE:Elm P T T' sz bytes]{i j:Int}
    (h1:Nat.blt d1 N.n=true) (h2:Nat.blt d2 N.n=true) (h3:Nat.blt d3 N.n=true) (hne:Nat.beq d2 d1=false)
    (hx:C9 (look l) x=some (.sl sz rows tok)) (hhi:C9 (look l) hi=some (.v (.int .i64 i))) (hmx:C9 (look l) mx=some (.v (.int .i64 j))) (hi':i=(rows.length:Int)) (hj':j=(rows.length:Int)) (hy:C9 (look ((d1, .sl sz rows none)::l)) y=some (.sl sz new tok')) (hsm:rows.length+new.length≤1000000)
    (h:AL P N ops Q rest ⟨look ((d3, .sl sz (rows++new) none)::(d2, .sl sz new tok')::(d1, .sl sz rows none)::l),hh⟩):
    AL P N ops Q (⟨some d1, .slice T x none (some hi) (some mx),ty1,pos1,af1,none⟩::⟨some d2, .move y,ty2,pos2,af2,none⟩::⟨some d3, .call {callee:= .builtin .append,args:=#[.tmp d1, .tmp d2],argTypes:=#[T,T]},ty3,pos3,af3,none⟩::rest) ⟨look l,hh⟩:=by
 obtain⟨hu,inf,z,hinf,hz,hzs,hsz,hbts,hp⟩:=Ey hE.eq
 intro E a w hr
 obtain⟨G,g1,g2,g3,g4,g5⟩:=hr
 have kx:=FQ _ _ (g2.ev hx)
 have ki:=g2.ev hhi
 have kj:=g2.ev hmx
 simp only[Cn]at kx
 simp only[rep]at ki kj
 subst hi' hj'
 obtain⟨A,cap,us,e1,e2,e3,e4,e5⟩:=Kk kx
 rw[e1]at kx
 refine wpList_plain rfl fun K hK=>?_
 have run1:(execOp a.eval ⟨some d1, .slice T x none (some hi) (some mx),ty1,pos1,af1,none⟩).run P w= .ok (.value (.slice A rows.length rows.length)) w:=by
  have hA:Option.map (fun x:Addr=>x.add 0) A=A:=by cases A with
   |none=>rfl
   |some ad=>cases ad;rfl
  have e0:(if rows.length=0 then A else Option.map (fun x:Addr=>x.add 0) A)=A:=by rw[hA];split<;>rfl
  simp[execOp,e1,ki,kj,Instr.sliceAt,Instr.slice,Instr.sliceBounds,Instr.sliceBound,asIntOf,run_underlying hu,sizeOf,typeInfo,hinf,hsz,e2,hA]
 refine N8 (E:=E) (w:=w) (R:=fun x' h'=>x'= .v (.slice A rows.length rows.length)∧h'=hh) (G:=G) ?_ ?_
 ·rw[run1]
  exact⟨_,_,G,⟨rfl,rfl⟩,g1,Ext.refl G w,by simp only[rep]⟩
 rintro v1 w1 ⟨x1,h1',G1,⟨rfl,rfl⟩,k1,k2,k3⟩
 simp only[rep]at k3
 subst k3
 have kx1:Ap G1.St w1 (.sl sz rows none) (.slice A rows.length cap):=Fn k2.st _ _ kx
 have kn1:Ap G1.St w1 (.sl sz rows none) (.slice A rows.length rows.length):=by
  have:=kx1
  simp only[Ap]at this ⊢
  obtain⟨_,B,c,q1,q2,q3,q4⟩:=this
  injection q1 with q1 _ _
  subst q1
  exact⟨trivial,_,_,rfl,Nat.le_refl _,Nat.le_trans q2 q3,q4⟩
 obtain⟨s1,s2,s3⟩:=g2.put (d:=some d1) (x:= .sl sz rows none) k2 g3 h1 (Fo _ _ kn1)
 apply hK
 refine wpList_plain rfl fun K2 hK2=>?_
 have ky:=s1.ev hy
 refine N8 (E:=E) (R:=fun x' h'=>x'= .sl sz new tok'∧h'=h1') (G:=G1) (w:=w1) (r:= .ok (.value ((a.put (some d1) (.slice A rows.length rows.length)).eval y)) w1) ⟨_,_,G1,⟨rfl,rfl⟩,k1,Ext.refl G1 w1,ky⟩ ?_
 rintro v2 w2 ⟨x2,h2',G2,⟨rfl,rfl⟩,m1,m2,m3⟩
 obtain⟨t1,t2,t3⟩:=s1.put (d:=some d2) (x:= .sl sz new tok') m2 s2 h2 m3
 have kn2:Ap G2.St w2 (.sl sz rows none) (.slice A rows.length rows.length):=Fn m2.st _ _ kn1
 have ky2:=FQ _ _ m3
 simp only[Cn]at ky2
 apply hK2
 refine wpList_plain rfl fun K3 hK3=>?_
 obtain⟨v',w',Nw,r1,r2,r3,r4⟩:=f8 (P:=P) m1.stlt hE.eq hE.few kn2 ky2 hsm ty3
 obtain⟨u1,u2⟩:=m1.grow r2 Nw r3
 have hd12:d2≠d1:=fun e=>by rw[e,Nat.beq_refl]at hne;cases hne
 have q1:((a.put (some d1) (.slice A rows.length rows.length)).put (some d2) v2).eval (.tmp d1)= .slice A rows.length rows.length:=by
  rw[fA _ hd12]
  exact VS _ g3 (BT h1)
 have q2:((a.put (some d1) (.slice A rows.length rows.length)).put (some d2) v2).eval (.tmp d2)=v2:=VS _ s2 (BT h2)
 refine N8 (E:=E) (R:=fun x' h'=>x'= .sl sz (rows++new) none∧h'=h2') (G:=G2) (w:=w2) ?_ ?_
 ·simp only[execOp,resolve,invoke,builtin,Sem.run_bind,Sem.run_pure,Result.andThen_ok,List.map_toArray,List.map_cons,List.map_nil,q1,q2,r1]
  exact⟨_,_,_,⟨rfl,rfl⟩,u1,u2,Fo _ _ r4⟩
 rintro v3 w3 ⟨x3,h3',G3,⟨rfl,rfl⟩,n1,n2,n3⟩
 obtain⟨o1,o2,o3⟩:=t1.put (d:=some d3) (x:= .sl sz (rows++new) none) n2 t2 h3 n3
 apply hK3
 exact h E _ w3 ⟨G3,n1,o1,o2,o3.trans (t3.trans (s3.trans g4)),g5⟩
theorem VT(s:AE)(hs:s.size≤60000):AFn Tryz.prog 91 [.v (.string s)] (fun r=>r= .tup [.sl 1 ((Cm s).map Cz) none, .v (.bool (D8 s)), .v (.bool (BG s))]):=by
 intro w St bl vs hr hv
 have hbl:bl=[]:=by have:=hr.bxlen;simpa using this
 subst hbl
 simp only[AY,rep]at hv
 obtain⟨z,zs,rfl,rfl,rfl⟩:=hv
 refine(f6 s w hs).mono ?_
 rintro e w' ⟨v,ss,rfl,hv,hp,hB,A,c,rfl,hc⟩
 obtain rfl:=Qy (ps:=ss) hp
 obtain⟨k1,k2⟩:=hr.grow hB (fun b _=>Pp w w' b) (fun b _ hb=>hb)
 refine⟨_,_,_,_,⟨rfl,rfl,rfl⟩,k1,k2,?_⟩
 simp only[rep,AY]
 refine⟨_,rfl,_,_,rfl,?_,_,_,rfl,rfl,_,_,rfl,rfl,rfl⟩
 obtain⟨A',c',h1,h2,h3,h4⟩:=hv
 injection h1 with h1 _ h1c
 subst h1 h1c
 simp only[Ap]
 refine⟨trivial,A,c,by rw[List.length_map],by rw[List.length_map];exact h2,hc,?_⟩
 by_cases h0:(Cm s).length=0
 ·exact .inl (by rw[List.eq_nil_of_length_eq_zero h0];rfl)
 obtain⟨b,off,rfl,hb,hcell⟩:=h4 (by omega)
 refine .inr ⟨b,off,rfl,Lh fun i r hi=>?_⟩
 rw[List.getElem?_map]at hi
 cases hy:(Cm s)[i]? with
 |none=>rw[hy]at hi;cases hi
 |some x=>
   rw[hy]at hi
   injection hi with hi
   subst hi
   refine⟨rfl,Kf fun j av hj=>?_⟩
   match j,hj with
   |0,hj=>
     injection hj with hj
     subst hj
     exact⟨.inr hb, .string x,hcell i x 0 hy (by omega),rfl,by simp only[Ap]⟩
   |j+1,hj=>simp[Cz]at hj
def Fk(f:AZ)(a:A9):Int:=match Bk f a with
 |none=>2
 |some n=>if n.kind=2 then 0 else 20
def GA(f:AZ)(a:A9)(name:AE):A9×Bool:=match Bk f a with
 |none=>((0,0),false)
 |some n=>match n.entries.find? (fun e:BK=>decide (e.1=name))with
   |none=>((0,0),false)
   |some e=>((a.1,e.2),true)
theorem fC{f:AZ}{a:A9}{name:AE}(h:¬Fk f a=0):AM f a name=((0,0),Fk f a):=by
 unfold Fk at h ⊢
 unfold AM
 cases hn:Bk f a with
 |none=>rfl
 |some n=>
   simp only[hn]at h ⊢
   by_cases hk:n.kind=2
   ·rw[if_pos hk]at h;exact absurd rfl h
   rw[if_neg hk,if_neg hk]
theorem fD{f:AZ}{a:A9}{name:AE}(h:Fk f a=0)(h2:(GA f a name).2=false):AM f a name=((0,0),2):=by
 unfold Fk at h
 unfold GA at h2
 unfold AM
 cases hn:Bk f a with
 |none=>rfl
 |some n=>
   simp only[hn]at h h2 ⊢
   by_cases hk:n.kind=2
   ·rw[if_pos hk]
    cases hf:n.entries.find? (fun e:BK=>decide (e.1=name))with
    |none=>rfl
    |some e=>rw[hf]at h2;cases h2
   rw[if_neg hk]at h;exact absurd h (by decide)
theorem fE{f:AZ}{a:A9}{name:AE}(h:Fk f a=0)(h2:(GA f a name).2=true):AM f a name=((GA f a name).1,0):=by
 unfold Fk at h
 unfold GA at h2 ⊢
 unfold AM
 cases hn:Bk f a with
 |none=>rw[hn]at h2;cases h2
 |some n=>
   simp only[hn]at h h2 ⊢
   by_cases hk:n.kind=2
   ·rw[if_pos hk]
    cases hf:n.entries.find? (fun e:BK=>decide (e.1=name))with
    |none=>rw[hf]at h2;cases h2
    |some e=>rfl
   rw[if_neg hk]at h;exact absurd h (by decide)
def EB(s:Spc)(fl:Bool)(w:Wk):List AV:=[.sl 2 (s.files.map Bn) none, .sl 3 (s.mounts.map Co) none, .sl 1 (w.ps.map Cz) none, .v (.int .i64 w.at_.1), .v (.int .i64 w.at_.2), .v (.int .i64 w.dir.1), .v (.int .i64 w.dir.2), .v (.string w.name), .v (.bool w.missing), .v (.bool fl), .v (.int .i64 (w.links:Int))]
theorem VU(d m:AE)(hd:d.size≤1000000)(hm:m.size≤1000000):AFn Tryz.prog 138 [.v (.string d), .v (.string m)] (fun r=>r= .v (.string (DD d m))):=
 Nh (us:=[.string d, .string m]) fun w=>(UM d m w hd hm).mono fun e w' h=>by
  obtain⟨h1,rfl⟩:=h
  exact⟨h1,Below.refl _ _⟩
theorem fF(t:AE):AFn Tryz.prog 132 [.v (.string t), .v (.string ⟨#[47]⟩)] (fun r=>r= .v (.bool (D8 t))):=
 Nh (us:=[.string t, .string ⟨#[47]⟩]) fun w=>(Tryz.strings_HasPrefix t ⟨#[47]⟩ w).mono fun e w' h=>by
  obtain⟨h1,rfl⟩:=h
  refine⟨?_,Below.refl _ _⟩
  rw[h1]
  unfold D8
  rw[←N0]
section
theorem fG(f:AZ)(a:A9)(hf:FlsB f):AFn Tryz.prog 139 [.agg (As f), .agg (AA a)] (fun r=>r= .v (.int .i64 (Fk f a))):=by
 refine enter Tryz.func139 rfl rfl rfl rfl rfl 0 rfl ?_
 refine w_ (b_ (h:=b_ (h:=a_ (h:=e_ (w_ (l_ (h:=l_ (h:=?_))))))))
 refine A4 rfl (AK (Pm f a hf) ?_)
 rintro r (⟨e,rfl⟩|⟨n,e,rfl⟩)
 ·skip
  refine a_ (h:=e_ (q_ (Ao (w_ (m_ (h:=?_))))))
  refine A4 rfl (Kx (by kernel_rfl) rfl rfl ?_)
  refine a_ (h:=e_ (?_))
  refine A8 rfl (fun hb1=>?_) (fun hb1=>?_)
  ·have hc1:=bp hb1
   refine w_ (a_ (h:=e_ (A6 (AR (A7 (?_))))))
   refine AB ?_
   rw[show Fk f a=2 by simp only[Fk,e]]
   rfl
  have hc1:=bp hb1
  exfalso;first|contradiction|omega
 skip
 refine a_ (h:=e_ (q_ (Ao (w_ (m_ (h:=?_))))))
 first|refine A4 rfl (Kx (by kernel_rfl) rfl rfl ?_)|refine A4 rfl (Ny (by kernel_rfl) rfl rfl ?_)
 refine a_ (h:=e_ (?_))
 refine A8 rfl (fun hb2=>?_) (fun hb2=>?_)
 ·have hc2:=bp hb2
  exfalso;first|contradiction|omega
 have hc2:=bp hb2
 refine w_ (m_ (h:=k_ (h:=f_ (h:=l_ (h:=BF (h:=a_ (h:=e_ (?_))))))))
 refine A8 rfl (fun hb3=>?_) (fun hb3=>?_)
 ·have hc3:=bp hb3
  refine w_ (a_ (h:=e_ (A6 (AR (A7 (?_))))))
  refine AB ?_
  rw[show Fk f a=20 by simp only[Fk,e];exact if_neg hc3]
  rfl
 have hc3:=bp hb3
 refine BB (Ay (t_ (w_ (a_ (h:=e_ (A6 (?_)))))))
 refine AB ?_
 rw[show Fk f a=0 by simp only[Fk,e];exact if_pos hc3]
 rfl
theorem fH(f:AZ)(a:A9)(name:AE)(hf:FlsB f):AFn Tryz.prog 140 [.agg (As f), .agg (AA a), .v (.string name)] (fun r=>r= .tup [.agg (AA (GA f a name).1), .v (.bool (GA f a name).2)]):=by
 have hen:=M8 hf a
 refine enter Tryz.func140 rfl rfl rfl rfl rfl 0 rfl ?_
 refine w_ (b_ (h:=b_ (h:=AW (h:=a_ (h:=e_ (w_ (l_ (h:=l_ (h:=?_)))))))))
 refine A4 rfl (AK (Pm f a hf) ?_)
 rintro r (⟨e,rfl⟩|⟨n,e,rfl⟩)
 ·skip
  refine a_ (h:=e_ (q_ (w_ (m_ (h:=?_)))))
  refine A4 rfl (Kx (by kernel_rfl) rfl rfl ?_)
  refine e_ (?_)
  refine A8 rfl (fun hb1=>?_) (fun hb1=>?_)
  ·have hc1:=bp hb1
   refine w_ (AT (h:=s_ (h:=a_ (h:=e_ (A6 (A7 (?_)))))))
   refine AB ?_
   rw[show GA f a name=((0,0),false) by simp only[GA,e]]
   rfl
  have hc1:=bp hb1
  exfalso;first|contradiction|omega
 have hnl:n.entries.length≤1000:=by simpa[Aa,e]using hen
 refine a_ (h:=e_ (q_ (w_ (m_ (h:=?_)))))
 first|refine A4 rfl (Kx (by kernel_rfl) rfl rfl ?_)|refine A4 rfl (Ny (by kernel_rfl) rfl rfl ?_)
 refine e_ (?_)
 refine A8 rfl (fun hb2=>?_) (fun hb2=>?_)
 ·have hc2:=bp hb2
  exfalso;first|contradiction|omega
 have hc2:=bp hb2
 refine AG (q_ (w_ (m_ (h:=k_ (h:=f_ (h:=l_ (h:=n_ (h:=m_ (h:=e_ (Ao (?_)))))))))))
 refine Ba (fun m t=>∃j:Nat,j≤n.entries.length∧m=n.entries.length - j∧(∀i y,i<j→n.entries[i]?=some y→decide (y.1=name)=false)∧t=⟨look [(2, .v (.string name)),(4, .bp 1 0),(6, .bp 2 0),(20, .sl 2 (n.entries.map CU) none),(21, .v (.int .i64 ((n.entries.map CU).length:Int))),(22, .v (.int .i64 (j:Int)))],⟨[As f,AA a,[.v (.int .i64 0), .v (.int .i64 0)]],[]⟩⟩) (n.entries.length) ((wk 3 0)) (⟨0,by omega,rfl,fun i y hi=>by omega,rfl⟩) ?_
 rintro m t ⟨j,hj,rfl,ha,rfl⟩
 refine w_ (BJ (h:=e_ (q_ (?_))))
 refine A8 rfl (fun hb3=>?_) (fun hb3=>?_)
 ·have hc3:=bp hb3
  obtain⟨hlt,x,hy,hrow, -⟩:=CW CU hc3
  refine AG (q_ (Ao (w_ (i_ (h:=l_ (h:=AW (h:=s_ (h:=e_ (w_ (f_ (h:=l_ (h:=m_ (h:=AQ (h:=e_ (?_)))))))))))))))
  refine A8 rfl (fun hb4=>?_) (fun hb4=>?_)
  ·have hc4:=bp hb4
   refine w_ (f_ (h:=l_ (h:=f_ (h:=l_ (h:=AT (h:=s_ (h:=a_ (h:=e_ (A6 (AR (A7 (A7 (AR (A7 (?_)))))))))))))))
   refine AB ?_
   rw[show GA f a name=((a.1,x.2),true) by simp only[GA,e];rw[HU hy (by simpa using hc4) ha]]
   rfl
  have hc4:=bp hb4
  refine BB (Ay (t_ (AP (B8 (h:=m_ (h:=AO (?_)))))))
  refine AD ?_
  refine⟨_,_,?_,⟨j+1,by omega,rfl,Dw hy ha (by simpa using hc4),rfl⟩,(wk 3 0)⟩
  omega
 have hc3:=bp hb3
 have e3:=Ck CU hj hc3
 subst e3
 refine BO (Aq (Aq (BQ (t_ (w_ (AT (h:=s_ (h:=a_ (h:=e_ (A6 (?_)))))))))))
 refine AB ?_
 rw[show GA f a name=((0,0),false) by simp only[GA,e];rw[Ha ha]]
 rfl
theorem RG(f:AZ)(a:A9)(name:AE)(hf:FlsB f):AFn Tryz.prog 96 [.agg (As f), .agg (AA a), .v (.string name)] (fun r=>r= .tup [.agg (AA (AM f a name).1), .v (.int .i64 (AM f a name).2)]):=by
 refine enter Tryz.func96 rfl rfl rfl rfl rfl 0 rfl ?_
 refine w_ (b_ (h:=b_ (h:=AW (h:=a_ (h:=e_ (q_ (w_ (l_ (h:=l_ (h:=?_))))))))))
 refine A4 rfl (AK (fG f a hf) ?_)
 rintro r rfl
 refine a_ (h:=e_ (w_ (m_ (h:=BF (h:=e_ (?_))))))
 refine A8 rfl (fun hb1=>?_) (fun hb1=>?_)
 ·have hc1:=bp hb1
  refine w_ (AT (h:=m_ (h:=s_ (h:=a_ (h:=e_ (A6 (A7 (?_))))))))
  refine AB ?_
  rw[fC hc1]
  rfl
 have hc1:=bp hb1
 refine AG (w_ (l_ (h:=l_ (h:=m_ (h:=?_)))))
 refine A4 rfl (AK (fH f a name hf) ?_)
 rintro r rfl
 refine m_ (h:=x_ (h:=x_ (h:=AW (h:=s_ (h:=a_ (h:=e_ (q_ (w_ (m_ (h:=BA (h:=e_ (?_))))))))))))
 refine A8 rfl (fun hb2=>?_) (fun hb2=>?_)
 ·have hc2:=bp hb2
  refine w_ (AT (h:=s_ (h:=a_ (h:=e_ (A6 (A7 (?_)))))))
  refine AB ?_
  rw[fD hc1 (by simpa using hc2)]
  rfl
 have hc2:=bp hb2
 refine AG (w_ (l_ (h:=s_ (h:=a_ (h:=e_ (A6 (?_)))))))
 refine AB ?_
 rw[fE hc1 (by simpa using hc2)]
 rfl
theorem VV(s:Spc)(hs:SpcB s):AFn Tryz.prog 92 [.agg (Ai s)] (fun r=>r= .agg (AA (Dq s))):=by
 refine enter Tryz.func92 rfl rfl rfl rfl rfl 0 rfl ?_
 refine w_ (b_ (h:=AW (h:=e_ (w_ (l_ (h:=AT (h:=?_)))))))
 refine A4 rfl (AK (Pl s (0,1) hs) ?_)
 rintro r rfl
 refine s_ (h:=e_ (A6 (?_)))
 refine AB ?_
 rfl
theorem RH(s:Spc)(fl:Bool)(w:Wk)(hs:SpcB s):AFn Tryz.prog 93 [.fp (EB s fl w)] (fun r=>r= .v (.bool (AX s.files w.at_))):=by
 have hde:=Fv s.files w.at_
 refine enter Tryz.func93 rfl rfl rfl rfl rfl 0 rfl ?_
 refine w_ (a_ (h:=e_ (q_ (BH ([]) 16 (h:=AN 0 (h:=B7 1 (h:=AF 2 (h:=AF 3 (h:=AJ 4 (h:=AN 5 (h:=B7 6 (h:=AF 7 (h:=AJ 8 (h:=?_))))))))))))))
 refine Da 9 13 rfl rfl ?_ ?_
 ·refine AK (Hb s.files w.at_ hs.files) ?_
  rintro r rfl
  refine o_ (h:=?_)
  refine AN 10 (h:=B4 11 (h:=B4 12 (h:=?_)))
  refine c_ 13 rfl (Bx (by repeat constructor) ?_)
  refine o_ (h:=?_)
  refine B0 14 rfl (Aw rfl rfl rfl rfl rfl rfl (by repeat constructor) (by repeat constructor) ?_)
  refine o_ (h:=BC 15 (h:=z_ (h:=t_ (w_ (m_ (h:=m_ (h:=?_)))))))
  refine Ax true rfl rfl (fun hb1=>?_) (fun hb1=>?_)
  ·have hc1:=bp hb1
   refine f_ (h:=l_ (h:=AQ (h:=Af (h:=a_ (h:=e_ (A6 (?_)))))))
   refine AB ?_
   (rw[hde,hb1];rfl)
  have hc1:=bp hb1
  refine A3 (h:=A3 (h:=A3 (h:=Am (h:=a_ (h:=e_ (A6 (?_)))))))
  refine AB ?_
  (rw[hde,hb1];rfl)
 refine Bx (by repeat constructor) ?_
 refine o_ (h:=?_)
 refine c_ 9 rfl (AK (Hb s.files w.at_ hs.files) ?_)
 rintro r rfl
 refine o_ (h:=AN 10 (h:=B4 11 (h:=B4 12 (h:=?_))))
 refine B0 14 rfl (Aw rfl rfl rfl rfl rfl rfl (by repeat constructor) (by repeat constructor) ?_)
 refine o_ (h:=BC 15 (h:=z_ (h:=t_ (w_ (m_ (h:=m_ (h:=?_)))))))
 refine Ax true rfl rfl (fun hb2=>?_) (fun hb2=>?_)
 ·have hc2:=bp hb2
  refine f_ (h:=l_ (h:=AQ (h:=Af (h:=a_ (h:=e_ (A6 (?_)))))))
  refine AB ?_
  first|(rw[hde,hb1];rfl)|(rw[hde,hb2];rfl)
 have hc2:=bp hb2
 refine A3 (h:=A3 (h:=A3 (h:=Am (h:=a_ (h:=e_ (A6 (?_)))))))
 refine AB ?_
 first|(rw[hde,hb1];rfl)|(rw[hde,hb2];rfl)
theorem fJ(s:Spc)(fl sl:Bool)(w:Wk)(hs:SpcN s)(hw:∀a,(Be s a).1.size≤1000)(hn:w.name.size≤1000000):AFn Tryz.prog 95 [.fp (EB s fl w), .v (.bool sl)] (fun r=>r= .agg (Ak (G9 s sl w))):=by
 refine enter Tryz.func95 rfl rfl rfl rfl rfl 0 rfl ?_
 refine w_ (AW (h:=e_ (q_ (BH ([(0,Ak DO)]) 17 (h:=AN 0 (h:=B7 1 (h:=AF 2 (h:=AJ 3 (h:=AN 4 (h:=B7 5 (h:=AF 6 (h:=AJ 7 (h:=AN 8 (h:=B7 9 (h:=AF 10 (h:=AJ 11 (h:=PY 12 (h:=AN 13 (h:=Gm 14 (h:=?_))))))))))))))))))))
 refine c_ 15 rfl (Bx (by repeat constructor) ?_)
 refine o_ (h:=?_)
 refine B0 16 rfl (Aw rfl rfl rfl rfl rfl rfl (by repeat constructor) (by repeat constructor) ?_)
 refine o_ (h:=z_ (h:=t_ (q_ (w_ (m_ (h:=k_ (h:=f_ (h:=l_ (h:=AQ (h:=e_ (?_)))))))))))
 refine A8 rfl (fun hb1=>?_) (fun hb1=>?_)
 ·have hc1:=bp hb1
  refine q_ (BH ([(0,Ak DO)]) 12 (h:=AN 0 (h:=B7 1 (h:=AF 2 (h:=AJ 3 (h:=AN 4 (h:=B7 5 (h:=AF 6 (h:=AJ 7 (h:=AF 8 (h:=?_)))))))))))
  refine B0 9 rfl (Aw rfl rfl rfl rfl rfl rfl (by repeat constructor) (by repeat constructor) ?_)
  refine o_ (h:=AF 10 (h:=?_))
  refine B0 11 rfl (Aw rfl rfl rfl rfl rfl rfl (by repeat constructor) (by repeat constructor) ?_)
  refine o_ (h:=z_ (h:=t_ (q_ (BH ([(0,Ak DO)]) 12 (h:=AN 0 (h:=B7 1 (h:=AF 2 (h:=AJ 3 (h:=AF 4 (h:=?_))))))))))
  refine c_ 5 rfl (FR rfl rfl rfl ?_)
  refine o_ (h:=?_)
  refine c_ 6 rfl (AK (Qk hs w.at_) ?_)
  rintro r rfl
  refine o_ (h:=AN 7 (h:=B4 8 (h:=B4 9 (h:=AF 10 (h:=?_)))))
  refine B0 11 rfl (Aw rfl rfl rfl rfl rfl rfl (by repeat constructor) (by repeat constructor) ?_)
  refine o_ (h:=z_ (h:=t_ (w_ (l_ (h:=s_ (h:=e_ (A6 (A7 (?_)))))))))
  refine AB ?_
  rw[show G9 s sl w=⟨w.at_,⟨#[]⟩,w.at_, !w.missing,sl,(Be s w.at_).1⟩ from if_pos hc1,hc1]
  rfl
 have hc1:=bp hb1
 refine AG (q_ (w_ (f_ (h:=l_ (h:=e_ (?_))))))
 refine A8 rfl (fun hb2=>?_) (fun hb2=>?_)
 ·have hc2:=bp hb2
  refine AP (m_ (h:=k_ (h:=f_ (h:=l_ (h:=f_ (h:=s_ (h:=e_ (q_ (q_ (DT 12 (h:=AN 0 (h:=B7 1 (h:=AF 2 (h:=AJ 3 (h:=AF 4 (h:=AJ 5 (h:=?_)))))))))))))))))
  refine c_ 6 rfl (AK (Qk hs w.dir) ?_)
  rintro r rfl
  refine o_ (h:=AN 7 (h:=B4 8 (h:=B4 9 (h:=BC 10 (h:=BC 11 (h:=z_ (h:=t_ (w_ (m_ (h:=e_ (?_)))))))))))
  refine A8 rfl (fun hb3=>?_) (fun hb3=>?_)
  ·have hc3:=bp hb3
   refine AP (m_ (h:=f_ (h:=l_ (h:=?_))))
   refine A4 rfl (AK (VU (Be s w.dir).1 w.name (by have:=hw w.dir;omega) hn) ?_)
   rintro r rfl
   refine f_ (h:=s_ (h:=e_ (w_ (l_ (h:=s_ (h:=e_ (A6 (?_))))))))
   refine AB ?_
   rw[show G9 s sl w=⟨w.dir,w.name,w.at_, !w.missing,sl,DD (Be s w.dir).1 w.name⟩ by unfold G9;rw[if_neg hc1,if_neg (by simp[hc2]),if_pos hc3]]
   rfl
  have hc3:=bp hb3
  refine AG (w_ (l_ (h:=s_ (h:=e_ (A6 (?_))))))
  refine AB ?_
  rw[show G9 s sl w=⟨w.dir,w.name,w.at_, !w.missing,sl,⟨#[]⟩⟩ by unfold G9;rw[if_neg hc1,if_neg (by simp[hc2]),if_neg (by simp[hc3])]]
  rfl
 have hc2:=bp hb2
 refine AG (q_ (q_ (DT 12 (h:=AN 0 (h:=B7 1 (h:=AF 2 (h:=AJ 3 (h:=AF 4 (h:=AJ 5 (h:=?_))))))))))
 refine c_ 6 rfl (AK (Qk hs w.dir) ?_)
 rintro r rfl
 refine o_ (h:=AN 7 (h:=B4 8 (h:=B4 9 (h:=BC 10 (h:=BC 11 (h:=z_ (h:=t_ (w_ (m_ (h:=e_ (?_)))))))))))
 refine A8 rfl (fun hb4=>?_) (fun hb4=>?_)
 ·have hc4:=bp hb4
  refine AP (m_ (h:=f_ (h:=l_ (h:=?_))))
  refine A4 rfl (AK (VU (Be s w.dir).1 w.name (by have:=hw w.dir;omega) hn) ?_)
  rintro r rfl
  refine f_ (h:=s_ (h:=e_ (w_ (l_ (h:=s_ (h:=e_ (A6 (?_))))))))
  refine AB ?_
  rw[show G9 s sl w=⟨w.dir,w.name,(0,0), !w.missing,sl,DD (Be s w.dir).1 w.name⟩ by unfold G9;rw[if_neg hc1,if_pos (by simp[hc2]),if_pos hc4]]
  rfl
 have hc4:=bp hb4
 refine AG (w_ (l_ (h:=s_ (h:=e_ (A6 (?_))))))
 refine AB ?_
 rw[show G9 s sl w=⟨w.dir,w.name,(0,0), !w.missing,sl,⟨#[]⟩⟩ by unfold G9;rw[if_neg hc1,if_pos (by simp[hc2]),if_neg (by simp[hc4])]]
 rfl
end
def OY(s:Spc)(tg:AE)(rest:List AE)(w:Wk):Wk:=⟨Cm tg++rest,if D8 tg=true then Dq s else w.at_,if D8 tg=true then(0,0)else w.dir,if D8 tg=true then⟨#[]⟩else w.name,w.missing,w.links+1⟩
theorem OZ(s:Spc)(fl:Bool)(w:Wk):Ab 0 0 (EB s fl w)=true:=rfl
section
theorem fK(s:Spc)(fl:Bool)(w:Wk)(tg:AE)(rest:List AE)(hs:SpcB s)(h8:w.links≤8)(htg:tg.size≤60000)(hrl:rest.length≤500000):Nb Tryz.prog 136 [.bp 0 0, .v (.string tg), .sl 1 (rest.map Cz) none] (EB s fl w) (fun r row'=>(w.links=8∧r= .v (.int .i64 40)∧row'=EB s fl w)∨(w.links≠8∧r= .v (.int .i64 0)∧row'=EB s fl (OY s tg rest w))):=by
 have hpl:=LG tg
 refine enter Tryz.func136 rfl rfl rfl rfl rfl 1 rfl ?_
 refine w_ (a_ (h:=e_ (q_ (w_ (m_ (h:=k_ (h:=f_ (h:=l_ (h:=AQ (h:=e_ (?_)))))))))))
 refine A8 rfl (fun hb1=>?_) (fun hb1=>?_)
 ·have hc1:=bp hb1
  refine w_ (a_ (h:=e_ (A6 (A7 (?_)))))
  refine Aj none (h5:=(LeA.refl _)) (h6:=⟨_,rfl,rfl, .inl ⟨by omega,rfl,rfl⟩⟩)
 have hc1:=bp hb1
 refine AG (w_ (m_ (h:=k_ (h:=f_ (h:=l_ (h:=?_))))))
 refine A4 rfl (Ju rfl rfl (by omega) ?_)
 refine k_ (h:=f_ (h:=s_ (h:=e_ (w_ (m_ (h:=?_))))))
 refine A4 rfl (AK (VT tg htg) ?_)
 rintro r rfl
 refine m_ (h:=x_ (h:=x_ (h:=x_ (h:=a_ (h:=a_ (h:=a_ (h:=e_ (w_ (m_ (h:=m_ (h:=m_ (h:=n_ (h:=m_ (h:=n_ (h:=?_)))))))))))))))
 refine fB rfl rfl rfl rfl rfl rfl rfl rfl rfl rfl (by simp;omega) ?_
 refine k_ (h:=f_ (h:=s_ (h:=e_ (q_ (w_ (m_ (h:=?_)))))))
 refine A4 rfl (AK (fF tg) ?_)
 rintro r rfl
 refine e_ (?_)
 refine A8 rfl (fun hb2=>?_) (fun hb2=>?_)
 ·have hc2:=bp hb2
  refine AP (m_ (h:=m_ (h:=m_ (h:=m_ (h:=k_ (h:=f_ (h:=l_ (h:=?_))))))))
  refine A4 rfl (AK (VV s hs) ?_)
  rintro r rfl
  refine AT (h:=k_ (h:=f_ (h:=s_ (h:=k_ (h:=f_ (h:=s_ (h:=k_ (h:=f_ (h:=s_ (h:=e_ (w_ (a_ (h:=e_ (A6 (?_)))))))))))))))
  refine Aj none (h5:=(LeA.refl _)) (h6:=⟨_,rfl,rfl, .inr ⟨by omega,rfl,by simp only[EB,OY,if_pos hc2,List.map_append];rfl⟩⟩)
 have hc2:=bp hb2
 refine AG (w_ (a_ (h:=e_ (A6 (?_)))))
 refine Aj none (h5:=(LeA.refl _)) (h6:=⟨_,rfl,rfl, .inr ⟨by omega,rfl,by simp only[EB,OY,hc2,if_neg (show¬false=true by simp),List.map_append];rfl⟩⟩)
theorem fL(s:Spc)(fl:Bool)(w:Wk)(p:AE)(ps:List AE)(hps:w.ps=p::ps)(hs:SpcB s)(hv:SpcV s)(h8:w.links≤8)(hrl:ps.length≤500000):Nb Tryz.prog 94 [.bp 0 0] (EB s fl w) (fun r row'=>(∃e,EA s fl p ps w= .inl e∧e≠0∧r= .v (.int .i64 e)∧row'=EB s fl w)∨∃w',EA s fl p ps w= .inr w'∧r= .v (.int .i64 0)∧row'=EB s fl w'):=by
 obtain⟨ps0,a,dr,nm,mi,lk⟩:=w
 simp only at hps h8
 subst hps
 have hml:(ps.map Cz).length=ps.length:=by simp
 have htg:=Mj hv.files (AM s.files a p).1
 refine enter Tryz.func94 rfl rfl rfl rfl rfl 1 rfl ?_
 refine w_ (a_ (h:=e_ (q_ (BH ([(0,EB s fl ⟨p::ps,a,dr,nm,mi,lk⟩)]) 13 (h:=AN 0 (h:=B7 1 (h:=AF 2 (h:=AJ 3 (h:=?_)))))))))
 refine Bj 4 rfl (fun _ hS=>CS (n:=0) rfl rfl rfl rfl ⟨rfl,rfl⟩) ?_
 refine AJ 5 (h:=AN 6 (h:=B7 7 (h:=AF 8 (h:=AJ 9 (h:=?_)))))
 refine Bj 10 rfl (fun _ hS=>PG (l:=1) rfl rfl rfl (by simp) ⟨rfl,rfl⟩) ?_
 refine BC 11 (h:=BC 12 (h:=z_ (h:=t_ (q_ (w_ (m_ (h:=?_)))))))
 refine A4 rfl (Cf 1 rfl (.cons _ _ _ _ _ rfl (LeA.refl _) .nil) (RH s fl ⟨p::ps,a,dr,nm,mi,lk⟩ hs) ?_)
 rintro r rfl
 refine⟨rfl,?_⟩
 refine BA (h:=e_ (?_))
 refine A8 rfl (fun hb1=>?_) (fun hb1=>?_)
 ·have hc1:=bp hb1
  refine w_ (a_ (h:=e_ (A6 (A7 (?_)))))
  refine Aj none (h5:=(LeA.refl _)) (h6:=⟨_,rfl,rfl, .inl ⟨20,by unfold EA;rw[if_pos hc1],by decide,rfl,rfl⟩⟩)
 have hc1:=bp hb1
 refine AG (q_ (w_ (m_ (h:=n_ (h:=CZ (h:=e_ (?_)))))))
 refine A8 rfl (fun hb2=>?_) (fun hb2=>?_)
 ·have hc2:=bp hb2
  refine w_ (a_ (h:=e_ (A6 (A7 (?_)))))
  refine Aj none (h5:=(LeA.refl _)) (h6:=⟨_,rfl,rfl, .inl ⟨36,by unfold EA;rw[if_neg (by simp[hc1]),if_pos (by omega)],by decide,rfl,rfl⟩⟩)
 have hc2:=bp hb2
 refine AG (q_ (w_ (m_ (h:=e_ (Ao (q_ (Ao (q_ (Ao (q_ (q_ (w_ (AQ (h:=a_ (h:=e_ (?_))))))))))))))))
 refine A8 rfl (fun hb3=>?_) (fun hb3=>?_)
 ·have hc3:=bp hb3
  refine BO (Aq (Aq (BQ (t_ (?_)))))
  refine Kh (fun h=>∃x y,h.bx=[[.sl 2 (s.files.map Bn) none, .sl 3 (s.mounts.map Co) none, .sl 1 ((p::ps).map Cz) none,x,y, .v (.int .i64 dr.1), .v (.int .i64 dr.2), .v (.string nm), .v (.bool mi), .v (.bool fl), .v (.int .i64 (lk:Int))]]) 18 (by kernel_rfl) ?_
  refine CD (i:=0) rfl rfl (by kernel_rfl) (by first|rfl|exact Al rfl rfl (Bv ‹_›)|exact Al rfl rfl (Bw ‹_›)|exact Al rfl rfl (by simp[*])) (fun h0 hS=>Ex rfl ⟨rfl,rfl⟩) ⟨_,_,rfl⟩ ?_
  refine CD (i:=1) rfl rfl (by kernel_rfl) (by first|rfl|exact Al rfl rfl (Bv ‹_›)|exact Al rfl rfl (Bw ‹_›)|exact Al rfl rfl (by simp[*])) (fun h0 hS=>Ex rfl ⟨rfl,rfl⟩) ⟨_,_,rfl⟩ ?_
  refine CD (i:=2) rfl rfl (by kernel_rfl) (by first|rfl|exact Al rfl rfl (Bv ‹_›)|exact Al rfl rfl (Bw ‹_›)|exact Al rfl rfl (by simp[*])) (fun h0 hS=>HG rfl ⟨rfl,rfl⟩) ⟨_,_,rfl⟩ ?_
  refine CD (i:=3) rfl rfl (by kernel_rfl) (by first|rfl|exact Al rfl rfl (Bv ‹_›)|exact Al rfl rfl (Bw ‹_›)|exact Al rfl rfl (by simp[*])) (fun h0 hS=>Ei rfl ⟨rfl,rfl⟩) ⟨_,_,rfl⟩ ?_
  refine CD (i:=4) rfl rfl (by kernel_rfl) (by first|rfl|exact Al rfl rfl (Bv ‹_›)|exact Al rfl rfl (Bw ‹_›)|exact Al rfl rfl (by simp[*])) (fun h0 hS=>by obtain⟨x,y,e⟩:=hS;exact FR (row:=[.sl 2 (s.files.map Bn) none, .sl 3 (s.mounts.map Co) none, .sl 1 ((p::ps).map Cz) none,x,y, .v (.int .i64 dr.1), .v (.int .i64 dr.2), .v (.string nm), .v (.bool mi), .v (.bool fl), .v (.int .i64 (lk:Int))]) rfl (by rw[e];rfl) rfl (show _=AV.agg (Ai s)∧_ from⟨rfl,rfl⟩)) ⟨_,_,rfl⟩ ?_
  refine CD (i:=5) rfl rfl (by kernel_rfl) (by first|rfl|exact Al rfl rfl (Bv ‹_›)|exact Al rfl rfl (Bw ‹_›)|exact Al rfl rfl (by simp[*])) (fun h0 hS=>Ex rfl ⟨rfl,rfl⟩) ⟨_,_,rfl⟩ ?_
  refine CD (i:=6) rfl rfl (by kernel_rfl) (by first|rfl|exact Al rfl rfl (Bv ‹_›)|exact Al rfl rfl (Bw ‹_›)|exact Al rfl rfl (by simp[*])) (fun h0 hS=>HG rfl ⟨rfl,rfl⟩) ⟨_,_,rfl⟩ ?_
  refine CD (i:=7) rfl rfl (by kernel_rfl) (by first|rfl|exact Al rfl rfl (Bv ‹_›)|exact Al rfl rfl (Bw ‹_›)|exact Al rfl rfl (by simp[*])) (fun h0 hS=>Ei rfl ⟨rfl,rfl⟩) ⟨_,_,rfl⟩ ?_
  refine CD (i:=8) rfl rfl (by kernel_rfl) (by first|rfl|exact Al rfl rfl (Bv ‹_›)|exact Al rfl rfl (Bw ‹_›)|exact Al rfl rfl (by simp[*])) (fun h0 hS=>by obtain⟨x,y,e⟩:=hS;exact FR (row:=[.sl 2 (s.files.map Bn) none, .sl 3 (s.mounts.map Co) none, .sl 1 ((p::ps).map Cz) none,x,y, .v (.int .i64 dr.1), .v (.int .i64 dr.2), .v (.string nm), .v (.bool mi), .v (.bool fl), .v (.int .i64 (lk:Int))]) rfl (by rw[e];rfl) rfl (show _=AV.agg (Ai s)∧_ from⟨rfl,rfl⟩)) ⟨_,_,rfl⟩ ?_
  refine CD (i:=9) rfl rfl (by kernel_rfl) (by first|rfl|exact Al rfl rfl (Bv ‹_›)|exact Al rfl rfl (Bw ‹_›)|exact Al rfl rfl (by simp[*])) (fun h0 hS=>Ex rfl ⟨rfl,rfl⟩) ⟨_,_,rfl⟩ ?_
  refine CD (i:=10) rfl rfl (by kernel_rfl) (by first|rfl|exact Al rfl rfl (Bv ‹_›)|exact Al rfl rfl (Bw ‹_›)|exact Al rfl rfl (by simp[*])) (fun h0 hS=>HG rfl ⟨rfl,rfl⟩) ⟨_,_,rfl⟩ ?_
  refine CD (i:=11) rfl rfl (by kernel_rfl) (by first|rfl|exact Al rfl rfl (Bv ‹_›)|exact Al rfl rfl (Bw ‹_›)|exact Al rfl rfl (by simp[*])) (fun h0 hS=>Ei rfl ⟨rfl,rfl⟩) ⟨_,_,rfl⟩ ?_
  first|refine c_ 12 rfl (D4 rfl rfl rfl ?_)|refine c_ 12 rfl (Ez rfl rfl rfl ?_)|refine c_ 12 rfl (Jt rfl rfl ?_)|refine c_ 12 rfl (Lm rfl rfl ?_)|refine c_ 12 rfl (FR rfl rfl rfl ?_)
  refine⟨.inr ⟨_,_,rfl⟩,?_⟩
  refine c_ 13 rfl (AK (bR hs hv a) ?_)
  rintro r rfl
  refine⟨.inr ⟨_,_,rfl⟩,?_⟩
  refine c_ 14 rfl (AK (Pl s (Dd s (s.mounts.length+1) a) hs) ?_)
  rintro r rfl
  refine⟨.inr ⟨_,_,rfl⟩,?_⟩
  refine CD (i:=15) rfl rfl (by kernel_rfl) (by first|rfl|exact Al rfl rfl (Bv ‹_›)|exact Al rfl rfl (Bw ‹_›)|exact Al rfl rfl (by simp[*])) (fun h0 hS=>HG rfl ⟨rfl,rfl⟩) ⟨_,_,rfl⟩ ?_
  refine CD (i:=16) rfl rfl (by kernel_rfl) (by first|rfl|exact Al rfl rfl (Bv ‹_›)|exact Al rfl rfl (Bw ‹_›)|exact Al rfl rfl (by simp[*])) (fun h0 hS=>Ei rfl ⟨rfl,rfl⟩) ⟨_,_,rfl⟩ ?_
  refine B0 17 rfl (Aw rfl rfl rfl rfl rfl rfl (by repeat constructor) (by repeat constructor) ?_)
  refine⟨.inr ⟨_,_,rfl⟩,?_⟩
  refine z_ (h:=Ay (t_ (q_ (w_ (m_ (h:=m_ (h:=m_ (h:=m_ (h:=AT (h:=k_ (h:=f_ (h:=s_ (h:=k_ (h:=f_ (h:=s_ (h:=k_ (h:=f_ (h:=s_ (h:=e_ (w_ (a_ (h:=e_ (A6 (?_))))))))))))))))))))))))
  refine A7 (AR (A7 (?_)))
  refine Aj none (h5:=(LeA.refl _)) (h6:=⟨_,rfl,rfl, .inr ⟨⟨ps,Cp s s.mounts.length (Dd s (s.mounts.length+1) a),(0,0),⟨#[]⟩,mi,lk⟩,by unfold EA;rw[if_neg (by simp[hc1]),if_neg (by omega),if_pos hc3],rfl,rfl⟩⟩)
 have hc3:=bp hb3
 refine AG (w_ (AQ (h:=a_ (h:=e_ (?_)))))
 refine A8 rfl (fun hb4=>?_) (fun hb4=>?_)
 ·have hc4:=bp hb4
  refine BO (Aq (Li rfl (Aq (BQ (t_ (q_ (w_ (m_ (h:=m_ (h:=m_ (h:=m_ (h:=AT (h:=k_ (h:=f_ (h:=s_ (h:=k_ (h:=f_ (h:=s_ (h:=k_ (h:=f_ (h:=s_ (h:=e_ (w_ (?_))))))))))))))))))))))))
  refine a_ (h:=e_ (A6 (A7 (AR (A7 (?_))))))
  refine Aj none (h5:=(LeA.refl _)) (h6:=⟨_,rfl,rfl, .inr ⟨⟨ps,a,(0,0),⟨#[]⟩,mi,lk⟩,by unfold EA;rw[if_neg (by simp[hc1]),if_neg (by omega),if_neg hc3,if_pos hc4],rfl,rfl⟩⟩)
 have hc4:=bp hb4
 refine AG (BO (Li rfl (Aq (Li rfl (Aq (BQ (t_ (q_ (w_ (m_ (h:=?_)))))))))))
 refine A4 rfl (AK (dD p) ?_)
 rintro r rfl
 refine BA (h:=e_ (?_))
 refine A8 rfl (fun hb5=>?_) (fun hb5=>?_)
 ·have hc5:=bp hb5
  refine w_ (a_ (h:=e_ (A6 (A7 (?_)))))
  refine Aj none (h5:=(LeA.refl _)) (h6:=⟨_,rfl,rfl, .inl ⟨2,by unfold EA;rw[if_neg (by simp[hc1]),if_neg (by omega),if_neg hc3,if_neg hc4,if_pos hc5],by decide,rfl,rfl⟩⟩)
 have hc5:=bp hb5
 refine AG (?_)
 refine JX (⟨look [(0, .bp 0 0),(3, .v (.string p)),(4, .sl 1 (ps.map Cz) none),(5, .bp 1 0),(6, .v (.int .i64 (AM s.files a p).2))],⟨[EB s fl ⟨p::ps,a,dr,nm,mi,lk⟩,AA (AM s.files a p).1],[]⟩⟩) ?_ ?_
 ·skip
  refine BH ([(0,EB s fl ⟨p::ps,a,dr,nm,mi,lk⟩)]) 17 (h:=AN 0 (h:=B7 1 (h:=AF 2 (h:=AF 3 (h:=AJ 4 (h:=AN 5 (h:=B7 6 (h:=AF 7 (h:=AJ 8 (h:=AN 9 (h:=?_)))))))))))
  refine Da 10 14 rfl rfl ?_ ?_
  ·refine AK (RG s.files a p hs.files) ?_
   rintro r rfl
   refine o_ (h:=?_)
   refine AN 11 (h:=B4 12 (h:=B4 13 (h:=?_)))
   refine c_ 14 rfl (Bx (by repeat constructor) ?_)
   refine o_ (h:=?_)
   refine B0 15 rfl (Aw rfl rfl rfl rfl rfl rfl (by repeat constructor) (by repeat constructor) ?_)
   refine o_ (h:=BC 16 (h:=z_ (h:=?_)))
   refine AD ?_
   first|(exfalso;first|contradiction|omega)|exact Az 2 0 rfl rfl rfl rfl (by repeat (first|exact Sub.nil|refine Sub.cons _ _ _ rfl rfl ?_|refine Sub.any _ _ ?_|refine Sub.sl _ _ _ _ _ rfl ?_|refine Sub.slnil _ _ _ rfl ?_|(apply Sub.of;(focus exact rfl);(focus exact LeA.of_eq (vb (by rfl)));(focus exact rfl))))
  refine Bx (by repeat constructor) ?_
  refine o_ (h:=?_)
  refine c_ 10 rfl (AK (RG s.files a p hs.files) ?_)
  rintro r rfl
  refine o_ (h:=AN 11 (h:=B4 12 (h:=B4 13 (h:=?_))))
  refine B0 15 rfl (Aw rfl rfl rfl rfl rfl rfl (by repeat constructor) (by repeat constructor) ?_)
  refine o_ (h:=BC 16 (h:=z_ (h:=?_)))
  refine AD ?_
  first|(exfalso;first|contradiction|omega)|exact Az 2 0 rfl rfl rfl rfl (by repeat (first|exact Sub.nil|refine Sub.cons _ _ _ rfl rfl ?_|refine Sub.any _ _ ?_|refine Sub.sl _ _ _ _ _ rfl ?_|refine Sub.slnil _ _ _ rfl ?_|(apply Sub.of;(focus exact rfl);(focus exact LeA.of_eq (vb (by rfl)));(focus exact rfl))))
 skip
 refine q_ (w_ (m_ (h:=BF (h:=e_ (?_)))))
 refine A8 rfl (fun hb6=>?_) (fun hb6=>?_)
 ·have hc6:=bp hb6
  refine q_ (w_ (m_ (h:=n_ (h:=CZ (h:=e_ (?_))))))
  refine A8 rfl (fun hb7=>?_) (fun hb7=>?_)
  ·have hc7:=bp hb7
   have hps:ps≠[]:=fun e=>by rw[e]at hml hc7;simp at hc7
   refine w_ (a_ (h:=e_ (A6 (A7 (A7 (?_))))))
   refine Aj none (h5:=(LeA.refl _)) (h6:=⟨_,rfl,rfl, .inl ⟨2,by unfold EA;rw[if_neg (by simp[hc1]),if_neg (by omega),if_neg hc3,if_neg hc4,if_neg (by simp[hc5]),if_pos hc6,if_pos hps],by decide,rfl,rfl⟩⟩)
  have hc7:=bp hb7
  have hps:¬ps≠[]:=fun e=>e (List.eq_nil_of_length_eq_zero (by omega))
  refine AG (w_ (m_ (h:=m_ (h:=m_ (h:=m_ (h:=m_ (h:=m_ (h:=k_ (h:=f_ (h:=l_ (h:=m_ (h:=k_ (h:=f_ (h:=s_ (h:=k_ (h:=f_ (h:=s_ (h:=k_ (h:=f_ (h:=s_ (h:=k_ (h:=f_ (h:=s_ (h:=?_))))))))))))))))))))))))
  refine e_ (w_ (a_ (h:=e_ (A6 (A7 (?_))))))
  refine Aj none (h5:=(LeA.refl _)) (h6:=⟨_,rfl,rfl, .inr ⟨⟨ps,a,a,p,true,lk⟩,by unfold EA;rw[if_neg (by simp[hc1]),if_neg (by omega),if_neg hc3,if_neg hc4,if_neg (by simp[hc5]),if_pos hc6,if_neg hps],rfl,rfl⟩⟩)
 have hc6:=bp hb6
 refine AG (?_)
 refine JX (⟨look [(0, .bp 0 0),(3, .v (.string p)),(4, .sl 1 (ps.map Cz) none),(5, .bp 1 0),(7, .bp 2 0)],⟨[EB s fl ⟨p::ps,a,dr,nm,mi,lk⟩,AA (AM s.files a p).1,Ah (Aa s.files (AM s.files a p).1)],[]⟩⟩) ?_ ?_
 ·skip
  refine BH ([(0,EB s fl ⟨p::ps,a,dr,nm,mi,lk⟩),(1,AA (AM s.files a p).1)]) 13 (h:=AN 0 (h:=B7 1 (h:=AF 2 (h:=AF 3 (h:=AJ 4 (h:=AJ 5 (h:=?_)))))))
  refine Da 6 10 rfl rfl ?_ ?_
  ·refine AK (Hb s.files (AM s.files a p).1 hs.files) ?_
   rintro r rfl
   refine o_ (h:=?_)
   refine AN 7 (h:=B4 8 (h:=B4 9 (h:=?_)))
   refine c_ 10 rfl (Bx (by repeat constructor) ?_)
   refine o_ (h:=?_)
   refine B0 11 rfl (Aw rfl rfl rfl rfl rfl rfl (by repeat constructor) (by repeat constructor) ?_)
   refine o_ (h:=BC 12 (h:=z_ (h:=?_)))
   refine AD ?_
   first|(exfalso;first|contradiction|omega)|exact Az 3 0 rfl rfl rfl rfl (by repeat (first|exact Sub.nil|refine Sub.cons _ _ _ rfl rfl ?_|refine Sub.any _ _ ?_|refine Sub.sl _ _ _ _ _ rfl ?_|refine Sub.slnil _ _ _ rfl ?_|(apply Sub.of;(focus exact rfl);(focus exact LeA.of_eq (vb (by rfl)));(focus exact rfl))))
  refine Bx (by repeat constructor) ?_
  refine o_ (h:=?_)
  refine c_ 6 rfl (AK (Hb s.files (AM s.files a p).1 hs.files) ?_)
  rintro r rfl
  refine o_ (h:=AN 7 (h:=B4 8 (h:=B4 9 (h:=?_))))
  refine B0 11 rfl (Aw rfl rfl rfl rfl rfl rfl (by repeat constructor) (by repeat constructor) ?_)
  refine o_ (h:=BC 12 (h:=z_ (h:=?_)))
  refine AD ?_
  first|(exfalso;first|contradiction|omega)|exact Az 3 0 rfl rfl rfl rfl (by repeat (first|exact Sub.nil|refine Sub.cons _ _ _ rfl rfl ?_|refine Sub.any _ _ ?_|refine Sub.sl _ _ _ _ _ rfl ?_|refine Sub.slnil _ _ _ rfl ?_|(apply Sub.of;(focus exact rfl);(focus exact LeA.of_eq (vb (by rfl)));(focus exact rfl))))
 skip
 refine q_ (?_)
 refine JX (⟨look [(0, .bp 0 0),(3, .v (.string p)),(4, .sl 1 (ps.map Cz) none),(5, .bp 1 0),(7, .bp 2 0),(122, .v (.bool (decide ((Aa s.files (AM s.files a p).1).kind=3)&&(decide (0<((ps.map Cz).length:Int))||fl))))],⟨[EB s fl ⟨p::ps,a,dr,nm,mi,lk⟩,AA (AM s.files a p).1,Ah (Aa s.files (AM s.files a p).1)],[]⟩⟩) ?_ ?_
 ·skip
  refine AP (f_ (h:=l_ (h:=AQ (h:=m_ (h:=?_)))))
  refine Ax true rfl rfl (fun hb8=>?_) (fun hb8=>?_)
  ·have hc8:=bp hb8
   refine m_ (h:=n_ (h:=CZ (h:=m_ (h:=?_))))
   refine Ax false rfl rfl (fun hb9=>?_) (fun hb9=>?_)
   ·have hc9:=bp hb9
    refine A3 (h:=A3 (h:=A3 (h:=A3 (h:=Af (h:=Af (h:=AO (?_)))))))
    refine AD ?_
    first|(exfalso;first|contradiction|omega)|exact Az 3 0 rfl rfl rfl rfl (by repeat (first|exact Sub.nil|refine Sub.cons _ _ _ rfl rfl ?_|refine Sub.any _ _ ?_|refine Sub.sl _ _ _ _ _ rfl ?_|refine Sub.slnil _ _ _ rfl ?_|(apply Sub.of;(focus exact rfl);(focus exact LeA.of_eq (vb (by first|(rw[hb8];rfl)|(rw[hb8,hb9];rfl))));(focus exact rfl))))
   have hc9:=bp hb9
   refine m_ (h:=k_ (h:=f_ (h:=l_ (h:=Am (h:=Af (h:=AO (?_)))))))
   refine AD ?_
   first|(exfalso;first|contradiction|omega)|exact Az 3 0 rfl rfl rfl rfl (by repeat (first|exact Sub.nil|refine Sub.cons _ _ _ rfl rfl ?_|refine Sub.any _ _ ?_|refine Sub.sl _ _ _ _ _ rfl ?_|refine Sub.slnil _ _ _ rfl ?_|(apply Sub.of;(focus exact rfl);(focus exact LeA.of_eq (vb (by first|(rw[hb8];rfl)|(rw[hb8,hb9];rfl))));(focus exact rfl))))
  have hc8:=bp hb8
  refine A3 (h:=A3 (h:=A3 (h:=A3 (h:=ED (h:=ED (h:=ED (h:=ED (h:=A3 (h:=Am (h:=AO (?_)))))))))))
  refine AD ?_
  first|(exfalso;first|contradiction|omega)|exact Az 3 0 rfl rfl rfl rfl (by repeat (first|exact Sub.nil|refine Sub.cons _ _ _ rfl rfl ?_|refine Sub.any _ _ ?_|refine Sub.sl _ _ _ _ _ rfl ?_|refine Sub.slnil _ _ _ rfl ?_|(apply Sub.of;(focus exact rfl);(focus exact LeA.of_eq (vb (by first|(rw[hb8];rfl)|(rw[hb8,hb9];rfl))));(focus exact rfl))))
 skip
 refine A8 rfl (fun hb10=>?_) (fun hb10=>?_)
 ·have hc10:=bp hb10
  have hlk:(Aa s.files (AM s.files a p).1).kind=3∧(ps≠[]∨fl=true):=by
   simp only[Bool.and_eq_true,Bool.or_eq_true,decide_eq_true_eq]at hc10
   exact⟨hc10.1,hc10.2.imp (fun h e=>by rw[e]at h;simp at h) id⟩
  refine w_ (m_ (h:=f_ (h:=l_ (h:=m_ (h:=?_)))))
  refine A4 rfl (PO 0 rfl (by repeat (first|exact ArgsB.nil|refine ArgsB.cons _ _ _ _ _ rfl rfl ?_)) rfl rfl (fK s fl ⟨p::ps,a,dr,nm,mi,lk⟩ (Aa s.files (AM s.files a p).1).target ps hs h8 (by omega) hrl) ?_)
  rintro r row2 (⟨h9,rfl,rfl⟩|⟨h9,rfl,rfl⟩)
  ·refine⟨OZ _ _ _,rfl,_,(by repeat constructor),?_⟩
   refine a_ (h:=e_ (A6 (A7 (?_))))
   refine Aj none (h5:=(LeA.refl _)) (h6:=⟨_,rfl,rfl, .inl ⟨40,by unfold EA;rw[if_neg (by simp[hc1]),if_neg (by omega),if_neg hc3,if_neg hc4,if_neg (by simp[hc5]),if_neg (by simp[hc6]),if_pos hlk,if_pos h9],by decide,rfl,rfl⟩⟩)
  refine⟨OZ _ _ _,rfl,_,(by repeat constructor),?_⟩
  refine a_ (h:=e_ (A6 (A7 (?_))))
  refine Aj none (h5:=(LeA.refl _)) (h6:=⟨_,rfl,rfl, .inr ⟨OY s (Aa s.files (AM s.files a p).1).target ps ⟨p::ps,a,dr,nm,mi,lk⟩,by unfold EA;rw[if_neg (by simp[hc1]),if_neg (by omega),if_neg hc3,if_neg hc4,if_neg (by simp[hc5]),if_neg (by simp[hc6]),if_pos hlk,if_neg h9];rfl,rfl,rfl⟩⟩)
 have hc10:=bp hb10
 have hlk:¬((Aa s.files (AM s.files a p).1).kind=3∧(ps≠[]∨fl=true)):=fun h=>by
  rw[decide_eq_true h.1,Bool.true_and,Bool.or_eq_false_iff]at hc10
  rcases h.2 with e|e
  ·exact e (List.eq_nil_of_length_eq_zero (by have:=of_decide_eq_false hc10.1;omega))
  rw[hc10.2]at e;cases e
 refine AG (w_ (m_ (h:=m_ (h:=m_ (h:=m_ (h:=m_ (h:=k_ (h:=f_ (h:=l_ (h:=m_ (h:=k_ (h:=f_ (h:=s_ (h:=k_ (h:=f_ (h:=s_ (h:=k_ (h:=f_ (h:=s_ (h:=e_ (q_ (?_))))))))))))))))))))))
 refine Kh (fun h=>∃x y r,h.bx=[[.sl 2 (s.files.map Bn) none, .sl 3 (s.mounts.map Co) none, .sl 1 (ps.map Cz) none,x,y, .v (.int .i64 a.1), .v (.int .i64 a.2), .v (.string p), .v (.bool mi), .v (.bool fl), .v (.int .i64 (lk:Int))],AA (AM s.files a p).1]++r) 10 (by kernel_rfl) ?_
 refine CD (i:=0) rfl rfl (by kernel_rfl) (by first|rfl|exact Al rfl rfl (Bv ‹_›)|exact Al rfl rfl (Bw ‹_›)|exact Al rfl rfl (by simp[*])) (fun h0 hS=>Ex rfl ⟨rfl,rfl⟩) ⟨_,_,_,rfl⟩ ?_
 refine CD (i:=1) rfl rfl (by kernel_rfl) (by first|rfl|exact Al rfl rfl (Bv ‹_›)|exact Al rfl rfl (Bw ‹_›)|exact Al rfl rfl (by simp[*])) (fun h0 hS=>Ex rfl ⟨rfl,rfl⟩) ⟨_,_,_,rfl⟩ ?_
 refine CD (i:=2) rfl rfl (by kernel_rfl) (by first|rfl|exact Al rfl rfl (Bv ‹_›)|exact Al rfl rfl (Bw ‹_›)|exact Al rfl rfl (by simp[*])) (fun h0 hS=>HG rfl ⟨rfl,rfl⟩) ⟨_,_,_,rfl⟩ ?_
 refine CD (i:=3) rfl rfl (by kernel_rfl) (by first|rfl|exact Al rfl rfl (Bv ‹_›)|exact Al rfl rfl (Bw ‹_›)|exact Al rfl rfl (by simp[*])) (fun h0 hS=>Ei rfl ⟨rfl,rfl⟩) ⟨_,_,_,rfl⟩ ?_
 refine CD (i:=4) rfl rfl (by kernel_rfl) (by first|rfl|exact Al rfl rfl (Bv ‹_›)|exact Al rfl rfl (Bw ‹_›)|exact Al rfl rfl (by simp[*])) (fun h0 hS=>by obtain⟨x,y,r,e⟩:=hS;exact FR (row:=[.sl 2 (s.files.map Bn) none, .sl 3 (s.mounts.map Co) none, .sl 1 (ps.map Cz) none,x,y, .v (.int .i64 a.1), .v (.int .i64 a.2), .v (.string p), .v (.bool mi), .v (.bool fl), .v (.int .i64 (lk:Int))]) rfl (by rw[e];rfl) rfl (show _=AV.agg (Ai s)∧_ from⟨rfl,rfl⟩)) ⟨_,_,_,rfl⟩ ?_
 first|refine CD (i:=5) rfl rfl (by kernel_rfl) (by first|rfl|exact Al rfl rfl (Bv ‹_›)|exact Al rfl rfl (Bw ‹_›)|exact Al rfl rfl (by simp[*])) (fun h0 hS=>by obtain⟨x,y,r,e⟩:=hS;exact FR (row:=[.sl 2 (s.files.map Bn) none, .sl 3 (s.mounts.map Co) none, .sl 1 (ps.map Cz) none,x,y, .v (.int .i64 a.1), .v (.int .i64 a.2), .v (.string p), .v (.bool mi), .v (.bool fl), .v (.int .i64 (lk:Int))]) rfl (by rw[e];rfl) rfl (show _=AV.agg (Ai s)∧_ from⟨rfl,rfl⟩)) ⟨_,_,_,rfl⟩ ?_|refine CD (i:=5) rfl rfl (by kernel_rfl) (by first|rfl|exact Al rfl rfl (Bv ‹_›)|exact Al rfl rfl (Bw ‹_›)|exact Al rfl rfl (by simp[*])) (fun h0 hS=>by obtain⟨x,y,r,e⟩:=hS;exact Ez (row:=AA (AM s.files a p).1) rfl (by rw[e];rfl) rfl ⟨rfl,rfl⟩) ⟨_,_,_,rfl⟩ ?_
 refine c_ 6 rfl (AK (Pl s (AM s.files a p).1 hs) ?_)
 rintro r rfl
 refine⟨.inr ⟨_,_,_,rfl⟩,?_⟩
 refine CD (i:=7) rfl rfl (by kernel_rfl) (by first|rfl|exact Al rfl rfl (Bv ‹_›)|exact Al rfl rfl (Bw ‹_›)|exact Al rfl rfl (by simp[*])) (fun h0 hS=>HG rfl ⟨rfl,rfl⟩) ⟨_,_,_,rfl⟩ ?_
 refine CD (i:=8) rfl rfl (by kernel_rfl) (by first|rfl|exact Al rfl rfl (Bv ‹_›)|exact Al rfl rfl (Bw ‹_›)|exact Al rfl rfl (by simp[*])) (fun h0 hS=>Ei rfl ⟨rfl,rfl⟩) ⟨_,_,_,rfl⟩ ?_
 refine B0 9 rfl (Aw rfl rfl rfl rfl rfl rfl (by repeat constructor) (by repeat constructor) ?_)
 refine⟨.inr ⟨_,_,_,rfl⟩,?_⟩
 refine z_ (h:=t_ (w_ (a_ (h:=e_ (A6 (?_))))))
 refine Aj none (h5:=(LeA.refl _)) (h6:=⟨_,rfl,rfl, .inr ⟨⟨ps,Cp s s.mounts.length (AM s.files a p).1,a,p,mi,lk⟩,by unfold EA;rw[if_neg (by simp[hc1]),if_neg (by omega),if_neg hc3,if_neg hc4,if_neg (by simp[hc5]),if_neg (by simp[hc6]),if_neg hlk],rfl,rfl⟩⟩)
end
theorem fM{s:Spc}(hv:SpcV s):AX s.files (Dq s)=true:=(Qx ((VM hv _).1 (dO hv (dJ hv (Uo hv (Int.le_refl 0) (by have:=hv.pos;omega))))).1.1).1
theorem fN{s:Spc}(fl:Bool){p:AE}{ps:List AE}{w w':Wk}(hn:w.name.size≤12)(h:EA s fl p ps w= .inr w'):w'.name.size≤12:=by
 unfold EA at h
 split at h
 ·cases h
 split at h
 ·cases h
 rename_i h2
 split at h
 ·injection h with h;subst h;exact Nat.zero_le _
 split at h
 ·injection h with h;subst h;exact Nat.zero_le _
 split at h
 ·cases h
 split at h
 ·split at h
  ·cases h
  injection h with h;subst h;exact Nat.le_of_not_lt h2
 split at h
 ·split at h
  ·cases h
  injection h with h;subst h
  show ByteArray.size (if _ then _ else _)≤12
  split
  ·exact Nat.zero_le _
  exact hn
 injection h with h;subst h;exact Nat.le_of_not_lt h2
theorem RJ{s:Spc}(hv:FlsV s.files)(fl:Bool){p:AE}{ps:List AE}{w w':Wk}(hl:w.links≤8)(h:EA s fl p ps w= .inr w'):w'.links≤8∧(8 - w'.links) * 200+w'.ps.length<(8 - w.links) * 200+(ps.length+1):=by
 unfold EA at h
 split at h
 ·cases h
 split at h
 ·cases h
 split at h
 ·injection h with h;subst h;exact⟨hl,by simp only;omega⟩
 split at h
 ·injection h with h;subst h;exact⟨hl,by simp only;omega⟩
 split at h
 ·cases h
 split at h
 ·split at h
  ·cases h
  injection h with h;subst h;exact⟨hl,by simp only;omega⟩
 split at h
 ·split at h
  ·cases h
  rename_i h9
  injection h with h;subst h
  have ht:=Mj hv (AM s.files w.at_ p).1
  have hs:=LG (Aa s.files (AM s.files w.at_ p).1).target
  refine⟨by simp only;omega,?_⟩
  simp only[List.length_append]
  have:(8 - w.links) * 200=(8 - (w.links+1)) * 200+200:=by
   rw[show 8 - w.links=(8 - (w.links+1))+1 by omega,Nat.add_mul]
  omega
 injection h with h;subst h;exact⟨hl,by simp only;omega⟩
theorem VW{s:Spc}{start:A9}{p:AE}{fl:Bool}(h1:¬p=⟨#[]⟩)(h2:128<p.size):Bh s start p fl=(DO,36):=by unfold Bh;rw[if_neg h1,if_pos h2]
section
variable {s:Spc}{start a:A9}{p:AE}{fl:Bool}(h1:¬p=⟨#[]⟩)(h2:¬128<p.size)(ha:(if D8 p=true then Dq s else start)=a)
include h1 h2 ha
theorem VX(hd:AX s.files a=false):Bh s start p fl=(DO,2):=by
 unfold Bh
 rw[if_neg h1,if_neg h2,ha,if_pos hd]
variable (hd:AX s.files a=true)
include hd
theorem LR{e:Int}{τ:Lk}(h:Dr s (fl||BG p) (G6 (Cm p) a)=(e,τ))(he:e≠0):Bh s start p fl=(DO,e):=by
 unfold Bh
 rw[if_neg h1,if_neg h2,ha,if_neg (by simp[hd]),h,if_pos he]
theorem VY{τ:Lk}(h:Dr s (fl||BG p) (G6 (Cm p) a)=(0,τ))(hs:BG p=true∧τ.ex=true∧AX s.files τ.file=false):Bh s start p fl=(DO,20):=by
 unfold Bh
 rw[if_neg h1,if_neg h2,ha,if_neg (by simp[hd]),h,if_neg (by simp),if_pos hs]
theorem Oa{τ:Lk}(h:Dr s (fl||BG p) (G6 (Cm p) a)=(0,τ))(hs:¬(BG p=true∧τ.ex=true∧AX s.files τ.file=false)):Bh s start p fl=(Gx s (BG p) τ,0):=by
 unfold Bh
 rw[if_neg h1,if_neg h2,ha,if_neg (by simp[hd]),h,if_neg (by simp),if_neg hs]
end
theorem fO(ps:List AE)(a d:A9)(hd:ps=[]→True):Sim ⟨ps,a,d,⟨#[]⟩,false,0⟩ (G6 ps a):=by
 have _:=hd
 exact⟨rfl,rfl,rfl,fun _=>rfl,fun h=>(by cases h),fun _ _=>⟨fun _=>⟨rfl,rfl⟩,fun h=>absurd rfl h⟩⟩
def Ob(s:Spc)(F:Bool)(σ0:Lk)(w:Wk):Prop:=w.links≤8∧w.name.size≤12∧∃σ,Sim w σ∧Dr s F σ=Dr s F σ0
theorem VZ{s:Spc}(hv:SpcV s){F:Bool}{σ0:Lk}{w:Wk}{p:AE}{ps:List AE}(hps:w.ps=p::ps)(h:Ob s F σ0 w):(∀e,EA s F p ps w= .inl e→Dr s F σ0=(e,OS))∧∀w',EA s F p ps w= .inr w'→Ob s F σ0 w':=by
 obtain⟨h8,hn,σ,hS,hT⟩:=h
 have hm:w.missing=false:=by
  cases hm:w.missing with
  |false=>rfl
  |true=>have:=(hS.gone hm).2.1;rw[hps]at this;cases this
 have h8σ:σ.links≤8:=by rw[←hS.links];exact h8
 have hc:=Ur hv.files (fl:=F) h8σ (hS.ps.symm.trans hps)
 rcases dZ hv F (p:=p) (ps:=ps) hS hm with⟨e,q1,q2⟩|⟨w1,τ,q1,q2,q3⟩
 ·refine⟨fun e' he=>?_,fun w' hw=>by rw[q1]at hw;cases hw⟩
  rw[q1]at he
  injection he with he
  subst he
  rw[←hT,hc,q2]
 refine⟨fun e' he=>by(rw[q1]at he;cases he),fun w' hw=>?_⟩
 have k1:=RJ hv.files F h8 hw
 have k2:=fN F hn hw
 rw[q1]at hw
 injection hw with hw
 subst hw
 refine⟨k1.1,k2,τ,q3,?_⟩
 rw[←hT,hc,q2]
theorem fP{s:Spc}(hv:SpcV s){F:Bool}{σ0:Lk}{w:Wk}(hps:w.ps=[])(h:Ob s F σ0 w):∃σ,Dr s F σ0=(0,σ)∧σ.ex= !w.missing∧(w.missing=false→σ.file=w.at_)∧∀sl,G9 s sl w=Gx s sl σ:=by
 obtain⟨h8,hn,σ,hS,hT⟩:=h
 exact⟨σ,by rw[←hT];exact R4 (hS.ps.symm.trans hps),hS.ex,fun hm=>(hS.here hm).symm,fun sl=>eB hv hS hps⟩
section
theorem fQ(s:Spc)(start:A9)(p:AE)(fl:Bool)(hs:SpcN s)(hv:SpcV s)(hp:p.size≤1000000):AFn Tryz.prog 52 [.agg (Ai s), .agg (AA start), .v (.string p), .v (.bool fl)] (fun r=>r= .tup [.agg (Ak (Bh s start p fl).1), .v (.int .i64 (Bh s start p fl).2)]):=by
 have hw:=Qr hv
 have hri:=fM hv
 refine enter Tryz.func52 rfl rfl rfl rfl rfl 0 rfl ?_
 refine w_ (b_ (h:=b_ (h:=AW (h:=a_ (h:=e_ (q_ (Ao (w_ (m_ (h:=AQ (h:=a_ (h:=e_ (?_)))))))))))))
 refine A8 rfl (fun hb1=>?_) (fun hb1=>?_)
 ·have hc1:=bp hb1
  refine w_ (AT (h:=s_ (h:=a_ (h:=e_ (A6 (AR (A7 (?_))))))))
  refine AB ?_
  rw[show Bh s start p fl=(DO,2) from if_pos hc1]
  rfl
 have hc1:=bp hb1
 refine w_ (m_ (h:=n_ (h:=CZ (h:=a_ (h:=e_ (?_))))))
 refine A8 rfl (fun hb2=>?_) (fun hb2=>?_)
 ·have hc2:=bp hb2
  refine w_ (AT (h:=s_ (h:=a_ (h:=e_ (A6 (AR (A7 (?_))))))))
  refine AB ?_
  rw[VW hc1 (by omega)]
  rfl
 have hc2:=bp hb2
 refine BB (Ay (t_ (w_ (m_ (h:=?_)))))
 refine A4 rfl (AK (VT p (by omega)) ?_)
 rintro r rfl
 refine m_ (h:=x_ (h:=x_ (h:=x_ (h:=a_ (h:=a_ (h:=a_ (h:=e_ (?_))))))))
 refine B5 (fun t=>t=⟨look [(2, .v (.string p)),(4, .bp 0 0),(5, .bp 1 0),(8, .bp 2 0),(11, .v (.bool (D8 p))),(12, .v (.bool (BG p))),(13, .bp 3 0)],⟨[Ai s,AA start,Ak DO,EB s (fl||BG p) ⟨Cm p,start,(0,0),⟨#[]⟩,false,0⟩],[]⟩⟩) ?_ ?_
 ·skip
  refine AP (l_ (h:=m_ (h:=l_ (h:=m_ (h:=m_ (h:=?_))))))
  refine Ax false rfl rfl (fun hb3=>?_) (fun hb3=>?_)
  ·have hc3:=bp hb3
   refine A3 (h:=Af (h:=AT (h:=AW (h:=s_ (h:=AO (?_))))))
   refine AD ?_
   (rw[hb3];exact⟨_,rfl,(wk 4 0)⟩)
  have hc3:=bp hb3
  refine m_ (h:=Am (h:=AT (h:=AW (h:=s_ (h:=AO (?_))))))
  refine AD ?_
  (rw[hb3];exact⟨_,rfl,(wk 4 0)⟩)
 rintro t rfl
 refine B5 (fun t=>∃a,(if D8 p=true then Dq s else start)=a∧AX s.files a=true∧t=⟨look [(4, .bp 0 0),(8, .bp 2 0),(12, .v (.bool (BG p))),(13, .bp 3 0)],⟨[Ai s,AA start,Ak DO,EB s (fl||BG p) ⟨Cm p,a,(0,0),⟨#[]⟩,false,0⟩],[]⟩⟩) ?_ ?_
 ·skip
  refine w_ (m_ (h:=e_ (?_)))
  refine A8 rfl (fun hb4=>?_) (fun hb4=>?_)
  ·have hc4:=bp hb4
   refine AP (l_ (h:=?_))
   refine A4 rfl (AK (VV s hs.b) ?_)
   rintro r rfl
   refine f_ (h:=s_ (h:=AO (?_)))
   refine AD ?_
   exact⟨_,⟨Dq s,if_pos hc4,hri,rfl⟩,(wk 4 0)⟩
  have hc4:=bp hb4
  refine w_ (?_)
  refine A4 rfl (Cf 1 rfl (.cons _ _ _ _ _ rfl (LeA.refl _) .nil) (RH s (fl||BG p) ⟨Cm p,start,(0,0),⟨#[]⟩,false,0⟩ hs.b) ?_)
  rintro r rfl
  refine⟨rfl,?_⟩
  refine BA (h:=e_ (?_))
  refine A8 rfl (fun hb5=>?_) (fun hb5=>?_)
  ·have hc5:=bp hb5
   refine w_ (AT (h:=s_ (h:=a_ (h:=e_ (A6 (A7 (?_)))))))
   refine AB ?_
   rw[VX hc1 (by omega) (if_neg (by simp[hc4])) (by simpa using hc5)]
   rfl
  have hc5:=bp hb5
  refine BB (?_)
  refine AD ?_
  first|exact⟨_,⟨Dq s,if_pos hc4,hri,rfl⟩,(wk 4 0)⟩|exact⟨_,⟨start,if_neg (by simp[hc4]),by simpa using hc5,rfl⟩,(wk 4 0)⟩
 rintro t ⟨a,ha,had,rfl⟩
 refine q_ (Ao (?_))
 refine Ba (fun m t=>∃w,Ob s (fl||BG p) (G6 (Cm p) a) w∧m=(8 - w.links) * 200+w.ps.length∧m≤1600+(p.size+1)∧t=⟨look [(4, .bp 0 0),(8, .bp 2 0),(12, .v (.bool (BG p))),(13, .bp 3 0)],⟨[Ai s,AA start,Ak DO,EB s (fl||BG p) w],[]⟩⟩) ((8 - 0) * 200+(Cm p).length) ((wk 4 0)) (⟨_,⟨Nat.zero_le _,Nat.zero_le _,_,fO (Cm p) a (0,0) (fun _=>trivial),rfl⟩,rfl,by have:=LG p;omega,rfl⟩) ?_
 rintro m t ⟨w,hR,rfl,hm,rfl⟩
 have hml:(w.ps.map Cz).length=w.ps.length:=by simp
 refine q_ (w_ (f_ (h:=l_ (h:=n_ (h:=CZ (h:=e_ (?_)))))))
 refine A8 rfl (fun hb6=>?_) (fun hb6=>?_)
 ·have hc6:=bp hb6
  obtain⟨q,qs,hqs⟩:∃q qs,w.ps=q::qs:=by
   cases hq:w.ps with
   |nil=>rw[hq]at hml hc6;simp at hc6
   |cons q qs=>exact⟨q,qs,rfl⟩
  have hql:w.ps.length=qs.length+1:=by rw[hqs];rfl
  refine AG (Ao (w_ (?_)))
  refine A4 rfl (PO 3 rfl (by repeat (first|exact ArgsB.nil|refine ArgsB.cons _ _ _ _ _ rfl rfl ?_)) rfl rfl (fL s (fl||BG p) w q qs hqs hs.b hv hR.1 (by omega)) ?_)
  rintro r row2 (⟨e,he,he0,rfl,rfl⟩|⟨w2,hw2,rfl,rfl⟩)
  ·refine⟨OZ _ _ _,rfl,_,(by repeat constructor),?_⟩
   refine a_ (h:=e_ (w_ (m_ (h:=BF (h:=e_ (?_))))))
   refine A8 rfl (fun hb7=>?_) (fun hb7=>?_)
   ·have hc7:=bp hb7
    refine w_ (AT (h:=m_ (h:=s_ (h:=a_ (h:=e_ (A6 (AR (A7 (AR (A7 (?_)))))))))))
    refine AB ?_
    rw[LR hc1 (by omega) ha had ((VZ hv hqs hR).1 e he) he0]
    rfl
   have hc7:=bp hb7
   exact absurd hc7 he0
  refine⟨OZ _ _ _,rfl,_,(by repeat constructor),?_⟩
  refine a_ (h:=e_ (w_ (m_ (h:=BF (h:=e_ (?_))))))
  refine A8 rfl (fun hb8=>?_) (fun hb8=>?_)
  ·have hc8:=bp hb8
   exact absurd rfl hc8
  have hc8:=bp hb8
  refine BB (Ay (?_))
  refine AD ?_
  exact⟨(8 - w2.links) * 200+w2.ps.length,_,(by have:=(RJ hv.files _ hR.1 hw2).2;omega),⟨w2,(VZ hv hqs hR).2 w2 hw2,rfl,by have:=(RJ hv.files _ hR.1 hw2).2;omega,rfl⟩,(wk 4 0)⟩
 have hc6:=bp hb6
 have hps:w.ps=[]:=List.eq_nil_of_length_eq_zero (by omega)
 obtain⟨σ,hT,hσx,hσf,hσe⟩:=fP hv hps hR
 refine BO (Aq (Aq (BQ (t_ (q_ (?_))))))
 refine JX (⟨look [(8, .bp 2 0),(12, .v (.bool (BG p))),(13, .bp 3 0),(63, .v (.bool (BG p&&(!w.missing&& !AX s.files w.at_))))],⟨[Ai s,AA start,Ak DO,EB s (fl||BG p) w],[]⟩⟩) ?_ ?_
 ·skip
  refine AP (m_ (h:=m_ (h:=?_)))
  refine Ax true rfl rfl (fun hb9=>?_) (fun hb9=>?_)
  ·have hc9:=bp hb9
   refine f_ (h:=l_ (h:=BA (h:=Af (h:=m_ (h:=?_)))))
   refine Ax true rfl rfl (fun hb10=>?_) (fun hb10=>?_)
   ·have hc10:=bp hb10
    refine B6 (Cf 1 rfl (.cons _ _ _ _ _ rfl (LeA.refl _) .nil) (RH s (fl||BG p) w hs.b) ?_)
    rintro r rfl
    refine⟨rfl,?_⟩
    refine BA (h:=Af (h:=AO (?_)))
    refine AD ?_
    first|(exfalso;first|contradiction|omega)|exact Az 4 0 rfl rfl rfl rfl (by repeat (first|exact Sub.nil|refine Sub.cons _ _ _ rfl rfl ?_|refine Sub.any _ _ ?_|refine Sub.sl _ _ _ _ _ rfl ?_|refine Sub.slnil _ _ _ rfl ?_|(apply Sub.of;(focus exact rfl);(focus exact LeA.of_eq (vb (by first|(rw[hb9];rfl)|(rw[hb9,hb10];rfl))));(focus exact rfl))))
   have hc10:=bp hb10
   refine A3 (h:=A3 (h:=Am (h:=AO (?_))))
   refine AD ?_
   first|(exfalso;first|contradiction|omega)|exact Az 4 0 rfl rfl rfl rfl (by repeat (first|exact Sub.nil|refine Sub.cons _ _ _ rfl rfl ?_|refine Sub.any _ _ ?_|refine Sub.sl _ _ _ _ _ rfl ?_|refine Sub.slnil _ _ _ rfl ?_|(apply Sub.of;(focus exact rfl);(focus exact LeA.of_eq (vb (by first|(rw[hb9];rfl)|(rw[hb9,hb10];rfl))));(focus exact rfl))))
  have hc9:=bp hb9
  refine A3 (h:=A3 (h:=A3 (h:=Am (h:=m_ (h:=A3 (h:=A3 (h:=Am (h:=AO (?_)))))))))
  refine AD ?_
  first|(exfalso;first|contradiction|omega)|exact Az 4 0 rfl rfl rfl rfl (by repeat (first|exact Sub.nil|refine Sub.cons _ _ _ rfl rfl ?_|refine Sub.any _ _ ?_|refine Sub.sl _ _ _ _ _ rfl ?_|refine Sub.slnil _ _ _ rfl ?_|(apply Sub.of;(focus exact rfl);(focus exact LeA.of_eq (vb (by first|(rw[hb9];rfl)|(rw[hb9,hb10];rfl))));(focus exact rfl))))
 skip
 refine A8 rfl (fun hb11=>?_) (fun hb11=>?_)
 ·have hc11:=bp hb11
  refine w_ (AT (h:=s_ (h:=a_ (h:=e_ (A6 (A7 (?_)))))))
  refine AB ?_
  rw[VY hc1 (by omega) ha had hT (by simp only[Bool.and_eq_true,Bool.not_eq_true']at hc11;exact⟨hc11.1,by rw[hσx,hc11.2.1];rfl,by rw[hσf hc11.2.1];exact hc11.2.2⟩)]
  rfl
 have hc11:=bp hb11
 refine AG (w_ (m_ (h:=?_)))
 refine A4 rfl (Cf 1 rfl (.cons _ _ _ _ _ rfl (LeA.refl _) (.cons _ _ _ _ _ rfl (LeA.refl _) .nil)) (fJ s (fl||BG p) (BG p) w hs hw (by have:=hR.2.1;omega)) ?_)
 rintro r rfl
 refine⟨rfl,?_⟩
 refine s_ (h:=a_ (h:=e_ (A6 (?_))))
 refine AB ?_
 rw[Oa hc1 (by omega) ha had hT (fun h=>by
  obtain⟨h1,h2,h3⟩:=h
  rw[hσx]at h2
  have hm2:w.missing=false:=by simpa using h2
  rw[hσf hm2]at h3
  rw[h1,h2,h3]at hc11
  cases hc11),←hσe]
 rfl
end
section
theorem RK{s:Spc}(hs:SpcB s)(hv:SpcV s)(a:A9):AFn Tryz.prog 100 [.agg (Ai s), .agg (AA a)] (fun r=>r= .agg (AA (Cp s s.mounts.length a))):=
 (Xq s a hs).mono fun r hr=>by rw[hr,b6 hv]
end
def N1(σ:Lk):List AV:=Ak ⟨σ.dir,σ.name,σ.file,σ.ex,false,⟨#[]⟩⟩
theorem H0{s:Spc}(hv:FlsV s.files){F:Bool}{q:AE}{qs:List AE}{da:A9}{na:AE}{a:A9}{ea:Bool}{lk:Nat}(h8:lk≤8):(∀e,Cd s F q qs a lk= .inl e→Dr s F ⟨q::qs,da,na,a,ea,lk⟩=(e,OS))∧∀τ,Cd s F q qs a lk= .inr τ→τ.links≤8∧Dr s F ⟨q::qs,da,na,a,ea,lk⟩=Dr s F τ∧Ec τ<(8 - lk) * 200+(qs.length+1):=by
 have hc:=Ur hv (fl:=F) (σ:=⟨q::qs,da,na,a,ea,lk⟩) (p:=q) (ps:=qs) h8 rfl
 refine⟨fun e he=>?_,fun τ hτ=>?_⟩
 ·rw[hc];simp only[he]
 obtain⟨h1,h2⟩:=Qz hv h8 hτ
 refine⟨h1,?_,h2⟩
 rw[hc];simp only[hτ]
section
theorem Va(s:Spc)(hs:SpcB s)(hv:SpcV s):AFn Tryz.prog 99 [.agg (Ai s)] (fun r=>r= .agg (AA (Dq s))):=by
 refine enter Tryz.func99 rfl rfl rfl rfl rfl 0 rfl ?_
 refine w_ (b_ (h:=AW (h:=e_ (w_ (l_ (h:=AT (h:=?_)))))))
 refine A4 rfl (AK (RK hs hv (0,1)) ?_)
 rintro r rfl
 refine s_ (h:=e_ (A6 (?_)))
 refine AB ?_
 rfl
theorem Vb(s:Spc)(start:A9)(p:AE)(fl:Bool)(hs:SpcN s)(hv:SpcV s)(hp:p.size≤100000):AFn Tryz.prog 56 [.agg (Ai s), .agg (AA start), .v (.string p), .v (.bool fl)] (fun r=>r= .tup [.agg (Ak (Bh s start p fl).1), .v (.int .i64 (Bh s start p fl).2)]):=by
 have hw:=Qr hv
 have hsp:=LG p
 refine enter Tryz.func56 rfl rfl rfl rfl rfl 0 rfl ?_
 refine w_ (b_ (h:=b_ (h:=AW (h:=a_ (h:=e_ (w_ (m_ (h:=?_))))))))
 refine A4 rfl (AK (Qv p hp) ?_)
 rintro r ⟨ps,hps,rfl⟩
 obtain rfl:=Qy hps
 clear hps
 refine m_ (h:=x_ (h:=x_ (h:=x_ (h:=a_ (h:=a_ (h:=a_ (h:=e_ (q_ (w_ (m_ (h:=AQ (h:=e_ (?_)))))))))))))
 refine A8 rfl (fun hb1=>?_) (fun hb1=>?_)
 ·have hc1:=bp hb1
  refine w_ (AT (h:=s_ (h:=a_ (h:=e_ (A6 (A7 (?_)))))))
  refine AB ?_
  rw[show Bh s start p fl=(DO,2) from if_pos hc1]
  rfl
 have hc1:=bp hb1
 refine AG (q_ (w_ (m_ (h:=n_ (h:=CZ (h:=e_ (?_)))))))
 refine A8 rfl (fun hb2=>?_) (fun hb2=>?_)
 ·have hc2:=bp hb2
  refine w_ (AT (h:=s_ (h:=a_ (h:=e_ (A6 (A7 (?_)))))))
  refine AB ?_
  rw[VW hc1 (by omega)]
  rfl
 have hc2:=bp hb2
 refine AG (w_ (l_ (h:=AW (h:=s_ (h:=e_ (?_))))))
 refine B5 (fun t=>∃a,(if D8 p=true then Dq s else start)=a∧t=⟨look [(3, .v (.bool fl)),(4, .bp 0 0),(8, .bp 2 0),(10, .sl 1 ((Cm p).map Cz) none),(12, .v (.bool (BG p))),(13, .bp 3 0)],⟨[Ai s,AA start,Ak DO,AA a],[]⟩⟩) ?_ ?_
 ·skip
  refine w_ (m_ (h:=e_ (?_)))
  refine A8 rfl (fun hb3=>?_) (fun hb3=>?_)
  ·have hc3:=bp hb3
   refine AP (l_ (h:=?_))
   refine A4 rfl (AK (Va s hs.b hv) ?_)
   rintro r rfl
   refine s_ (h:=AO (?_))
   refine AD ?_
   exact⟨_,⟨Dq s,if_pos hc3,rfl⟩,(wk 4 0)⟩
  have hc3:=bp hb3
  refine BB (?_)
  refine AD ?_
  first|exact⟨_,⟨Dq s,if_pos hc3,rfl⟩,(wk 4 0)⟩|exact⟨_,⟨start,if_neg (by simp[hc3]),rfl⟩,(wk 4 0)⟩
 rintro t ⟨a0,ha,rfl⟩
 refine q_ (w_ (f_ (h:=l_ (h:=l_ (h:=?_)))))
 refine A4 rfl (AK (GO s.files a0 hs.b.files) ?_)
 rintro r rfl
 refine BA (h:=e_ (?_))
 refine A8 rfl (fun hb4=>?_) (fun hb4=>?_)
 ·have hc4:=bp hb4
  refine w_ (AT (h:=s_ (h:=a_ (h:=e_ (A6 (A7 (?_)))))))
  refine AB ?_
  rw[VX hc1 (by omega) ha (by simpa using hc4)]
  rfl
 have hc4:=bp hb4
 have had:AX s.files a0=true:=by simpa using hc4
 refine AG (w_ (l_ (h:=l_ (h:=AT (h:=AW (h:=s_ (h:=e_ (w_ (a_ (h:=e_ (?_)))))))))))
 refine B5 (fun t=>∃(τ:Lk) (d:A9),Dr s (fl||BG p) (G6 (Cm p) a0)=(0,τ)∧τ.name.size≤1000∧t=⟨look [(4, .bp 0 0),(8, .bp 2 0),(12, .v (.bool (BG p))),(14, .bp 4 0)],⟨[Ai s,AA start,Ak DO,AA d,N1 τ],[]⟩⟩) ?_ ?_
 ·skip
  refine Ao (?_)
  refine Ba (fun m t=>∃(σ:Lk) (d:A9),σ.links≤8∧σ.name.size≤12∧Dr s (fl||BG p) σ=Dr s (fl||BG p) (G6 (Cm p) a0)∧m=Ec σ∧m≤1729∧t=⟨look [(3, .v (.bool fl)),(4, .bp 0 0),(8, .bp 2 0),(10, .sl 1 (σ.ps.map Cz) none),(12, .v (.bool (BG p))),(13, .bp 3 0),(14, .bp 4 0),(15, .v (.int .i64 (σ.links:Int)))],⟨[Ai s,AA start,Ak DO,AA d,N1 σ],[]⟩⟩) (Ec (G6 (Cm p) a0)) ((wk 5 0)) (⟨_,a0,Nat.zero_le _,Nat.zero_le _,rfl,rfl,by show(8 - 0) * 200+(Cm p).length≤1729;omega,rfl⟩) ?_
  rintro m t ⟨⟨ps0,da,na,a,ea,lk⟩,d,h8,hna,hT,rfl,hm,rfl⟩
  have hm:(8 - lk) * 200+ps0.length≤1729:=hm
  have h8:lk≤8:=h8
  have hml:(ps0.map Cz).length=ps0.length:=by simp
  refine q_ (w_ (m_ (h:=n_ (h:=CZ (h:=e_ (?_))))))
  refine A8 rfl (fun hb5=>?_) (fun hb5=>?_)
  ·have hc5:=bp hb5
   obtain⟨q,qs,hps⟩:∃q qs,ps0=q::qs:=by
    cases ps0 with
    |nil=>simp at hc5
    |cons q qs=>exact⟨q,qs,rfl⟩
   subst hps
   have hml:(qs.map Cz).length=qs.length:=by simp
   have hmq:(8 - lk) * 200+(qs.length+1)≤1729:=hm
   have htg:=Mj hv.files (AM s.files a q).1
   have htp:=LG (Aa s.files (AM s.files a q).1).target
   refine AG (Ao (w_ (m_ (h:=?_))))
   refine A4 rfl (CS (n:=0) rfl rfl rfl rfl ?_)
   refine l_ (h:=a_ (h:=e_ (?_)))
   refine JX (⟨look [(3, .v (.bool fl)),(4, .bp 0 0),(8, .bp 2 0),(10, .sl 1 (qs.map Cz) none),(12, .v (.bool (BG p))),(13, .bp 3 0),(14, .bp 4 0),(15, .v (.int .i64 (lk:Int))),(16, .v (.string q))],⟨[Ai s,AA start,Ak DO,AA d,N1 ⟨q::qs,da,na,a,ea,lk⟩],[]⟩⟩) ?_ ?_
   ·skip
    refine AP (m_ (h:=?_))
    refine A4 rfl (PG (l:=1) rfl rfl rfl (by simp) ?_)
    refine a_ (h:=AO (?_))
    refine AD ?_
    first|(exfalso;first|contradiction|omega)|exact Az 5 0 rfl rfl rfl rfl (by repeat (first|exact Sub.nil|refine Sub.cons _ _ _ rfl rfl ?_|refine Sub.any _ _ ?_|refine Sub.sl _ _ _ _ _ rfl ?_|refine Sub.slnil _ _ _ rfl ?_|(apply Sub.of;(focus exact rfl);(focus exact LeA.of_eq (vb (by rfl)));(focus exact rfl))))
   skip
   refine w_ (f_ (h:=l_ (h:=s_ (h:=e_ (q_ (w_ (f_ (h:=l_ (h:=l_ (h:=?_))))))))))
   refine A4 rfl (AK (GO s.files a hs.b.files) ?_)
   rintro r rfl
   refine BA (h:=e_ (?_))
   refine A8 rfl (fun hb6=>?_) (fun hb6=>?_)
   ·have hc6:=bp hb6
    have hst:Cd s (fl||BG p) q qs a lk= .inl 20:=by unfold Cd;rw[if_pos hc6]
    refine w_ (AT (h:=s_ (h:=a_ (h:=e_ (A6 (A7 (AR (A7 (AR (A7 (?_)))))))))))
    refine AB ?_
    rw[LR hc1 (by omega) ha had (hT.symm.trans ((H0 (F:=fl||BG p) (da:=da) (na:=na) (ea:=ea) hv.files h8).1 _ hst)) (by decide)]
    rfl
   have hc6:=bp hb6
   refine AG (q_ (w_ (m_ (h:=n_ (h:=CZ (h:=e_ (?_)))))))
   refine A8 rfl (fun hb7=>?_) (fun hb7=>?_)
   ·have hc7:=bp hb7
    have hst:Cd s (fl||BG p) q qs a lk= .inl 36:=by unfold Cd;rw[if_neg (by simp[hc6]),if_pos (by omega)]
    refine w_ (AT (h:=s_ (h:=a_ (h:=e_ (A6 (A7 (AR (A7 (AR (A7 (?_)))))))))))
    refine AB ?_
    rw[LR hc1 (by omega) ha had (hT.symm.trans ((H0 (F:=fl||BG p) (da:=da) (na:=na) (ea:=ea) hv.files h8).1 _ hst)) (by decide)]
    rfl
   have hc7:=bp hb7
   have hq12:q.size≤12:=by omega
   refine AG (q_ (w_ (m_ (h:=AQ (h:=m_ (h:=?_))))))
   refine Ax false rfl rfl (fun hb8=>?_) (fun hb8=>?_)
   ·have hc8:=bp hb8
    refine A3 (h:=A3 (h:=Af (h:=e_ (Bf (h:=q_ (w_ (m_ (h:=AQ (h:=e_ (?_))))))))))
    refine A8 rfl (fun hb9=>?_) (fun hb9=>?_)
    ·have hc9:=bp hb9
     rw[hc8]at hc9
     exact absurd hc9 (by decide)
    have hc9:=bp hb9
    have hst:Cd s (fl||BG p) q qs a lk= .inr ⟨qs,a,⟨#[]⟩,a,true,lk⟩:=by unfold Cd;rw[if_neg (by simp[hc6]),if_neg (by omega),if_pos hc8]
    refine AG (w_ (l_ (h:=l_ (h:=AT (h:=s_ (h:=e_ (BO (Aq (BQ (?_))))))))))
    refine AD ?_
    obtain⟨g1,g2,g3⟩:=(H0 (F:=fl||BG p) (da:=da) (na:=na) (ea:=ea) hv.files h8).2 _ hst
    exact⟨_,_,g3,⟨_,_,g1,(by first|exact Nat.zero_le _|exact hq12),g2.symm.trans hT,rfl,Nat.le_trans (Nat.le_of_lt g3) hmq,rfl⟩,(by(try simp only[List.map_append]);exact Az 5 0 rfl rfl rfl rfl ((by repeat (first|exact Sub.nil|refine Sub.cons _ _ _ rfl rfl ?_|refine Sub.any _ _ ?_|refine Sub.sl _ _ _ _ _ rfl ?_|refine Sub.slnil _ _ _ rfl ?_))))⟩
   have hc8:=bp hb8
   refine m_ (h:=AQ (h:=Am (h:=e_ (?_))))
   refine A8 rfl (fun hb10=>?_) (fun hb10=>?_)
   ·have hc10:=bp hb10
    refine q_ (w_ (m_ (h:=AQ (h:=e_ (?_)))))
    refine A8 rfl (fun hb11=>?_) (fun hb11=>?_)
    ·have hc11:=bp hb11
     have hst:Cd s (fl||BG p) q qs a lk= .inr ⟨qs,Cp s s.mounts.length (Dd s (s.mounts.length+1) a),⟨#[]⟩,Cp s s.mounts.length (Dd s (s.mounts.length+1) a),true,lk⟩:=by unfold Cd;rw[if_neg (by simp[hc6]),if_neg (by omega),if_neg hc8,if_pos hc11]
     refine BH ([(0,Ai s),(3,AA a)]) 5 (h:=AJ 0 (h:=AJ 1 (h:=AJ 2 (h:=?_))))
     refine c_ 3 rfl (AK (bQ hs.b hv (s.mounts.length+1) a (by have:=aZ (s:=s) a.1;omega)) ?_)
     rintro r rfl
     refine o_ (h:=?_)
     refine c_ 4 rfl (AK (RK hs.b hv (Dd s (s.mounts.length+1) a)) ?_)
     rintro r rfl
     refine o_ (h:=?_)
     refine B0 5 rfl (Aw rfl rfl rfl rfl rfl rfl (by repeat constructor) (by repeat constructor) ?_)
     refine o_ (h:=z_ (h:=t_ (w_ (l_ (h:=l_ (h:=AT (h:=s_ (h:=e_ (BO (Aq (BQ (?_))))))))))))
     refine AD ?_
     obtain⟨g1,g2,g3⟩:=(H0 (F:=fl||BG p) (da:=da) (na:=na) (ea:=ea) hv.files h8).2 _ hst
     exact⟨_,_,g3,⟨_,_,g1,(by first|exact Nat.zero_le _|exact hq12),g2.symm.trans hT,rfl,Nat.le_trans (Nat.le_of_lt g3) hmq,rfl⟩,(by(try simp only[List.map_append]);exact Az 5 0 rfl rfl rfl rfl ((by repeat (first|exact Sub.nil|refine Sub.cons _ _ _ rfl rfl ?_|refine Sub.any _ _ ?_|refine Sub.sl _ _ _ _ _ rfl ?_|refine Sub.slnil _ _ _ rfl ?_))))⟩
    have hc11:=bp hb11
    exact absurd hc10 hc11
   have hc10:=bp hb10
   refine AG (w_ (f_ (h:=l_ (h:=l_ (h:=m_ (h:=?_))))))
   refine A4 rfl (AK (Gp s.files a q hs.b.files) ?_)
   rintro r rfl
   refine m_ (h:=x_ (h:=x_ (h:=AW (h:=s_ (h:=a_ (h:=e_ (q_ (w_ (m_ (h:=BF (h:=e_ (?_))))))))))))
   refine A8 rfl (fun hb12=>?_) (fun hb12=>?_)
   ·have hc12:=bp hb12
    refine q_ (w_ (m_ (h:=n_ (h:=CZ (h:=m_ (h:=?_))))))
    refine Ax false rfl rfl (fun hb13=>?_) (fun hb13=>?_)
    ·have hc13:=bp hb13
     have hne:qs≠[]:=fun e=>by rw[e]at hc13;simp at hc13
     have hst:Cd s (fl||BG p) q qs a lk= .inl 2:=by unfold Cd;rw[if_neg (by simp[hc6]),if_neg (by omega),if_neg hc8,if_neg hc10,if_pos hc12,if_pos (.inl hne)]
     refine A3 (h:=A3 (h:=A3 (h:=Af (h:=e_ (Bf (h:=w_ (AT (h:=s_ (h:=a_ (h:=e_ (A6 (A7 (A7 (AR (A7 (AR (A7 (?_))))))))))))))))))
     refine AB ?_
     rw[LR hc1 (by omega) ha had (hT.symm.trans ((H0 (F:=fl||BG p) (da:=da) (na:=na) (ea:=ea) hv.files h8).1 _ hst)) (by decide)]
     rfl
    have hc13:=bp hb13
    have hne:¬qs≠[]:=fun e=>e (List.eq_nil_of_length_eq_zero (by omega))
    refine m_ (h:=?_)
    refine B6 (AK (Pe q (by omega)) ?_)
    rintro r rfl
    refine BA (h:=Am (h:=e_ (?_)))
    refine A8 rfl (fun hb14=>?_) (fun hb14=>?_)
    ·have hc14:=bp hb14
     have hst:Cd s (fl||BG p) q qs a lk= .inl 2:=by unfold Cd;rw[if_neg (by simp[hc6]),if_neg (by omega),if_neg hc8,if_neg hc10,if_pos hc12,if_pos (.inr hc14)]
     refine w_ (AT (h:=s_ (h:=a_ (h:=e_ (A6 (A7 (A7 (AR (A7 (AR (A7 (?_))))))))))))
     refine AB ?_
     rw[LR hc1 (by omega) ha had (hT.symm.trans ((H0 (F:=fl||BG p) (da:=da) (na:=na) (ea:=ea) hv.files h8).1 _ hst)) (by decide)]
     rfl
    have hc14:=bp hb14
    have hst:Cd s (fl||BG p) q qs a lk= .inr ⟨[],a,q,(0,0),false,lk⟩:=by unfold Cd;rw[if_neg (by simp[hc6]),if_neg (by omega),if_neg hc8,if_neg hc10,if_pos hc12,if_neg (fun e=>e.elim hne (by simp[hc14]))]
    have hfin:=hT.symm.trans (((H0 (F:=fl||BG p) (da:=da) (na:=na) (ea:=ea) hv.files h8).2 _ hst).2.1.trans (R4 rfl))
    refine AG (w_ (l_ (h:=m_ (h:=AT (h:=s_ (h:=e_ (BO (Aq (Li rfl (Aq (BQ (?_))))))))))))
    refine AD ?_
    exact⟨_,⟨_,_,hfin,(by first|exact Nat.le_trans hna (by decide)|exact Nat.le_trans hq12 (by decide)),rfl⟩,(wk 5 0)⟩
   have hc12:=bp hb12
   refine AG (w_ (f_ (h:=l_ (h:=l_ (h:=?_)))))
   refine A4 rfl (AK (Dk s.files (AM s.files a q).1 hs.b.files) ?_)
   rintro r rfl
   refine m_ (h:=x_ (h:=x_ (h:=AW (h:=s_ (h:=a_ (h:=e_ (q_ (?_))))))))
   refine JX (⟨look [(3, .v (.bool fl)),(4, .bp 0 0),(8, .bp 2 0),(10, .sl 1 (qs.map Cz) none),(12, .v (.bool (BG p))),(13, .bp 3 0),(14, .bp 4 0),(15, .v (.int .i64 (lk:Int))),(16, .v (.string q)),(17, .bp 5 0),(19, .bp 6 0),(130, .v (.bool (decide ((Aa s.files (AM s.files a q).1).kind=3)&&(decide (0<((qs.map Cz).length:Int))||(fl||BG p)))))],⟨[Ai s,AA start,Ak DO,AA a,N1 ⟨q::qs,da,na,a,ea,lk⟩,AA (AM s.files a q).1,Ah (Aa s.files (AM s.files a q).1)],[]⟩⟩) ?_ ?_
   ·skip
    refine AP (f_ (h:=l_ (h:=AQ (h:=m_ (h:=?_)))))
    refine Ax true rfl rfl (fun hb15=>?_) (fun hb15=>?_)
    ·have hc15:=bp hb15
     refine m_ (h:=n_ (h:=CZ (h:=m_ (h:=?_))))
     refine Ax false rfl rfl (fun hb16=>?_) (fun hb16=>?_)
     ·have hc16:=bp hb16
      refine A3 (h:=Af (h:=m_ (h:=A3 (h:=Af (h:=Af (h:=AO (?_)))))))
      refine AD ?_
      first|(exfalso;first|contradiction|omega)|exact Az 7 0 rfl rfl rfl rfl (by repeat (first|exact Sub.nil|refine Sub.cons _ _ _ rfl rfl ?_|refine Sub.any _ _ ?_|refine Sub.sl _ _ _ _ _ rfl ?_|refine Sub.slnil _ _ _ rfl ?_|(apply Sub.of;(focus exact rfl);(focus exact LeA.of_eq (vb (by first|(rw[hb15];rfl)|(rw[hb15,hb16];rfl)|(rw[hb15,hb16,hb17];rfl))));(focus exact rfl))))
     have hc16:=bp hb16
     refine m_ (h:=Am (h:=m_ (h:=?_)))
     refine Ax false rfl rfl (fun hb17=>?_) (fun hb17=>?_)
     ·have hc17:=bp hb17
      refine A3 (h:=Af (h:=Af (h:=AO (?_))))
      refine AD ?_
      first|(exfalso;first|contradiction|omega)|exact Az 7 0 rfl rfl rfl rfl (by repeat (first|exact Sub.nil|refine Sub.cons _ _ _ rfl rfl ?_|refine Sub.any _ _ ?_|refine Sub.sl _ _ _ _ _ rfl ?_|refine Sub.slnil _ _ _ rfl ?_|(apply Sub.of;(focus exact rfl);(focus exact LeA.of_eq (vb (by first|(rw[hb15];rfl)|(rw[hb15,hb16];rfl)|(rw[hb15,hb16,hb17];rfl))));(focus exact rfl))))
     have hc17:=bp hb17
     refine m_ (h:=Am (h:=Af (h:=AO (?_))))
     refine AD ?_
     first|(exfalso;first|contradiction|omega)|exact Az 7 0 rfl rfl rfl rfl (by repeat (first|exact Sub.nil|refine Sub.cons _ _ _ rfl rfl ?_|refine Sub.any _ _ ?_|refine Sub.sl _ _ _ _ _ rfl ?_|refine Sub.slnil _ _ _ rfl ?_|(apply Sub.of;(focus exact rfl);(focus exact LeA.of_eq (vb (by first|(rw[hb15];rfl)|(rw[hb15,hb16];rfl)|(rw[hb15,hb16,hb17];rfl))));(focus exact rfl))))
    have hc15:=bp hb15
    refine A3 (h:=A3 (h:=A3 (h:=A3 (h:=ED (h:=A3 (h:=A3 (h:=ED (h:=A3 (h:=Am (h:=AO (?_)))))))))))
    refine AD ?_
    first|(exfalso;first|contradiction|omega)|exact Az 7 0 rfl rfl rfl rfl (by repeat (first|exact Sub.nil|refine Sub.cons _ _ _ rfl rfl ?_|refine Sub.any _ _ ?_|refine Sub.sl _ _ _ _ _ rfl ?_|refine Sub.slnil _ _ _ rfl ?_|(apply Sub.of;(focus exact rfl);(focus exact LeA.of_eq (vb (by first|(rw[hb15];rfl)|(rw[hb15,hb16];rfl)|(rw[hb15,hb16,hb17];rfl))));(focus exact rfl))))
   skip
   refine A8 rfl (fun hb18=>?_) (fun hb18=>?_)
   ·have hc18:=bp hb18
    have hlk:(Aa s.files (AM s.files a q).1).kind=3∧(qs≠[]∨(fl||BG p)=true):=by
     rw[Bool.and_eq_true,decide_eq_true_eq,Bool.or_eq_true,decide_eq_true_eq]at hc18
     exact⟨hc18.1,hc18.2.imp (fun h e=>by rw[e]at h;simp at h) id⟩
    refine q_ (w_ (m_ (h:=AQ (h:=e_ (?_)))))
    refine A8 rfl (fun hb19=>?_) (fun hb19=>?_)
    ·have hc19:=bp hb19
     have hst:Cd s (fl||BG p) q qs a lk= .inl 40:=by unfold Cd;rw[if_neg (by simp[hc6]),if_neg (by omega),if_neg hc8,if_neg hc10,if_neg (by simp[hc12]),if_pos hlk,if_pos (by omega)]
     refine w_ (AT (h:=s_ (h:=a_ (h:=e_ (A6 (A7 (A7 (AR (A7 (AR (A7 (?_))))))))))))
     refine AB ?_
     rw[LR hc1 (by omega) ha had (hT.symm.trans ((H0 (F:=fl||BG p) (da:=da) (na:=na) (ea:=ea) hv.files h8).1 _ hst)) (by decide)]
     rfl
    have hc19:=bp hb19
    refine AG (w_ (m_ (h:=?_)))
    refine A4 rfl (Ju rfl rfl (by omega) ?_)
    refine a_ (h:=e_ (w_ (f_ (h:=l_ (h:=?_)))))
    refine A4 rfl (AK (Qv (Aa s.files (AM s.files a q).1).target (by omega)) ?_)
    rintro r ⟨ps,hps,rfl⟩
    obtain rfl:=Qy hps
    clear hps
    refine m_ (h:=x_ (h:=x_ (h:=x_ (h:=a_ (h:=a_ (h:=a_ (h:=e_ (q_ (w_ (m_ (h:=e_ (?_))))))))))))
    refine A8 rfl (fun hb20=>?_) (fun hb20=>?_)
    ·have hc20:=bp hb20
     have hst:Cd s (fl||BG p) q qs a lk= .inr ⟨Cm (Aa s.files (AM s.files a q).1).target++qs,Dq s,⟨#[]⟩,Dq s,true,lk+1⟩:=by unfold Cd;rw[if_neg (by simp[hc6]),if_neg (by omega),if_neg hc8,if_neg hc10,if_neg (by simp[hc12]),if_pos hlk,if_neg (by omega),if_pos hc20]
     refine AP (l_ (h:=?_))
     refine A4 rfl (AK (Va s hs.b hv) ?_)
     rintro r rfl
     refine s_ (h:=e_ (w_ (m_ (h:=Gl (h:=m_ (h:=Gl (h:=a_ (h:=e_ (w_ (l_ (h:=l_ (h:=AT (h:=s_ (h:=e_ (BO (Aq (BQ (?_))))))))))))))))))
     refine AD ?_
     obtain⟨g1,g2,g3⟩:=(H0 (F:=fl||BG p) (da:=da) (na:=na) (ea:=ea) hv.files h8).2 _ hst
     exact⟨_,_,g3,⟨_,_,g1,(by first|exact Nat.zero_le _|exact hq12),g2.symm.trans hT,rfl,Nat.le_trans (Nat.le_of_lt g3) hmq,rfl⟩,(by(try simp only[List.map_append]);exact Az 5 0 rfl rfl rfl rfl ((by repeat (first|exact Sub.nil|refine Sub.cons _ _ _ rfl rfl ?_|refine Sub.any _ _ ?_|refine Sub.sl _ _ _ _ _ rfl ?_|refine Sub.slnil _ _ _ rfl ?_))))⟩
    have hc20:=bp hb20
    have hst:Cd s (fl||BG p) q qs a lk= .inr ⟨Cm (Aa s.files (AM s.files a q).1).target++qs,a,⟨#[]⟩,a,true,lk+1⟩:=by unfold Cd;rw[if_neg (by simp[hc6]),if_neg (by omega),if_neg hc8,if_neg hc10,if_neg (by simp[hc12]),if_pos hlk,if_neg (by omega),if_neg (by simp[hc20])]
    refine AG (w_ (m_ (h:=Gl (h:=m_ (h:=Gl (h:=a_ (h:=e_ (w_ (l_ (h:=l_ (h:=AT (h:=s_ (h:=e_ (BO (Aq (BQ (?_)))))))))))))))))
    refine AD ?_
    obtain⟨g1,g2,g3⟩:=(H0 (F:=fl||BG p) (da:=da) (na:=na) (ea:=ea) hv.files h8).2 _ hst
    exact⟨_,_,g3,⟨_,_,g1,(by first|exact Nat.zero_le _|exact hq12),g2.symm.trans hT,rfl,Nat.le_trans (Nat.le_of_lt g3) hmq,rfl⟩,(by(try simp only[List.map_append]);exact Az 5 0 rfl rfl rfl rfl ((by repeat (first|exact Sub.nil|refine Sub.cons _ _ _ rfl rfl ?_|refine Sub.any _ _ ?_|refine Sub.sl _ _ _ _ _ rfl ?_|refine Sub.slnil _ _ _ rfl ?_))))⟩
   have hc18:=bp hb18
   have hlk:¬((Aa s.files (AM s.files a q).1).kind=3∧(qs≠[]∨(fl||BG p)=true)):=fun h=>by
    rw[decide_eq_true h.1,Bool.true_and,Bool.or_eq_false_iff]at hc18
    rcases h.2 with e|e
    ·exact e (List.eq_nil_of_length_eq_zero (by have:=of_decide_eq_false hc18.1;omega))
    rw[hc18.2]at e;cases e
   have hst:Cd s (fl||BG p) q qs a lk= .inr ⟨qs,a,q,Cp s s.mounts.length (AM s.files a q).1,true,lk⟩:=by unfold Cd;rw[if_neg (by simp[hc6]),if_neg (by omega),if_neg hc8,if_neg hc10,if_neg (by simp[hc12]),if_neg hlk]
   refine AG (BH ([(0,Ai s),(3,AA a),(5,AA (AM s.files a q).1)]) 6 (h:=AJ 0 (h:=AN 1 (h:=AJ 2 (h:=AJ 3 (h:=?_))))))
   refine c_ 4 rfl (AK (RK hs.b hv (AM s.files a q).1) ?_)
   rintro r rfl
   refine o_ (h:=Gm 5 (h:=?_))
   refine B0 6 rfl (Aw rfl rfl rfl rfl rfl rfl (by repeat constructor) (by repeat constructor) ?_)
   refine o_ (h:=z_ (h:=Ay (?_)))
   refine AD ?_
   obtain⟨g1,g2,g3⟩:=(H0 (F:=fl||BG p) (da:=da) (na:=na) (ea:=ea) hv.files h8).2 _ hst
   exact⟨_,_,g3,⟨_,_,g1,(by first|exact Nat.zero_le _|exact hq12),g2.symm.trans hT,rfl,Nat.le_trans (Nat.le_of_lt g3) hmq,rfl⟩,(by(try simp only[List.map_append]);exact Az 5 0 rfl rfl rfl rfl ((by repeat (first|exact Sub.nil|refine Sub.cons _ _ _ rfl rfl ?_|refine Sub.any _ _ ?_|refine Sub.sl _ _ _ _ _ rfl ?_|refine Sub.slnil _ _ _ rfl ?_))))⟩
  have hc5:=bp hb5
  have hc5:¬(0:Int)<((ps0.map Cz).length:Int):=hc5
  have e5:ps0=[]:=List.eq_nil_of_length_eq_zero (by omega)
  subst e5
  have hfin:=hT.symm.trans (R4 (s:=s) (fl:=fl||BG p) (σ:=⟨[],da,na,a,ea,lk⟩) rfl)
  refine BO (Aq (Aq (BQ (?_))))
  refine AD ?_
  exact⟨_,⟨_,_,hfin,(by first|exact Nat.le_trans hna (by decide)|exact Nat.le_trans hq12 (by decide)),rfl⟩,(wk 5 0)⟩
 rintro t ⟨τ,d,hT,hnm,rfl⟩
 refine q_ (?_)
 refine JX (⟨look [(4, .bp 0 0),(8, .bp 2 0),(12, .v (.bool (BG p))),(14, .bp 4 0),(171, .v (.bool (BG p&&(τ.ex&& !AX s.files τ.file))))],⟨[Ai s,AA start,Ak DO,AA d,N1 τ],[]⟩⟩) ?_ ?_
 ·skip
  refine AP (m_ (h:=m_ (h:=?_)))
  refine Ax true rfl rfl (fun hb21=>?_) (fun hb21=>?_)
  ·have hc21:=bp hb21
   refine f_ (h:=l_ (h:=Af (h:=m_ (h:=?_))))
   refine Ax true rfl rfl (fun hb22=>?_) (fun hb22=>?_)
   ·have hc22:=bp hb22
    have hx:τ.ex=true:=hb22
    refine f_ (h:=l_ (h:=f_ (h:=l_ (h:=?_))))
    refine B6 (AK (GO s.files τ.file hs.b.files) ?_)
    rintro r rfl
    refine BA (h:=Af (h:=AO (?_)))
    refine AD ?_
    first|(exfalso;first|contradiction|omega)|exact Az 5 0 rfl rfl rfl rfl (by repeat (first|exact Sub.nil|refine Sub.cons _ _ _ rfl rfl ?_|refine Sub.any _ _ ?_|refine Sub.sl _ _ _ _ _ rfl ?_|refine Sub.slnil _ _ _ rfl ?_|(apply Sub.of;(focus exact rfl);(focus exact LeA.of_eq (vb (by first|(rw[hb21];rfl)|(rw[hb21,hx];rfl))));(focus exact rfl))))
   have hc22:=bp hb22
   have hx:τ.ex=false:=hb22
   refine A3 (h:=A3 (h:=A3 (h:=A3 (h:=A3 (h:=A3 (h:=Am (h:=AO (?_))))))))
   refine AD ?_
   first|(exfalso;first|contradiction|omega)|exact Az 5 0 rfl rfl rfl rfl (by repeat (first|exact Sub.nil|refine Sub.cons _ _ _ rfl rfl ?_|refine Sub.any _ _ ?_|refine Sub.sl _ _ _ _ _ rfl ?_|refine Sub.slnil _ _ _ rfl ?_|(apply Sub.of;(focus exact rfl);(focus exact LeA.of_eq (vb (by first|(rw[hb21];rfl)|(rw[hb21,hx];rfl))));(focus exact rfl))))
  have hc21:=bp hb21
  refine A3 (h:=A3 (h:=Am (h:=m_ (h:=A3 (h:=A3 (h:=A3 (h:=A3 (h:=A3 (h:=A3 (h:=Am (h:=AO (?_))))))))))))
  refine AD ?_
  first|(exfalso;first|contradiction|omega)|exact Az 5 0 rfl rfl rfl rfl (by repeat (first|exact Sub.nil|refine Sub.cons _ _ _ rfl rfl ?_|refine Sub.any _ _ ?_|refine Sub.sl _ _ _ _ _ rfl ?_|refine Sub.slnil _ _ _ rfl ?_|(apply Sub.of;(focus exact rfl);(focus exact LeA.of_eq (vb (by first|(rw[hb21];rfl)|(rw[hb21,hx];rfl))));(focus exact rfl))))
 skip
 refine A8 rfl (fun hb23=>?_) (fun hb23=>?_)
 ·have hc23:=bp hb23
  refine w_ (AT (h:=s_ (h:=a_ (h:=e_ (A6 (A7 (?_)))))))
  refine AB ?_
  rw[VY hc1 (by omega) ha had hT (by simp only[Bool.and_eq_true,Bool.not_eq_true']at hc23;exact hc23)]
  rfl
 have hc23:=bp hb23
 refine AG (w_ (m_ (h:=f_ (h:=s_ (h:=e_ (q_ (w_ (l_ (h:=f_ (h:=l_ (h:=?_)))))))))))
 refine A4 rfl (AK (bM hs.b hv τ.dir) ?_)
 rintro r rfl
 refine m_ (h:=x_ (h:=x_ (h:=a_ (h:=a_ (h:=e_ (w_ (m_ (h:=e_ (?_)))))))))
 refine A8 rfl (fun hb24=>?_) (fun hb24=>?_)
 ·have hc24:=bp hb24
  refine w_ (m_ (h:=f_ (h:=s_ (h:=e_ (w_ (f_ (h:=l_ (h:=BF (h:=e_ (?_))))))))))
  refine A8 rfl (fun hb25=>?_) (fun hb25=>?_)
  ·have hc25:=bp hb25
   refine AP (m_ (h:=f_ (h:=l_ (h:=?_))))
   refine A4 rfl (AK (Ub (Be s τ.dir).1 τ.name (by have:=hw τ.dir;omega) (by omega)) ?_)
   rintro r rfl
   refine f_ (h:=s_ (h:=e_ (w_ (l_ (h:=s_ (h:=a_ (h:=e_ (A6 (?_)))))))))
   refine AB ?_
   rw[Oa hc1 (by omega) ha had hT (fun h=>by rw[h.1,h.2.1,h.2.2]at hc23;cases hc23),show Gx s (BG p) τ=⟨τ.dir,τ.name,τ.file,τ.ex,BG p,DD (Be s τ.dir).1 τ.name⟩ by unfold Gx;rw[if_pos hc24,if_neg hc25]]
   rfl
  have hc25:=bp hb25
  refine AG (w_ (l_ (h:=s_ (h:=a_ (h:=e_ (A6 (?_)))))))
  refine AB ?_
  rw[Oa hc1 (by omega) ha had hT (fun h=>by rw[h.1,h.2.1,h.2.2]at hc23;cases hc23),show Gx s (BG p) τ=⟨τ.dir,τ.name,τ.file,τ.ex,BG p,(Be s τ.dir).1⟩ by unfold Gx;rw[if_pos hc24,if_pos hc25]]
  rfl
 have hc24:=bp hb24
 refine AG (w_ (l_ (h:=s_ (h:=a_ (h:=e_ (A6 (?_)))))))
 refine AB ?_
 rw[Oa hc1 (by omega) ha had hT (fun h=>by rw[h.1,h.2.1,h.2.2]at hc23;cases hc23),show Gx s (BG p) τ=⟨τ.dir,τ.name,τ.file,τ.ex,BG p,⟨#[]⟩⟩ by unfold Gx;rw[if_neg (by simp[hc24])]]
 rfl
end
end Go.Proofs.YtbglbmnhgbgelaaGreatDoor
