/-
  Part 13 of the proof of WatchChangesP: what the statement's proof uses of the texts in wip/tpl.
-/
import Derived.Test.YtbglbmnhgbgelaaGreatDoorQc12
set_option maxRecDepth 10000
set_option maxHeartbeats 4000000
set_option linter.unusedVariables false
set_option linter.unusedSimpArgs false
namespace Go.Proofs.YtbglbmnhgbgelaaGreatDoor
open Go.RowKit
theorem bC{P:Program}{St:Nat→Nat→Prop}{w:World}(hst:∀b o,St b o→b<w.heap.size){T T' sz bytes:Nat}(hE:Hr P T=some (T',sz,bytes))(hby:bytes≤100000){rows new:List (List AV)}{A:Option Addr}{cap:Nat}{y:Value}
    (hs:Ab St w (.sl sz rows none) (.slice A rows.length cap)) (hy:Ab St w (.sl sz new none) y) (hsm:rows.length+new.length≤1000000) (rt:TypeId):
    ∃(v':Value) (w':World) (N:Nat→Nat→Prop),(Builtin.append_ #[T,T] rt #[.slice A rows.length rows.length,y]).run P w= .ok v' w'∧Below w.heap.size w w'∧(∀b o,N b o→w.heap.size≤b∧b<w'.heap.size)∧Ab (fun b o=>St b o∨N b o) w' (.sl sz (rows++new) none) v':=by
 obtain⟨hu,inf,z,hinf,hz,hzs,hsz,hbts,hp⟩:=Ea hE
 obtain⟨A',cap',vs,e1,e2,e3,e4,e5⟩:=JZ hy
 obtain⟨A0,cap0,us,f1,f2,f3,f4,f5⟩:=JZ hs
 injection f1 with f1a f1b f1c
 subst f1a
 by_cases h0:new=[]
 ·subst h0
  refine⟨.slice A rows.length rows.length,w,fun _ _=>False,?_,Below.refl _ _,fun _ _ h=>h.elim,?_⟩
  ·rw[e1]
   rcases A' with _|ad<;>rcases A with _|ad0<;>simp[Builtin.append_,run_underlying hu,sizeOf,typeInfo,hinf,Builtin.lenOf,Builtin.firstCells,storeCells,loadCells,loadCellsFrom]
  rw[List.append_nil]
  have k:Ab St w (.sl sz rows none) (.slice A rows.length rows.length):=by
   simp only[Ab]at hs ⊢
   obtain⟨_,B,c,h1,h2,h3,h4⟩:=hs
   injection h1 with h1 _ _
   subst h1
   exact⟨trivial,_,_,rfl,Nat.le_refl _,Nat.le_trans h2 h3,h4⟩
  exact FG (fun b o hb=>⟨.inl hb,rfl⟩) _ _ k
 obtain⟨b,off,q1,q2⟩:=e5 h0
 subst q1
 rw[e1]
 have hnl:0<new.length:=List.length_pos_iff.2 h0
 have hnews:∀j u,vs[j]?=some u→w.cell? ((⟨b,off,none⟩:Addr).add j)=some u:=fun j u hj=>by rw[Addr.add_mid];exact q2 j u hj
 have hbt:(rows.length+new.length) * bytes≤140737488355328:=by
  have:(rows.length+new.length) * bytes≤1000000 * 100000:=Nat.mul_le_mul hsm hby
  omega
 have key:∃v' w',(Builtin.append_ #[T,T] rt #[.slice A rows.length rows.length, .slice (some ⟨b,off,none⟩) new.length cap']).run P w= .ok v' w'∧w'.ownsRow w.heap.size T' sz v' (rows.length+new.length) (us++vs)∧w.grownBy w' none:=by
  by_cases hr0:rows=[]
  ·subst hr0
   have hus:us=[]:=List.eq_nil_of_length_eq_zero (by simpa using f4.1)
   subst hus
   rcases A with _|ad
   ·obtain⟨v',w',r1,r2,r3,r4,r5⟩:=run_append_own_at (P:=P) w w.heap.size T rt T' inf z sz bytes hu hinf hz hsz hbts hzs hp (.slice none 0 0) 0 [] (World.ownsRow_nil w _ _ _) ⟨b,off,none⟩ new.length cap' vs (by rw[e4.1]) hnews e4.2.2.1 (by simp at hsm;unfold maxLen;omega) (by simpa using hbt) (Nat.le_refl _)
    exact⟨v',w',by simpa using r1,by simpa using r2,by simpa[Value.ownBlock]using r3⟩
   obtain⟨v',w',r1,r2,r3⟩:=run_append_arg_grows (P:=P) w T rt T' inf z sz bytes hu hinf hz hsz hbts hzs hp ad 0 0 [] (by simp) (by simp) ⟨b,off,none⟩ new.length cap' vs (by rw[e4.1]) hnews (by omega) (by simp at hsm;unfold maxLen;omega) (by simpa using hbt)
   exact⟨v',w',by simpa using r1,by simpa using r2,r3⟩
  obtain⟨b0,off0,p1,p2⟩:=f5 hr0
  subst p1
  exact run_append_arg_grows (P:=P) w T rt T' inf z sz bytes hu hinf hz hsz hbts hzs hp ⟨b0,off0,none⟩ rows.length rows.length us (by rw[f4.1]) (fun j u hj=>by rw[Addr.add_mid];exact p2 j u hj) ⟨b,off,none⟩ new.length cap' vs (by rw[e4.1]) hnews (by omega) (by unfold maxLen;omega) hbt
 obtain⟨v',w',r1,r2,r3⟩:=key
 have hbel:Below w.heap.size w w':=⟨r3.os,r3.tape,r3.output,r3.size,fun k hk=>r3.block k hk (by simp)⟩
 have hlt:=World.ownsRow.lt r2
 refine⟨v',w',fun b _=>v'.ownBlock=some b,r1,hbel,fun b o hb=>hlt b hb,?_⟩
 have hflat:FlatR (fun b o=>St b o∨v'.ownBlock=some b) w' sz (rows++new) (us++vs):=(f4.append e4).mono fun b o hb=>⟨.inl hb,hbel.cell (p:=⟨b,o,none⟩) (hst b o hb)⟩
 rcases r2.2 with⟨c1,c2⟩|⟨gb,cp,cur,c1,c2,c3,c4,c5,c6,c7⟩
 ·omega
 subst c1
 simp only[Ab]
 refine⟨trivial,_,cp,by rw[List.length_append],by rw[List.length_append];exact c4,c5, .inr ⟨gb,0,rfl,hflat.froR fun j u hj=>⟨.inr rfl,?_⟩⟩⟩
 have hj2:j<(rows.length+new.length) * sz:=by
  have:=(Ac.1 hj).1
  rwa [r2.1]at this
 rw[Nat.zero_add]
 simp only[World.cell?,c3]
 rw[←c7,List.getElem?_take,if_pos hj2,Array.getElem?_toList]at hj
 simpa using hj
theorem Ty{a:Act}{d n:Nat}(v:Value)(hn:a.tmps.size=n)(hd:d<n):(a.put (some d) v).eval (.tmp d)=v:=by
 show(a.put (some d) v).tmps.getD d undef=v
 simp[Act.put,hn,hd]
theorem bD{a:Act}{d t:Nat}(v:Value)(h:d≠t):(a.put (some d) v).eval (.tmp t)=a.eval (.tmp t):=by
 show(a.put (some d) v).tmps.getD t undef=a.tmps.getD t undef
 simp[Act.put,Array.getElem?_setIfInBounds_ne h]
theorem bF{P:Program}{N:Dim}{ops:Array Oper}{Q:Exit→AS→Prop}{rest:List Oper}{l:List (Nat×AV)}{hh:AH}{d1 d2 d3:Nat}{ty1 ty2 ty3:TypeId}{pos1 pos2 pos3:String}{af1 af2 af3:Array Edge}{T:TypeId}{x hi mx y:Operand}{T' sz bytes:Nat}{rows new:List (List AV)}{tok tok':Option Nat}[hE:Elm P T T' sz bytes]{i j:Int}
    (h1:Nat.blt d1 N.n=true) (h2:Nat.blt d2 N.n=true) (h3:Nat.blt d3 N.n=true) (hne:Nat.beq d2 d1=false)
    (hx:Bt (look l) x=some (.sl sz rows tok)) (hhi:Bt (look l) hi=some (.v (.int .i64 i))) (hmx:Bt (look l) mx=some (.v (.int .i64 j))) (hi':i=(rows.length:Int)) (hj':j=(rows.length:Int)) (hy:Bt (look ((d1, .sl sz rows none)::l)) y=some (.sl sz new tok')) (hsm:rows.length+new.length≤1000000)
    (h:AL P N ops Q rest ⟨look ((d3, .sl sz (rows++new) none)::(d2, .sl sz new tok')::(d1, .sl sz rows none)::l),hh⟩):
    AL P N ops Q (⟨some d1, .slice T x none (some hi) (some mx),ty1,pos1,af1,none⟩::⟨some d2, .move y,ty2,pos2,af2,none⟩::⟨some d3, .call {callee:= .builtin .append,args:=#[.tmp d1, .tmp d2],argTypes:=#[T,T]},ty3,pos3,af3,none⟩::rest) ⟨look l,hh⟩:=by
 obtain⟨hu,inf,z,hinf,hz,hzs,hsz,hbts,hp⟩:=Ea hE.eq
 intro E a w hr
 obtain⟨G,g1,g2,g3,g4,g5⟩:=hr
 have kx:=Ef _ _ (g2.ev hx)
 have ki:=g2.ev hhi
 have kj:=g2.ev hmx
 simp only[CQ]at kx
 simp only[rep]at ki kj
 subst hi' hj'
 obtain⟨A,cap,us,e1,e2,e3,e4,e5⟩:=JZ kx
 rw[e1]at kx
 refine wpList_plain rfl fun K hK=>?_
 have run1:(execOp a.eval ⟨some d1, .slice T x none (some hi) (some mx),ty1,pos1,af1,none⟩).run P w= .ok (.value (.slice A rows.length rows.length)) w:=by
  have hA:Option.map (fun x:Addr=>x.add 0) A=A:=by cases A with
   |none=>rfl
   |some ad=>cases ad;rfl
  have e0:(if rows.length=0 then A else Option.map (fun x:Addr=>x.add 0) A)=A:=by rw[hA];split<;>rfl
  simp[execOp,e1,ki,kj,Instr.sliceAt,Instr.slice,Instr.sliceBounds,Instr.sliceBound,asIntOf,run_underlying hu,sizeOf,typeInfo,hinf,hsz,e2,hA]
 refine Lm (E:=E) (w:=w) (R:=fun x' h'=>x'= .v (.slice A rows.length rows.length)∧h'=hh) (G:=G) ?_ ?_
 ·rw[run1]
  exact⟨_,_,G,⟨rfl,rfl⟩,g1,Ext.refl G w,by simp only[rep]⟩
 rintro v1 w1 ⟨x1,h1',G1,⟨rfl,rfl⟩,k1,k2,k3⟩
 simp only[rep]at k3
 subst k3
 have kx1:Ab G1.St w1 (.sl sz rows none) (.slice A rows.length cap):=FG k2.st _ _ kx
 have kn1:Ab G1.St w1 (.sl sz rows none) (.slice A rows.length rows.length):=by
  have:=kx1
  simp only[Ab]at this ⊢
  obtain⟨_,B,c,q1,q2,q3,q4⟩:=this
  injection q1 with q1 _ _
  subst q1
  exact⟨trivial,_,_,rfl,Nat.le_refl _,Nat.le_trans q2 q3,q4⟩
 obtain⟨s1,s2,s3⟩:=g2.put (d:=some d1) (x:= .sl sz rows none) k2 g3 h1 (Eg _ _ kn1)
 apply hK
 refine wpList_plain rfl fun K2 hK2=>?_
 have ky:=s1.ev hy
 refine Lm (E:=E) (R:=fun x' h'=>x'= .sl sz new tok'∧h'=h1') (G:=G1) (w:=w1) (r:= .ok (.value ((a.put (some d1) (.slice A rows.length rows.length)).eval y)) w1) ⟨_,_,G1,⟨rfl,rfl⟩,k1,Ext.refl G1 w1,ky⟩ ?_
 rintro v2 w2 ⟨x2,h2',G2,⟨rfl,rfl⟩,m1,m2,m3⟩
 obtain⟨t1,t2,t3⟩:=s1.put (d:=some d2) (x:= .sl sz new tok') m2 s2 h2 m3
 have kn2:Ab G2.St w2 (.sl sz rows none) (.slice A rows.length rows.length):=FG m2.st _ _ kn1
 have ky2:=Ef _ _ m3
 simp only[CQ]at ky2
 apply hK2
 refine wpList_plain rfl fun K3 hK3=>?_
 obtain⟨v',w',Nw,r1,r2,r3,r4⟩:=bC (P:=P) m1.stlt hE.eq hE.few kn2 ky2 hsm ty3
 obtain⟨u1,u2⟩:=m1.grow r2 Nw r3
 have hd12:d2≠d1:=fun e=>by rw[e,Nat.beq_refl]at hne;cases hne
 have q1:((a.put (some d1) (.slice A rows.length rows.length)).put (some d2) v2).eval (.tmp d1)= .slice A rows.length rows.length:=by
  rw[bD _ hd12]
  exact Ty _ g3 (BD h1)
 have q2:((a.put (some d1) (.slice A rows.length rows.length)).put (some d2) v2).eval (.tmp d2)=v2:=Ty _ s2 (BD h2)
 refine Lm (E:=E) (R:=fun x' h'=>x'= .sl sz (rows++new) none∧h'=h2') (G:=G2) (w:=w2) ?_ ?_
 ·simp only[execOp,resolve,invoke,builtin,Sem.run_bind,Sem.run_pure,Result.andThen_ok,List.map_toArray,List.map_cons,List.map_nil,q1,q2,r1]
  exact⟨_,_,_,⟨rfl,rfl⟩,u1,u2,Eg _ _ r4⟩
 rintro v3 w3 ⟨x3,h3',G3,⟨rfl,rfl⟩,n1,n2,n3⟩
 obtain⟨o1,o2,o3⟩:=t1.put (d:=some d3) (x:= .sl sz (rows++new) none) n2 t2 h3 n3
 apply hK3
 exact h E _ w3 ⟨G3,n1,o1,o2,o3.trans (t3.trans (s3.trans g4)),g5⟩
theorem Tz(s:AB)(hs:s.size≤60000):AFn Tryz.prog 91 [.v (.string s)] (fun r=>r= .tup [.sl 1 ((CP s).map CY) none, .v (.bool (Ch s)), .v (.bool (B3 s))]):=by
 intro w St bl vs hr hv
 have hbl:bl=[]:=by have:=hr.bxlen;simpa using this
 subst hbl
 simp only[AQ,rep]at hv
 obtain⟨z,zs,rfl,rfl,rfl⟩:=hv
 refine(bB s w hs).mono ?_
 rintro e w' ⟨v,ss,rfl,hv,hp,hB,A,c,rfl,hc⟩
 obtain rfl:=Pd (ps:=ss) hp
 obtain⟨k1,k2⟩:=hr.grow hB (fun b _=>OT w w' b) (fun b _ hb=>hb)
 refine⟨_,_,_,_,⟨rfl,rfl,rfl⟩,k1,k2,?_⟩
 simp only[rep,AQ]
 refine⟨_,rfl,_,_,rfl,?_,_,_,rfl,rfl,_,_,rfl,rfl,rfl⟩
 obtain⟨A',c',h1,h2,h3,h4⟩:=hv
 injection h1 with h1 _ h1c
 subst h1 h1c
 simp only[Ab]
 refine⟨trivial,A,c,by rw[List.length_map],by rw[List.length_map];exact h2,hc,?_⟩
 by_cases h0:(CP s).length=0
 ·exact .inl (by rw[List.eq_nil_of_length_eq_zero h0];rfl)
 obtain⟨b,off,rfl,hb,hcell⟩:=h4 (by omega)
 refine .inr ⟨b,off,rfl,KO fun i r hi=>?_⟩
 rw[List.getElem?_map]at hi
 cases hy:(CP s)[i]? with
 |none=>rw[hy]at hi;cases hi
 |some x=>
   rw[hy]at hi
   injection hi with hi
   subst hi
   refine⟨rfl,JU fun j av hj=>?_⟩
   match j,hj with
   |0,hj=>
     injection hj with hj
     subst hj
     exact⟨.inr hb, .string x,hcell i x 0 hy (by omega),rfl,by simp only[Ab]⟩
   |j+1,hj=>simp[CY]at hj
def Ey(f:AR)(a:A8):Int:=match BY f a with
 |none=>2
 |some n=>if n.kind=2 then 0 else 20
def FE(f:AR)(a:A8)(name:AB):A8×Bool:=match BY f a with
 |none=>((0,0),false)
 |some n=>match n.entries.find? (fun e:B9=>decide (e.1=name))with
   |none=>((0,0),false)
   |some e=>((a.1,e.2),true)
theorem bG{f:AR}{a:A8}{name:AB}(h:¬Ey f a=0):AG f a name=((0,0),Ey f a):=by
 unfold Ey at h ⊢
 unfold AG
 cases hn:BY f a with
 |none=>rfl
 |some n=>
   simp only[hn]at h ⊢
   by_cases hk:n.kind=2
   ·rw[if_pos hk]at h;exact absurd rfl h
   rw[if_neg hk,if_neg hk]
theorem bH{f:AR}{a:A8}{name:AB}(h:Ey f a=0)(h2:(FE f a name).2=false):AG f a name=((0,0),2):=by
 unfold Ey at h
 unfold FE at h2
 unfold AG
 cases hn:BY f a with
 |none=>rfl
 |some n=>
   simp only[hn]at h h2 ⊢
   by_cases hk:n.kind=2
   ·rw[if_pos hk]
    cases hf:n.entries.find? (fun e:B9=>decide (e.1=name))with
    |none=>rfl
    |some e=>rw[hf]at h2;cases h2
   rw[if_neg hk]at h;exact absurd h (by decide)
theorem bJ{f:AR}{a:A8}{name:AB}(h:Ey f a=0)(h2:(FE f a name).2=true):AG f a name=((FE f a name).1,0):=by
 unfold Ey at h
 unfold FE at h2 ⊢
 unfold AG
 cases hn:BY f a with
 |none=>rw[hn]at h2;cases h2
 |some n=>
   simp only[hn]at h h2 ⊢
   by_cases hk:n.kind=2
   ·rw[if_pos hk]
    cases hf:n.entries.find? (fun e:B9=>decide (e.1=name))with
    |none=>rw[hf]at h2;cases h2
    |some e=>rfl
   rw[if_neg hk]at h;exact absurd h (by decide)
def Dd(s:Spc)(fl:Bool)(w:Wk):List AV:=[.sl 2 (s.files.map BX) none, .sl 3 (s.mounts.map Cm) none, .sl 1 (w.ps.map CY) none, .v (.int .i64 w.at_.1), .v (.int .i64 w.at_.2), .v (.int .i64 w.dir.1), .v (.int .i64 w.dir.2), .v (.string w.name), .v (.bool w.missing), .v (.bool fl), .v (.int .i64 (w.links:Int))]
theorem U0(d m:AB)(hd:d.size≤1000000)(hm:m.size≤1000000):AFn Tryz.prog 138 [.v (.string d), .v (.string m)] (fun r=>r= .v (.string (Co d m))):=
 MH (us:=[.string d, .string m]) fun w=>(Sk d m w hd hm).mono fun e w' h=>by
  obtain⟨h1,rfl⟩:=h
  exact⟨h1,Below.refl _ _⟩
theorem bK(t:AB):AFn Tryz.prog 132 [.v (.string t), .v (.string ⟨#[47]⟩)] (fun r=>r= .v (.bool (Ch t))):=
 MH (us:=[.string t, .string ⟨#[47]⟩]) fun w=>(Tryz.strings_HasPrefix t ⟨#[47]⟩ w).mono fun e w' h=>by
  obtain⟨h1,rfl⟩:=h
  refine⟨?_,Below.refl _ _⟩
  rw[h1]
  unfold Ch
  rw[←Le]
section
theorem bL(f:AR)(a:A8)(hf:FlsB f):AFn Tryz.prog 139 [.agg (Ah f), .agg (AA a)] (fun r=>r= .v (.int .i64 (Ey f a))):=by
 refine enter Tryz.func139 rfl rfl rfl rfl rfl 0 rfl ?_
 refine w_ (b_ (h:=b_ (h:=a_ (h:=e_ (w_ (l_ (h:=l_ (h:=?_))))))))
 refine A4 rfl (AK (OO f a hf) ?_)
 rintro r (⟨e,rfl⟩|⟨n,e,rfl⟩)
 ·skip
  refine a_ (h:=e_ (q_ (Al (w_ (m_ (h:=?_))))))
  refine A4 rfl (Ji (by kernel_rfl) rfl rfl ?_)
  refine a_ (h:=e_ (?_))
  refine A7 rfl (fun hb1=>?_) (fun hb1=>?_)
  ·have hc1:=bp hb1
   refine w_ (a_ (h:=e_ (A6 (Ag (A9 (?_))))))
   refine AD ?_
   rw[show Ey f a=2 by simp only[Ey,e]]
   rfl
  have hc1:=bp hb1
  exfalso;first|contradiction|omega
 skip
 refine a_ (h:=e_ (q_ (Al (w_ (m_ (h:=?_))))))
 first|refine A4 rfl (Ji (by kernel_rfl) rfl rfl ?_)|refine A4 rfl (MZ (by kernel_rfl) rfl rfl ?_)
 refine a_ (h:=e_ (?_))
 refine A7 rfl (fun hb2=>?_) (fun hb2=>?_)
 ·have hc2:=bp hb2
  exfalso;first|contradiction|omega
 have hc2:=bp hb2
 refine w_ (m_ (h:=k_ (h:=f_ (h:=l_ (h:=BN (h:=a_ (h:=e_ (?_))))))))
 refine A7 rfl (fun hb3=>?_) (fun hb3=>?_)
 ·have hc3:=bp hb3
  refine w_ (a_ (h:=e_ (A6 (Ag (A9 (?_))))))
  refine AD ?_
  rw[show Ey f a=20 by simp only[Ey,e];exact if_neg hc3]
  rfl
 have hc3:=bp hb3
 refine B4 (Ay (t_ (w_ (a_ (h:=e_ (A6 (?_)))))))
 refine AD ?_
 rw[show Ey f a=0 by simp only[Ey,e];exact if_pos hc3]
 rfl
theorem bM(f:AR)(a:A8)(name:AB)(hf:FlsB f):AFn Tryz.prog 140 [.agg (Ah f), .agg (AA a), .v (.string name)] (fun r=>r= .tup [.agg (AA (FE f a name).1), .v (.bool (FE f a name).2)]):=by
 have hen:=Kn hf a
 refine enter Tryz.func140 rfl rfl rfl rfl rfl 0 rfl ?_
 refine w_ (b_ (h:=b_ (h:=AY (h:=a_ (h:=e_ (w_ (l_ (h:=l_ (h:=?_)))))))))
 refine A4 rfl (AK (OO f a hf) ?_)
 rintro r (⟨e,rfl⟩|⟨n,e,rfl⟩)
 ·skip
  refine a_ (h:=e_ (q_ (w_ (m_ (h:=?_)))))
  refine A4 rfl (Ji (by kernel_rfl) rfl rfl ?_)
  refine e_ (?_)
  refine A7 rfl (fun hb1=>?_) (fun hb1=>?_)
  ·have hc1:=bp hb1
   refine w_ (AU (h:=s_ (h:=a_ (h:=e_ (A6 (A9 (?_)))))))
   refine AD ?_
   rw[show FE f a name=((0,0),false) by simp only[FE,e]]
   rfl
  have hc1:=bp hb1
  exfalso;first|contradiction|omega
 have hnl:n.entries.length≤1000:=by simpa[AT,e]using hen
 refine a_ (h:=e_ (q_ (w_ (m_ (h:=?_)))))
 first|refine A4 rfl (Ji (by kernel_rfl) rfl rfl ?_)|refine A4 rfl (MZ (by kernel_rfl) rfl rfl ?_)
 refine e_ (?_)
 refine A7 rfl (fun hb2=>?_) (fun hb2=>?_)
 ·have hc2:=bp hb2
  exfalso;first|contradiction|omega
 have hc2:=bp hb2
 refine AM (q_ (w_ (m_ (h:=k_ (h:=f_ (h:=l_ (h:=n_ (h:=m_ (h:=e_ (Al (?_)))))))))))
 refine Bd (fun m t=>∃j:Nat,j≤n.entries.length∧m=n.entries.length - j∧(∀i y,i<j→n.entries[i]?=some y→decide (y.1=name)=false)∧t=⟨look [(2, .v (.string name)),(4, .bp 1 0),(6, .bp 2 0),(20, .sl 2 (n.entries.map C9) none),(21, .v (.int .i64 ((n.entries.map C9).length:Int))),(22, .v (.int .i64 (j:Int)))],⟨[Ah f,AA a,[.v (.int .i64 0), .v (.int .i64 0)]],[]⟩⟩) (n.entries.length) ((wk 3 0)) (⟨0,by omega,rfl,fun i y hi=>by omega,rfl⟩) ?_
 rintro m t ⟨j,hj,rfl,ha,rfl⟩
 refine w_ (BH (h:=e_ (q_ (?_))))
 refine A7 rfl (fun hb3=>?_) (fun hb3=>?_)
 ·have hc3:=bp hb3
  obtain⟨hlt,x,hy,hrow, -⟩:=CX C9 hc3
  refine AM (q_ (Al (w_ (i_ (h:=l_ (h:=AY (h:=s_ (h:=e_ (w_ (f_ (h:=l_ (h:=m_ (h:=AW (h:=e_ (?_)))))))))))))))
  refine A7 rfl (fun hb4=>?_) (fun hb4=>?_)
  ·have hc4:=bp hb4
   refine w_ (f_ (h:=l_ (h:=f_ (h:=l_ (h:=AU (h:=s_ (h:=a_ (h:=e_ (A6 (Ag (A9 (A9 (Ag (A9 (?_)))))))))))))))
   refine AD ?_
   rw[show FE f a name=((a.1,x.2),true) by simp only[FE,e];rw[G6 hy (by simpa using hc4) ha]]
   rfl
  have hc4:=bp hb4
  refine B4 (Ay (t_ (AP (B2 (h:=m_ (h:=AO (?_)))))))
  refine AE ?_
  refine⟨_,_,?_,⟨j+1,by omega,rfl,EQ hy ha (by simpa using hc4),rfl⟩,(wk 3 0)⟩
  omega
 have hc3:=bp hb3
 have e3:=Cl C9 hj hc3
 subst e3
 refine BK (Aj (Aj (BL (t_ (w_ (AU (h:=s_ (h:=a_ (h:=e_ (A6 (?_)))))))))))
 refine AD ?_
 rw[show FE f a name=((0,0),false) by simp only[FE,e];rw[G7 ha]]
 rfl
theorem Pu(f:AR)(a:A8)(name:AB)(hf:FlsB f):AFn Tryz.prog 96 [.agg (Ah f), .agg (AA a), .v (.string name)] (fun r=>r= .tup [.agg (AA (AG f a name).1), .v (.int .i64 (AG f a name).2)]):=by
 refine enter Tryz.func96 rfl rfl rfl rfl rfl 0 rfl ?_
 refine w_ (b_ (h:=b_ (h:=AY (h:=a_ (h:=e_ (q_ (w_ (l_ (h:=l_ (h:=?_))))))))))
 refine A4 rfl (AK (bL f a hf) ?_)
 rintro r rfl
 refine a_ (h:=e_ (w_ (m_ (h:=BN (h:=e_ (?_))))))
 refine A7 rfl (fun hb1=>?_) (fun hb1=>?_)
 ·have hc1:=bp hb1
  refine w_ (AU (h:=m_ (h:=s_ (h:=a_ (h:=e_ (A6 (A9 (?_))))))))
  refine AD ?_
  rw[bG hc1]
  rfl
 have hc1:=bp hb1
 refine AM (w_ (l_ (h:=l_ (h:=m_ (h:=?_)))))
 refine A4 rfl (AK (bM f a name hf) ?_)
 rintro r rfl
 refine m_ (h:=x_ (h:=x_ (h:=AY (h:=s_ (h:=a_ (h:=e_ (q_ (w_ (m_ (h:=BR (h:=e_ (?_))))))))))))
 refine A7 rfl (fun hb2=>?_) (fun hb2=>?_)
 ·have hc2:=bp hb2
  refine w_ (AU (h:=s_ (h:=a_ (h:=e_ (A6 (A9 (?_)))))))
  refine AD ?_
  rw[bH hc1 (by simpa using hc2)]
  rfl
 have hc2:=bp hb2
 refine AM (w_ (l_ (h:=s_ (h:=a_ (h:=e_ (A6 (?_)))))))
 refine AD ?_
 rw[bJ hc1 (by simpa using hc2)]
 rfl
theorem U1(s:Spc)(hs:SpcB s):AFn Tryz.prog 92 [.agg (Ap s)] (fun r=>r= .agg (AA (DK s))):=by
 refine enter Tryz.func92 rfl rfl rfl rfl rfl 0 rfl ?_
 refine w_ (b_ (h:=AY (h:=e_ (w_ (l_ (h:=AU (h:=?_)))))))
 refine A4 rfl (AK (ON s (0,1) hs) ?_)
 rintro r rfl
 refine s_ (h:=e_ (A6 (?_)))
 refine AD ?_
 rfl
theorem Pv(s:Spc)(fl:Bool)(w:Wk)(hs:SpcB s):AFn Tryz.prog 93 [.fp (Dd s fl w)] (fun r=>r= .v (.bool (Ai s.files w.at_))):=by
 have hde:=FR s.files w.at_
 refine enter Tryz.func93 rfl rfl rfl rfl rfl 0 rfl ?_
 refine w_ (a_ (h:=e_ (q_ (BM ([]) 16 (h:=AN 0 (h:=BC 1 (h:=AJ 2 (h:=AJ 3 (h:=AF 4 (h:=AN 5 (h:=BC 6 (h:=AJ 7 (h:=AF 8 (h:=?_))))))))))))))
 refine Dg 9 13 rfl rfl ?_ ?_
 ·refine AK (G9 s.files w.at_ hs.files) ?_
  rintro r rfl
  refine o_ (h:=?_)
  refine AN 10 (h:=B1 11 (h:=B1 12 (h:=?_)))
  refine c_ 13 rfl (Bz (by repeat constructor) ?_)
  refine o_ (h:=?_)
  refine Az 14 rfl (Av rfl rfl rfl rfl rfl rfl (by repeat constructor) (by repeat constructor) ?_)
  refine o_ (h:=B6 15 (h:=z_ (h:=t_ (w_ (m_ (h:=m_ (h:=?_)))))))
  refine Ar true rfl rfl (fun hb1=>?_) (fun hb1=>?_)
  ·have hc1:=bp hb1
   refine f_ (h:=l_ (h:=AW (h:=AX (h:=a_ (h:=e_ (A6 (?_)))))))
   refine AD ?_
   (rw[hde,hb1];rfl)
  have hc1:=bp hb1
  refine A3 (h:=A3 (h:=A3 (h:=Af (h:=a_ (h:=e_ (A6 (?_)))))))
  refine AD ?_
  (rw[hde,hb1];rfl)
 refine Bz (by repeat constructor) ?_
 refine o_ (h:=?_)
 refine c_ 9 rfl (AK (G9 s.files w.at_ hs.files) ?_)
 rintro r rfl
 refine o_ (h:=AN 10 (h:=B1 11 (h:=B1 12 (h:=?_))))
 refine Az 14 rfl (Av rfl rfl rfl rfl rfl rfl (by repeat constructor) (by repeat constructor) ?_)
 refine o_ (h:=B6 15 (h:=z_ (h:=t_ (w_ (m_ (h:=m_ (h:=?_)))))))
 refine Ar true rfl rfl (fun hb2=>?_) (fun hb2=>?_)
 ·have hc2:=bp hb2
  refine f_ (h:=l_ (h:=AW (h:=AX (h:=a_ (h:=e_ (A6 (?_)))))))
  refine AD ?_
  first|(rw[hde,hb1];rfl)|(rw[hde,hb2];rfl)
 have hc2:=bp hb2
 refine A3 (h:=A3 (h:=A3 (h:=Af (h:=a_ (h:=e_ (A6 (?_)))))))
 refine AD ?_
 first|(rw[hde,hb1];rfl)|(rw[hde,hb2];rfl)
theorem bO(s:Spc)(fl sl:Bool)(w:Wk)(hs:SpcN s)(hw:∀a,(BS s a).1.size≤1000)(hn:w.name.size≤1000000):AFn Tryz.prog 95 [.fp (Dd s fl w), .v (.bool sl)] (fun r=>r= .agg (Au (FD s sl w))):=by
 refine enter Tryz.func95 rfl rfl rfl rfl rfl 0 rfl ?_
 refine w_ (AY (h:=e_ (q_ (BM ([(0,Au Cx)]) 17 (h:=AN 0 (h:=BC 1 (h:=AJ 2 (h:=AF 3 (h:=AN 4 (h:=BC 5 (h:=AJ 6 (h:=AF 7 (h:=AN 8 (h:=BC 9 (h:=AJ 10 (h:=AF 11 (h:=O9 12 (h:=AN 13 (h:=EP 14 (h:=?_))))))))))))))))))))
 refine c_ 15 rfl (Bz (by repeat constructor) ?_)
 refine o_ (h:=?_)
 refine Az 16 rfl (Av rfl rfl rfl rfl rfl rfl (by repeat constructor) (by repeat constructor) ?_)
 refine o_ (h:=z_ (h:=t_ (q_ (w_ (m_ (h:=k_ (h:=f_ (h:=l_ (h:=AW (h:=e_ (?_)))))))))))
 refine A7 rfl (fun hb1=>?_) (fun hb1=>?_)
 ·have hc1:=bp hb1
  refine q_ (BM ([(0,Au Cx)]) 12 (h:=AN 0 (h:=BC 1 (h:=AJ 2 (h:=AF 3 (h:=AN 4 (h:=BC 5 (h:=AJ 6 (h:=AF 7 (h:=AJ 8 (h:=?_)))))))))))
  refine Az 9 rfl (Av rfl rfl rfl rfl rfl rfl (by repeat constructor) (by repeat constructor) ?_)
  refine o_ (h:=AJ 10 (h:=?_))
  refine Az 11 rfl (Av rfl rfl rfl rfl rfl rfl (by repeat constructor) (by repeat constructor) ?_)
  refine o_ (h:=z_ (h:=t_ (q_ (BM ([(0,Au Cx)]) 12 (h:=AN 0 (h:=BC 1 (h:=AJ 2 (h:=AF 3 (h:=AJ 4 (h:=?_))))))))))
  refine c_ 5 rfl (FM rfl rfl rfl ?_)
  refine o_ (h:=?_)
  refine c_ 6 rfl (AK (PQ hs w.at_) ?_)
  rintro r rfl
  refine o_ (h:=AN 7 (h:=B1 8 (h:=B1 9 (h:=AJ 10 (h:=?_)))))
  refine Az 11 rfl (Av rfl rfl rfl rfl rfl rfl (by repeat constructor) (by repeat constructor) ?_)
  refine o_ (h:=z_ (h:=t_ (w_ (l_ (h:=s_ (h:=e_ (A6 (A9 (?_)))))))))
  refine AD ?_
  rw[show FD s sl w=⟨w.at_,⟨#[]⟩,w.at_, !w.missing,sl,(BS s w.at_).1⟩ from if_pos hc1,hc1]
  rfl
 have hc1:=bp hb1
 refine AM (q_ (w_ (f_ (h:=l_ (h:=e_ (?_))))))
 refine A7 rfl (fun hb2=>?_) (fun hb2=>?_)
 ·have hc2:=bp hb2
  refine AP (m_ (h:=k_ (h:=f_ (h:=l_ (h:=f_ (h:=s_ (h:=e_ (q_ (q_ (DV 12 (h:=AN 0 (h:=BC 1 (h:=AJ 2 (h:=AF 3 (h:=AJ 4 (h:=AF 5 (h:=?_)))))))))))))))))
  refine c_ 6 rfl (AK (PQ hs w.dir) ?_)
  rintro r rfl
  refine o_ (h:=AN 7 (h:=B1 8 (h:=B1 9 (h:=B6 10 (h:=B6 11 (h:=z_ (h:=t_ (w_ (m_ (h:=e_ (?_)))))))))))
  refine A7 rfl (fun hb3=>?_) (fun hb3=>?_)
  ·have hc3:=bp hb3
   refine AP (m_ (h:=f_ (h:=l_ (h:=?_))))
   refine A4 rfl (AK (U0 (BS s w.dir).1 w.name (by have:=hw w.dir;omega) hn) ?_)
   rintro r rfl
   refine f_ (h:=s_ (h:=e_ (w_ (l_ (h:=s_ (h:=e_ (A6 (?_))))))))
   refine AD ?_
   rw[show FD s sl w=⟨w.dir,w.name,w.at_, !w.missing,sl,Co (BS s w.dir).1 w.name⟩ by unfold FD;rw[if_neg hc1,if_neg (by simp[hc2]),if_pos hc3]]
   rfl
  have hc3:=bp hb3
  refine AM (w_ (l_ (h:=s_ (h:=e_ (A6 (?_))))))
  refine AD ?_
  rw[show FD s sl w=⟨w.dir,w.name,w.at_, !w.missing,sl,⟨#[]⟩⟩ by unfold FD;rw[if_neg hc1,if_neg (by simp[hc2]),if_neg (by simp[hc3])]]
  rfl
 have hc2:=bp hb2
 refine AM (q_ (q_ (DV 12 (h:=AN 0 (h:=BC 1 (h:=AJ 2 (h:=AF 3 (h:=AJ 4 (h:=AF 5 (h:=?_))))))))))
 refine c_ 6 rfl (AK (PQ hs w.dir) ?_)
 rintro r rfl
 refine o_ (h:=AN 7 (h:=B1 8 (h:=B1 9 (h:=B6 10 (h:=B6 11 (h:=z_ (h:=t_ (w_ (m_ (h:=e_ (?_)))))))))))
 refine A7 rfl (fun hb4=>?_) (fun hb4=>?_)
 ·have hc4:=bp hb4
  refine AP (m_ (h:=f_ (h:=l_ (h:=?_))))
  refine A4 rfl (AK (U0 (BS s w.dir).1 w.name (by have:=hw w.dir;omega) hn) ?_)
  rintro r rfl
  refine f_ (h:=s_ (h:=e_ (w_ (l_ (h:=s_ (h:=e_ (A6 (?_))))))))
  refine AD ?_
  rw[show FD s sl w=⟨w.dir,w.name,(0,0), !w.missing,sl,Co (BS s w.dir).1 w.name⟩ by unfold FD;rw[if_neg hc1,if_pos (by simp[hc2]),if_pos hc4]]
  rfl
 have hc4:=bp hb4
 refine AM (w_ (l_ (h:=s_ (h:=e_ (A6 (?_))))))
 refine AD ?_
 rw[show FD s sl w=⟨w.dir,w.name,(0,0), !w.missing,sl,⟨#[]⟩⟩ by unfold FD;rw[if_neg hc1,if_pos (by simp[hc2]),if_neg (by simp[hc4])]]
 rfl
end
def NE(s:Spc)(tg:AB)(rest:List AB)(w:Wk):Wk:=⟨CP tg++rest,if Ch tg=true then DK s else w.at_,if Ch tg=true then(0,0)else w.dir,if Ch tg=true then⟨#[]⟩else w.name,w.missing,w.links+1⟩
theorem NF(s:Spc)(fl:Bool)(w:Wk):Am 0 0 (Dd s fl w)=true:=rfl
section
theorem bQ(s:Spc)(fl:Bool)(w:Wk)(tg:AB)(rest:List AB)(hs:SpcB s)(h8:w.links≤8)(htg:tg.size≤60000)(hrl:rest.length≤500000):MB Tryz.prog 136 [.bp 0 0, .v (.string tg), .sl 1 (rest.map CY) none] (Dd s fl w) (fun r row'=>(w.links=8∧r= .v (.int .i64 40)∧row'=Dd s fl w)∨(w.links≠8∧r= .v (.int .i64 0)∧row'=Dd s fl (NE s tg rest w))):=by
 have hpl:=K0 tg
 refine enter Tryz.func136 rfl rfl rfl rfl rfl 1 rfl ?_
 refine w_ (a_ (h:=e_ (q_ (w_ (m_ (h:=k_ (h:=f_ (h:=l_ (h:=AW (h:=e_ (?_)))))))))))
 refine A7 rfl (fun hb1=>?_) (fun hb1=>?_)
 ·have hc1:=bp hb1
  refine w_ (a_ (h:=e_ (A6 (A9 (?_)))))
  refine Aw none (h5:=(LeA.refl _)) (h6:=⟨_,rfl,rfl, .inl ⟨by omega,rfl,rfl⟩⟩)
 have hc1:=bp hb1
 refine AM (w_ (m_ (h:=k_ (h:=f_ (h:=l_ (h:=?_))))))
 refine A4 rfl (Ht rfl rfl (by omega) ?_)
 refine k_ (h:=f_ (h:=s_ (h:=e_ (w_ (m_ (h:=?_))))))
 refine A4 rfl (AK (Tz tg htg) ?_)
 rintro r rfl
 refine m_ (h:=x_ (h:=x_ (h:=x_ (h:=a_ (h:=a_ (h:=a_ (h:=e_ (w_ (m_ (h:=m_ (h:=m_ (h:=n_ (h:=m_ (h:=n_ (h:=?_)))))))))))))))
 refine bF rfl rfl rfl rfl rfl rfl rfl rfl rfl rfl (by simp;omega) ?_
 refine k_ (h:=f_ (h:=s_ (h:=e_ (q_ (w_ (m_ (h:=?_)))))))
 refine A4 rfl (AK (bK tg) ?_)
 rintro r rfl
 refine e_ (?_)
 refine A7 rfl (fun hb2=>?_) (fun hb2=>?_)
 ·have hc2:=bp hb2
  refine AP (m_ (h:=m_ (h:=m_ (h:=m_ (h:=k_ (h:=f_ (h:=l_ (h:=?_))))))))
  refine A4 rfl (AK (U1 s hs) ?_)
  rintro r rfl
  refine AU (h:=k_ (h:=f_ (h:=s_ (h:=k_ (h:=f_ (h:=s_ (h:=k_ (h:=f_ (h:=s_ (h:=e_ (w_ (a_ (h:=e_ (A6 (?_)))))))))))))))
  refine Aw none (h5:=(LeA.refl _)) (h6:=⟨_,rfl,rfl, .inr ⟨by omega,rfl,by simp only[Dd,NE,if_pos hc2,List.map_append];rfl⟩⟩)
 have hc2:=bp hb2
 refine AM (w_ (a_ (h:=e_ (A6 (?_)))))
 refine Aw none (h5:=(LeA.refl _)) (h6:=⟨_,rfl,rfl, .inr ⟨by omega,rfl,by simp only[Dd,NE,hc2,if_neg (show¬false=true by simp),List.map_append];rfl⟩⟩)
theorem bR(s:Spc)(fl:Bool)(w:Wk)(p:AB)(ps:List AB)(hps:w.ps=p::ps)(hs:SpcB s)(hv:SpcV s)(h8:w.links≤8)(hrl:ps.length≤500000):MB Tryz.prog 94 [.bp 0 0] (Dd s fl w) (fun r row'=>(∃e,Dc s fl p ps w= .inl e∧e≠0∧r= .v (.int .i64 e)∧row'=Dd s fl w)∨∃w',Dc s fl p ps w= .inr w'∧r= .v (.int .i64 0)∧row'=Dd s fl w'):=by
 obtain⟨ps0,a,dr,nm,mi,lk⟩:=w
 simp only at hps h8
 subst hps
 have hml:(ps.map CY).length=ps.length:=by simp
 have htg:=LS hv.files (AG s.files a p).1
 refine enter Tryz.func94 rfl rfl rfl rfl rfl 1 rfl ?_
 refine w_ (a_ (h:=e_ (q_ (BM ([(0,Dd s fl ⟨p::ps,a,dr,nm,mi,lk⟩)]) 13 (h:=AN 0 (h:=BC 1 (h:=AJ 2 (h:=AF 3 (h:=?_)))))))))
 refine Bn 4 rfl (fun _ hS=>Ck (n:=0) rfl rfl rfl rfl ⟨rfl,rfl⟩) ?_
 refine AF 5 (h:=AN 6 (h:=BC 7 (h:=AJ 8 (h:=AF 9 (h:=?_)))))
 refine Bn 10 rfl (fun _ hS=>Np (l:=1) rfl rfl rfl (by simp) ⟨rfl,rfl⟩) ?_
 refine B6 11 (h:=B6 12 (h:=z_ (h:=t_ (q_ (w_ (m_ (h:=?_)))))))
 refine A4 rfl (Dy 1 rfl (.cons _ _ _ _ _ rfl (LeA.refl _) .nil) (Pv s fl ⟨p::ps,a,dr,nm,mi,lk⟩ hs) ?_)
 rintro r rfl
 refine⟨rfl,?_⟩
 refine BR (h:=e_ (?_))
 refine A7 rfl (fun hb1=>?_) (fun hb1=>?_)
 ·have hc1:=bp hb1
  refine w_ (a_ (h:=e_ (A6 (A9 (?_)))))
  refine Aw none (h5:=(LeA.refl _)) (h6:=⟨_,rfl,rfl, .inl ⟨20,by unfold Dc;rw[if_pos hc1],by decide,rfl,rfl⟩⟩)
 have hc1:=bp hb1
 refine AM (q_ (w_ (m_ (h:=n_ (h:=CC (h:=e_ (?_)))))))
 refine A7 rfl (fun hb2=>?_) (fun hb2=>?_)
 ·have hc2:=bp hb2
  refine w_ (a_ (h:=e_ (A6 (A9 (?_)))))
  refine Aw none (h5:=(LeA.refl _)) (h6:=⟨_,rfl,rfl, .inl ⟨36,by unfold Dc;rw[if_neg (by simp[hc1]),if_pos (by omega)],by decide,rfl,rfl⟩⟩)
 have hc2:=bp hb2
 refine AM (q_ (w_ (m_ (h:=e_ (Al (q_ (Al (q_ (Al (q_ (q_ (w_ (AW (h:=a_ (h:=e_ (?_))))))))))))))))
 refine A7 rfl (fun hb3=>?_) (fun hb3=>?_)
 ·have hc3:=bp hb3
  refine BK (Aj (Aj (BL (t_ (?_)))))
  refine JW (fun h=>∃x y,h.bx=[[.sl 2 (s.files.map BX) none, .sl 3 (s.mounts.map Cm) none, .sl 1 ((p::ps).map CY) none,x,y, .v (.int .i64 dr.1), .v (.int .i64 dr.2), .v (.string nm), .v (.bool mi), .v (.bool fl), .v (.int .i64 (lk:Int))]]) 18 (by kernel_rfl) ?_
  refine By (i:=0) rfl rfl (by kernel_rfl) (by first|rfl|exact AZ rfl rfl (Be ‹_›)|exact AZ rfl rfl (Bf ‹_›)|exact AZ rfl rfl (by simp[*])) (fun h0 hS=>EL rfl ⟨rfl,rfl⟩) ⟨_,_,rfl⟩ ?_
  refine By (i:=1) rfl rfl (by kernel_rfl) (by first|rfl|exact AZ rfl rfl (Be ‹_›)|exact AZ rfl rfl (Bf ‹_›)|exact AZ rfl rfl (by simp[*])) (fun h0 hS=>EL rfl ⟨rfl,rfl⟩) ⟨_,_,rfl⟩ ?_
  refine By (i:=2) rfl rfl (by kernel_rfl) (by first|rfl|exact AZ rfl rfl (Be ‹_›)|exact AZ rfl rfl (Bf ‹_›)|exact AZ rfl rfl (by simp[*])) (fun h0 hS=>G0 rfl ⟨rfl,rfl⟩) ⟨_,_,rfl⟩ ?_
  refine By (i:=3) rfl rfl (by kernel_rfl) (by first|rfl|exact AZ rfl rfl (Be ‹_›)|exact AZ rfl rfl (Bf ‹_›)|exact AZ rfl rfl (by simp[*])) (fun h0 hS=>E9 rfl ⟨rfl,rfl⟩) ⟨_,_,rfl⟩ ?_
  refine By (i:=4) rfl rfl (by kernel_rfl) (by first|rfl|exact AZ rfl rfl (Be ‹_›)|exact AZ rfl rfl (Bf ‹_›)|exact AZ rfl rfl (by simp[*])) (fun h0 hS=>by obtain⟨x,y,e⟩:=hS;exact FM (row:=[.sl 2 (s.files.map BX) none, .sl 3 (s.mounts.map Cm) none, .sl 1 ((p::ps).map CY) none,x,y, .v (.int .i64 dr.1), .v (.int .i64 dr.2), .v (.string nm), .v (.bool mi), .v (.bool fl), .v (.int .i64 (lk:Int))]) rfl (by rw[e];rfl) rfl (show _=AV.agg (Ap s)∧_ from⟨rfl,rfl⟩)) ⟨_,_,rfl⟩ ?_
  refine By (i:=5) rfl rfl (by kernel_rfl) (by first|rfl|exact AZ rfl rfl (Be ‹_›)|exact AZ rfl rfl (Bf ‹_›)|exact AZ rfl rfl (by simp[*])) (fun h0 hS=>EL rfl ⟨rfl,rfl⟩) ⟨_,_,rfl⟩ ?_
  refine By (i:=6) rfl rfl (by kernel_rfl) (by first|rfl|exact AZ rfl rfl (Be ‹_›)|exact AZ rfl rfl (Bf ‹_›)|exact AZ rfl rfl (by simp[*])) (fun h0 hS=>G0 rfl ⟨rfl,rfl⟩) ⟨_,_,rfl⟩ ?_
  refine By (i:=7) rfl rfl (by kernel_rfl) (by first|rfl|exact AZ rfl rfl (Be ‹_›)|exact AZ rfl rfl (Bf ‹_›)|exact AZ rfl rfl (by simp[*])) (fun h0 hS=>E9 rfl ⟨rfl,rfl⟩) ⟨_,_,rfl⟩ ?_
  refine By (i:=8) rfl rfl (by kernel_rfl) (by first|rfl|exact AZ rfl rfl (Be ‹_›)|exact AZ rfl rfl (Bf ‹_›)|exact AZ rfl rfl (by simp[*])) (fun h0 hS=>by obtain⟨x,y,e⟩:=hS;exact FM (row:=[.sl 2 (s.files.map BX) none, .sl 3 (s.mounts.map Cm) none, .sl 1 ((p::ps).map CY) none,x,y, .v (.int .i64 dr.1), .v (.int .i64 dr.2), .v (.string nm), .v (.bool mi), .v (.bool fl), .v (.int .i64 (lk:Int))]) rfl (by rw[e];rfl) rfl (show _=AV.agg (Ap s)∧_ from⟨rfl,rfl⟩)) ⟨_,_,rfl⟩ ?_
  refine By (i:=9) rfl rfl (by kernel_rfl) (by first|rfl|exact AZ rfl rfl (Be ‹_›)|exact AZ rfl rfl (Bf ‹_›)|exact AZ rfl rfl (by simp[*])) (fun h0 hS=>EL rfl ⟨rfl,rfl⟩) ⟨_,_,rfl⟩ ?_
  refine By (i:=10) rfl rfl (by kernel_rfl) (by first|rfl|exact AZ rfl rfl (Be ‹_›)|exact AZ rfl rfl (Bf ‹_›)|exact AZ rfl rfl (by simp[*])) (fun h0 hS=>G0 rfl ⟨rfl,rfl⟩) ⟨_,_,rfl⟩ ?_
  refine By (i:=11) rfl rfl (by kernel_rfl) (by first|rfl|exact AZ rfl rfl (Be ‹_›)|exact AZ rfl rfl (Bf ‹_›)|exact AZ rfl rfl (by simp[*])) (fun h0 hS=>E9 rfl ⟨rfl,rfl⟩) ⟨_,_,rfl⟩ ?_
  first|refine c_ 12 rfl (Ca rfl rfl rfl ?_)|refine c_ 12 rfl (G4 rfl rfl rfl ?_)|refine c_ 12 rfl (Hs rfl rfl ?_)|refine c_ 12 rfl (KS rfl rfl ?_)|refine c_ 12 rfl (FM rfl rfl rfl ?_)
  refine⟨.inr ⟨_,_,rfl⟩,?_⟩
  refine c_ 13 rfl (AK (Yn hs hv a) ?_)
  rintro r rfl
  refine⟨.inr ⟨_,_,rfl⟩,?_⟩
  refine c_ 14 rfl (AK (ON s (D8 s (s.mounts.length+1) a) hs) ?_)
  rintro r rfl
  refine⟨.inr ⟨_,_,rfl⟩,?_⟩
  refine By (i:=15) rfl rfl (by kernel_rfl) (by first|rfl|exact AZ rfl rfl (Be ‹_›)|exact AZ rfl rfl (Bf ‹_›)|exact AZ rfl rfl (by simp[*])) (fun h0 hS=>G0 rfl ⟨rfl,rfl⟩) ⟨_,_,rfl⟩ ?_
  refine By (i:=16) rfl rfl (by kernel_rfl) (by first|rfl|exact AZ rfl rfl (Be ‹_›)|exact AZ rfl rfl (Bf ‹_›)|exact AZ rfl rfl (by simp[*])) (fun h0 hS=>E9 rfl ⟨rfl,rfl⟩) ⟨_,_,rfl⟩ ?_
  refine Az 17 rfl (Av rfl rfl rfl rfl rfl rfl (by repeat constructor) (by repeat constructor) ?_)
  refine⟨.inr ⟨_,_,rfl⟩,?_⟩
  refine z_ (h:=Ay (t_ (q_ (w_ (m_ (h:=m_ (h:=m_ (h:=m_ (h:=AU (h:=k_ (h:=f_ (h:=s_ (h:=k_ (h:=f_ (h:=s_ (h:=k_ (h:=f_ (h:=s_ (h:=e_ (w_ (a_ (h:=e_ (A6 (?_))))))))))))))))))))))))
  refine A9 (Ag (A9 (?_)))
  refine Aw none (h5:=(LeA.refl _)) (h6:=⟨_,rfl,rfl, .inr ⟨⟨ps,CS s s.mounts.length (D8 s (s.mounts.length+1) a),(0,0),⟨#[]⟩,mi,lk⟩,by unfold Dc;rw[if_neg (by simp[hc1]),if_neg (by omega),if_pos hc3],rfl,rfl⟩⟩)
 have hc3:=bp hb3
 refine AM (w_ (AW (h:=a_ (h:=e_ (?_)))))
 refine A7 rfl (fun hb4=>?_) (fun hb4=>?_)
 ·have hc4:=bp hb4
  refine BK (Aj (KP rfl (Aj (BL (t_ (q_ (w_ (m_ (h:=m_ (h:=m_ (h:=m_ (h:=AU (h:=k_ (h:=f_ (h:=s_ (h:=k_ (h:=f_ (h:=s_ (h:=k_ (h:=f_ (h:=s_ (h:=e_ (w_ (?_))))))))))))))))))))))))
  refine a_ (h:=e_ (A6 (A9 (Ag (A9 (?_))))))
  refine Aw none (h5:=(LeA.refl _)) (h6:=⟨_,rfl,rfl, .inr ⟨⟨ps,a,(0,0),⟨#[]⟩,mi,lk⟩,by unfold Dc;rw[if_neg (by simp[hc1]),if_neg (by omega),if_neg hc3,if_pos hc4],rfl,rfl⟩⟩)
 have hc4:=bp hb4
 refine AM (BK (KP rfl (Aj (KP rfl (Aj (BL (t_ (q_ (w_ (m_ (h:=?_)))))))))))
 refine A4 rfl (AK (Zq p) ?_)
 rintro r rfl
 refine BR (h:=e_ (?_))
 refine A7 rfl (fun hb5=>?_) (fun hb5=>?_)
 ·have hc5:=bp hb5
  refine w_ (a_ (h:=e_ (A6 (A9 (?_)))))
  refine Aw none (h5:=(LeA.refl _)) (h6:=⟨_,rfl,rfl, .inl ⟨2,by unfold Dc;rw[if_neg (by simp[hc1]),if_neg (by omega),if_neg hc3,if_neg hc4,if_pos hc5],by decide,rfl,rfl⟩⟩)
 have hc5:=bp hb5
 refine AM (?_)
 refine Gu (⟨look [(0, .bp 0 0),(3, .v (.string p)),(4, .sl 1 (ps.map CY) none),(5, .bp 1 0),(6, .v (.int .i64 (AG s.files a p).2))],⟨[Dd s fl ⟨p::ps,a,dr,nm,mi,lk⟩,AA (AG s.files a p).1],[]⟩⟩) ?_ ?_
 ·skip
  refine BM ([(0,Dd s fl ⟨p::ps,a,dr,nm,mi,lk⟩)]) 17 (h:=AN 0 (h:=BC 1 (h:=AJ 2 (h:=AJ 3 (h:=AF 4 (h:=AN 5 (h:=BC 6 (h:=AJ 7 (h:=AF 8 (h:=AN 9 (h:=?_)))))))))))
  refine Dg 10 14 rfl rfl ?_ ?_
  ·refine AK (Pu s.files a p hs.files) ?_
   rintro r rfl
   refine o_ (h:=?_)
   refine AN 11 (h:=B1 12 (h:=B1 13 (h:=?_)))
   refine c_ 14 rfl (Bz (by repeat constructor) ?_)
   refine o_ (h:=?_)
   refine Az 15 rfl (Av rfl rfl rfl rfl rfl rfl (by repeat constructor) (by repeat constructor) ?_)
   refine o_ (h:=B6 16 (h:=z_ (h:=?_)))
   refine AE ?_
   first|(exfalso;first|contradiction|omega)|exact As 2 0 rfl rfl rfl rfl (by repeat (first|exact Sub.nil|refine Sub.cons _ _ _ rfl rfl ?_|refine Sub.any _ _ ?_|refine Sub.sl _ _ _ _ _ rfl ?_|refine Sub.slnil _ _ _ rfl ?_|(apply Sub.of;(focus exact rfl);(focus exact LeA.of_eq (vb (by rfl)));(focus exact rfl))))
  refine Bz (by repeat constructor) ?_
  refine o_ (h:=?_)
  refine c_ 10 rfl (AK (Pu s.files a p hs.files) ?_)
  rintro r rfl
  refine o_ (h:=AN 11 (h:=B1 12 (h:=B1 13 (h:=?_))))
  refine Az 15 rfl (Av rfl rfl rfl rfl rfl rfl (by repeat constructor) (by repeat constructor) ?_)
  refine o_ (h:=B6 16 (h:=z_ (h:=?_)))
  refine AE ?_
  first|(exfalso;first|contradiction|omega)|exact As 2 0 rfl rfl rfl rfl (by repeat (first|exact Sub.nil|refine Sub.cons _ _ _ rfl rfl ?_|refine Sub.any _ _ ?_|refine Sub.sl _ _ _ _ _ rfl ?_|refine Sub.slnil _ _ _ rfl ?_|(apply Sub.of;(focus exact rfl);(focus exact LeA.of_eq (vb (by rfl)));(focus exact rfl))))
 skip
 refine q_ (w_ (m_ (h:=BN (h:=e_ (?_)))))
 refine A7 rfl (fun hb6=>?_) (fun hb6=>?_)
 ·have hc6:=bp hb6
  refine q_ (w_ (m_ (h:=n_ (h:=CC (h:=e_ (?_))))))
  refine A7 rfl (fun hb7=>?_) (fun hb7=>?_)
  ·have hc7:=bp hb7
   have hps:ps≠[]:=fun e=>by rw[e]at hml hc7;simp at hc7
   refine w_ (a_ (h:=e_ (A6 (A9 (A9 (?_))))))
   refine Aw none (h5:=(LeA.refl _)) (h6:=⟨_,rfl,rfl, .inl ⟨2,by unfold Dc;rw[if_neg (by simp[hc1]),if_neg (by omega),if_neg hc3,if_neg hc4,if_neg (by simp[hc5]),if_pos hc6,if_pos hps],by decide,rfl,rfl⟩⟩)
  have hc7:=bp hb7
  have hps:¬ps≠[]:=fun e=>e (List.eq_nil_of_length_eq_zero (by omega))
  refine AM (w_ (m_ (h:=m_ (h:=m_ (h:=m_ (h:=m_ (h:=m_ (h:=k_ (h:=f_ (h:=l_ (h:=m_ (h:=k_ (h:=f_ (h:=s_ (h:=k_ (h:=f_ (h:=s_ (h:=k_ (h:=f_ (h:=s_ (h:=k_ (h:=f_ (h:=s_ (h:=?_))))))))))))))))))))))))
  refine e_ (w_ (a_ (h:=e_ (A6 (A9 (?_))))))
  refine Aw none (h5:=(LeA.refl _)) (h6:=⟨_,rfl,rfl, .inr ⟨⟨ps,a,a,p,true,lk⟩,by unfold Dc;rw[if_neg (by simp[hc1]),if_neg (by omega),if_neg hc3,if_neg hc4,if_neg (by simp[hc5]),if_pos hc6,if_neg hps],rfl,rfl⟩⟩)
 have hc6:=bp hb6
 refine AM (?_)
 refine Gu (⟨look [(0, .bp 0 0),(3, .v (.string p)),(4, .sl 1 (ps.map CY) none),(5, .bp 1 0),(7, .bp 2 0)],⟨[Dd s fl ⟨p::ps,a,dr,nm,mi,lk⟩,AA (AG s.files a p).1,Aa (AT s.files (AG s.files a p).1)],[]⟩⟩) ?_ ?_
 ·skip
  refine BM ([(0,Dd s fl ⟨p::ps,a,dr,nm,mi,lk⟩),(1,AA (AG s.files a p).1)]) 13 (h:=AN 0 (h:=BC 1 (h:=AJ 2 (h:=AJ 3 (h:=AF 4 (h:=AF 5 (h:=?_)))))))
  refine Dg 6 10 rfl rfl ?_ ?_
  ·refine AK (G9 s.files (AG s.files a p).1 hs.files) ?_
   rintro r rfl
   refine o_ (h:=?_)
   refine AN 7 (h:=B1 8 (h:=B1 9 (h:=?_)))
   refine c_ 10 rfl (Bz (by repeat constructor) ?_)
   refine o_ (h:=?_)
   refine Az 11 rfl (Av rfl rfl rfl rfl rfl rfl (by repeat constructor) (by repeat constructor) ?_)
   refine o_ (h:=B6 12 (h:=z_ (h:=?_)))
   refine AE ?_
   first|(exfalso;first|contradiction|omega)|exact As 3 0 rfl rfl rfl rfl (by repeat (first|exact Sub.nil|refine Sub.cons _ _ _ rfl rfl ?_|refine Sub.any _ _ ?_|refine Sub.sl _ _ _ _ _ rfl ?_|refine Sub.slnil _ _ _ rfl ?_|(apply Sub.of;(focus exact rfl);(focus exact LeA.of_eq (vb (by rfl)));(focus exact rfl))))
  refine Bz (by repeat constructor) ?_
  refine o_ (h:=?_)
  refine c_ 6 rfl (AK (G9 s.files (AG s.files a p).1 hs.files) ?_)
  rintro r rfl
  refine o_ (h:=AN 7 (h:=B1 8 (h:=B1 9 (h:=?_))))
  refine Az 11 rfl (Av rfl rfl rfl rfl rfl rfl (by repeat constructor) (by repeat constructor) ?_)
  refine o_ (h:=B6 12 (h:=z_ (h:=?_)))
  refine AE ?_
  first|(exfalso;first|contradiction|omega)|exact As 3 0 rfl rfl rfl rfl (by repeat (first|exact Sub.nil|refine Sub.cons _ _ _ rfl rfl ?_|refine Sub.any _ _ ?_|refine Sub.sl _ _ _ _ _ rfl ?_|refine Sub.slnil _ _ _ rfl ?_|(apply Sub.of;(focus exact rfl);(focus exact LeA.of_eq (vb (by rfl)));(focus exact rfl))))
 skip
 refine q_ (?_)
 refine Gu (⟨look [(0, .bp 0 0),(3, .v (.string p)),(4, .sl 1 (ps.map CY) none),(5, .bp 1 0),(7, .bp 2 0),(122, .v (.bool (decide ((AT s.files (AG s.files a p).1).kind=3)&&(decide (0<((ps.map CY).length:Int))||fl))))],⟨[Dd s fl ⟨p::ps,a,dr,nm,mi,lk⟩,AA (AG s.files a p).1,Aa (AT s.files (AG s.files a p).1)],[]⟩⟩) ?_ ?_
 ·skip
  refine AP (f_ (h:=l_ (h:=AW (h:=m_ (h:=?_)))))
  refine Ar true rfl rfl (fun hb8=>?_) (fun hb8=>?_)
  ·have hc8:=bp hb8
   refine m_ (h:=n_ (h:=CC (h:=m_ (h:=?_))))
   refine Ar false rfl rfl (fun hb9=>?_) (fun hb9=>?_)
   ·have hc9:=bp hb9
    refine A3 (h:=A3 (h:=A3 (h:=A3 (h:=AX (h:=AX (h:=AO (?_)))))))
    refine AE ?_
    first|(exfalso;first|contradiction|omega)|exact As 3 0 rfl rfl rfl rfl (by repeat (first|exact Sub.nil|refine Sub.cons _ _ _ rfl rfl ?_|refine Sub.any _ _ ?_|refine Sub.sl _ _ _ _ _ rfl ?_|refine Sub.slnil _ _ _ rfl ?_|(apply Sub.of;(focus exact rfl);(focus exact LeA.of_eq (vb (by first|(rw[hb8];rfl)|(rw[hb8,hb9];rfl))));(focus exact rfl))))
   have hc9:=bp hb9
   refine m_ (h:=k_ (h:=f_ (h:=l_ (h:=Af (h:=AX (h:=AO (?_)))))))
   refine AE ?_
   first|(exfalso;first|contradiction|omega)|exact As 3 0 rfl rfl rfl rfl (by repeat (first|exact Sub.nil|refine Sub.cons _ _ _ rfl rfl ?_|refine Sub.any _ _ ?_|refine Sub.sl _ _ _ _ _ rfl ?_|refine Sub.slnil _ _ _ rfl ?_|(apply Sub.of;(focus exact rfl);(focus exact LeA.of_eq (vb (by first|(rw[hb8];rfl)|(rw[hb8,hb9];rfl))));(focus exact rfl))))
  have hc8:=bp hb8
  refine A3 (h:=A3 (h:=A3 (h:=A3 (h:=EO (h:=EO (h:=EO (h:=EO (h:=A3 (h:=Af (h:=AO (?_)))))))))))
  refine AE ?_
  first|(exfalso;first|contradiction|omega)|exact As 3 0 rfl rfl rfl rfl (by repeat (first|exact Sub.nil|refine Sub.cons _ _ _ rfl rfl ?_|refine Sub.any _ _ ?_|refine Sub.sl _ _ _ _ _ rfl ?_|refine Sub.slnil _ _ _ rfl ?_|(apply Sub.of;(focus exact rfl);(focus exact LeA.of_eq (vb (by first|(rw[hb8];rfl)|(rw[hb8,hb9];rfl))));(focus exact rfl))))
 skip
 refine A7 rfl (fun hb10=>?_) (fun hb10=>?_)
 ·have hc10:=bp hb10
  have hlk:(AT s.files (AG s.files a p).1).kind=3∧(ps≠[]∨fl=true):=by
   simp only[Bool.and_eq_true,Bool.or_eq_true,decide_eq_true_eq]at hc10
   exact⟨hc10.1,hc10.2.imp (fun h e=>by rw[e]at h;simp at h) id⟩
  refine w_ (m_ (h:=f_ (h:=l_ (h:=m_ (h:=?_)))))
  refine A4 rfl (Ny 0 rfl (by repeat (first|exact ArgsB.nil|refine ArgsB.cons _ _ _ _ _ rfl rfl ?_)) rfl rfl (bQ s fl ⟨p::ps,a,dr,nm,mi,lk⟩ (AT s.files (AG s.files a p).1).target ps hs h8 (by omega) hrl) ?_)
  rintro r row2 (⟨h9,rfl,rfl⟩|⟨h9,rfl,rfl⟩)
  ·refine⟨NF _ _ _,rfl,_,(by repeat constructor),?_⟩
   refine a_ (h:=e_ (A6 (A9 (?_))))
   refine Aw none (h5:=(LeA.refl _)) (h6:=⟨_,rfl,rfl, .inl ⟨40,by unfold Dc;rw[if_neg (by simp[hc1]),if_neg (by omega),if_neg hc3,if_neg hc4,if_neg (by simp[hc5]),if_neg (by simp[hc6]),if_pos hlk,if_pos h9],by decide,rfl,rfl⟩⟩)
  refine⟨NF _ _ _,rfl,_,(by repeat constructor),?_⟩
  refine a_ (h:=e_ (A6 (A9 (?_))))
  refine Aw none (h5:=(LeA.refl _)) (h6:=⟨_,rfl,rfl, .inr ⟨NE s (AT s.files (AG s.files a p).1).target ps ⟨p::ps,a,dr,nm,mi,lk⟩,by unfold Dc;rw[if_neg (by simp[hc1]),if_neg (by omega),if_neg hc3,if_neg hc4,if_neg (by simp[hc5]),if_neg (by simp[hc6]),if_pos hlk,if_neg h9];rfl,rfl,rfl⟩⟩)
 have hc10:=bp hb10
 have hlk:¬((AT s.files (AG s.files a p).1).kind=3∧(ps≠[]∨fl=true)):=fun h=>by
  rw[decide_eq_true h.1,Bool.true_and,Bool.or_eq_false_iff]at hc10
  rcases h.2 with e|e
  ·exact e (List.eq_nil_of_length_eq_zero (by have:=of_decide_eq_false hc10.1;omega))
  rw[hc10.2]at e;cases e
 refine AM (w_ (m_ (h:=m_ (h:=m_ (h:=m_ (h:=m_ (h:=k_ (h:=f_ (h:=l_ (h:=m_ (h:=k_ (h:=f_ (h:=s_ (h:=k_ (h:=f_ (h:=s_ (h:=k_ (h:=f_ (h:=s_ (h:=e_ (q_ (?_))))))))))))))))))))))
 refine JW (fun h=>∃x y r,h.bx=[[.sl 2 (s.files.map BX) none, .sl 3 (s.mounts.map Cm) none, .sl 1 (ps.map CY) none,x,y, .v (.int .i64 a.1), .v (.int .i64 a.2), .v (.string p), .v (.bool mi), .v (.bool fl), .v (.int .i64 (lk:Int))],AA (AG s.files a p).1]++r) 10 (by kernel_rfl) ?_
 refine By (i:=0) rfl rfl (by kernel_rfl) (by first|rfl|exact AZ rfl rfl (Be ‹_›)|exact AZ rfl rfl (Bf ‹_›)|exact AZ rfl rfl (by simp[*])) (fun h0 hS=>EL rfl ⟨rfl,rfl⟩) ⟨_,_,_,rfl⟩ ?_
 refine By (i:=1) rfl rfl (by kernel_rfl) (by first|rfl|exact AZ rfl rfl (Be ‹_›)|exact AZ rfl rfl (Bf ‹_›)|exact AZ rfl rfl (by simp[*])) (fun h0 hS=>EL rfl ⟨rfl,rfl⟩) ⟨_,_,_,rfl⟩ ?_
 refine By (i:=2) rfl rfl (by kernel_rfl) (by first|rfl|exact AZ rfl rfl (Be ‹_›)|exact AZ rfl rfl (Bf ‹_›)|exact AZ rfl rfl (by simp[*])) (fun h0 hS=>G0 rfl ⟨rfl,rfl⟩) ⟨_,_,_,rfl⟩ ?_
 refine By (i:=3) rfl rfl (by kernel_rfl) (by first|rfl|exact AZ rfl rfl (Be ‹_›)|exact AZ rfl rfl (Bf ‹_›)|exact AZ rfl rfl (by simp[*])) (fun h0 hS=>E9 rfl ⟨rfl,rfl⟩) ⟨_,_,_,rfl⟩ ?_
 refine By (i:=4) rfl rfl (by kernel_rfl) (by first|rfl|exact AZ rfl rfl (Be ‹_›)|exact AZ rfl rfl (Bf ‹_›)|exact AZ rfl rfl (by simp[*])) (fun h0 hS=>by obtain⟨x,y,r,e⟩:=hS;exact FM (row:=[.sl 2 (s.files.map BX) none, .sl 3 (s.mounts.map Cm) none, .sl 1 (ps.map CY) none,x,y, .v (.int .i64 a.1), .v (.int .i64 a.2), .v (.string p), .v (.bool mi), .v (.bool fl), .v (.int .i64 (lk:Int))]) rfl (by rw[e];rfl) rfl (show _=AV.agg (Ap s)∧_ from⟨rfl,rfl⟩)) ⟨_,_,_,rfl⟩ ?_
 first|refine By (i:=5) rfl rfl (by kernel_rfl) (by first|rfl|exact AZ rfl rfl (Be ‹_›)|exact AZ rfl rfl (Bf ‹_›)|exact AZ rfl rfl (by simp[*])) (fun h0 hS=>by obtain⟨x,y,r,e⟩:=hS;exact FM (row:=[.sl 2 (s.files.map BX) none, .sl 3 (s.mounts.map Cm) none, .sl 1 (ps.map CY) none,x,y, .v (.int .i64 a.1), .v (.int .i64 a.2), .v (.string p), .v (.bool mi), .v (.bool fl), .v (.int .i64 (lk:Int))]) rfl (by rw[e];rfl) rfl (show _=AV.agg (Ap s)∧_ from⟨rfl,rfl⟩)) ⟨_,_,_,rfl⟩ ?_|refine By (i:=5) rfl rfl (by kernel_rfl) (by first|rfl|exact AZ rfl rfl (Be ‹_›)|exact AZ rfl rfl (Bf ‹_›)|exact AZ rfl rfl (by simp[*])) (fun h0 hS=>by obtain⟨x,y,r,e⟩:=hS;exact G4 (row:=AA (AG s.files a p).1) rfl (by rw[e];rfl) rfl ⟨rfl,rfl⟩) ⟨_,_,_,rfl⟩ ?_
 refine c_ 6 rfl (AK (ON s (AG s.files a p).1 hs) ?_)
 rintro r rfl
 refine⟨.inr ⟨_,_,_,rfl⟩,?_⟩
 refine By (i:=7) rfl rfl (by kernel_rfl) (by first|rfl|exact AZ rfl rfl (Be ‹_›)|exact AZ rfl rfl (Bf ‹_›)|exact AZ rfl rfl (by simp[*])) (fun h0 hS=>G0 rfl ⟨rfl,rfl⟩) ⟨_,_,_,rfl⟩ ?_
 refine By (i:=8) rfl rfl (by kernel_rfl) (by first|rfl|exact AZ rfl rfl (Be ‹_›)|exact AZ rfl rfl (Bf ‹_›)|exact AZ rfl rfl (by simp[*])) (fun h0 hS=>E9 rfl ⟨rfl,rfl⟩) ⟨_,_,_,rfl⟩ ?_
 refine Az 9 rfl (Av rfl rfl rfl rfl rfl rfl (by repeat constructor) (by repeat constructor) ?_)
 refine⟨.inr ⟨_,_,_,rfl⟩,?_⟩
 refine z_ (h:=t_ (w_ (a_ (h:=e_ (A6 (?_))))))
 refine Aw none (h5:=(LeA.refl _)) (h6:=⟨_,rfl,rfl, .inr ⟨⟨ps,CS s s.mounts.length (AG s.files a p).1,a,p,mi,lk⟩,by unfold Dc;rw[if_neg (by simp[hc1]),if_neg (by omega),if_neg hc3,if_neg hc4,if_neg (by simp[hc5]),if_neg (by simp[hc6]),if_neg hlk],rfl,rfl⟩⟩)
end
theorem bS{s:Spc}(hv:SpcV s):Ai s.files (DK s)=true:=(Pc ((Ts hv _).1 (Zw hv (Zt hv (TJ hv (Int.le_refl 0) (by have:=hv.pos;omega))))).1.1).1
theorem bT{s:Spc}(fl:Bool){p:AB}{ps:List AB}{w w':Wk}(hn:w.name.size≤12)(h:Dc s fl p ps w= .inr w'):w'.name.size≤12:=by
 unfold Dc at h
 split at h
 ·cases h
 split at h
 ·cases h
 rename_i h2
 split at h
 ·injection h with h;subst h;exact Nat.zero_le _
 split at h
 ·injection h with h;subst h;exact Nat.zero_le _
 split at h
 ·cases h
 split at h
 ·split at h
  ·cases h
  injection h with h;subst h;exact Nat.le_of_not_lt h2
 split at h
 ·split at h
  ·cases h
  injection h with h;subst h
  show ByteArray.size (if _ then _ else _)≤12
  split
  ·exact Nat.zero_le _
  exact hn
 injection h with h;subst h;exact Nat.le_of_not_lt h2
theorem Pw{s:Spc}(hv:FlsV s.files)(fl:Bool){p:AB}{ps:List AB}{w w':Wk}(hl:w.links≤8)(h:Dc s fl p ps w= .inr w'):w'.links≤8∧(8 - w'.links) * 200+w'.ps.length<(8 - w.links) * 200+(ps.length+1):=by
 unfold Dc at h
 split at h
 ·cases h
 split at h
 ·cases h
 split at h
 ·injection h with h;subst h;exact⟨hl,by simp only;omega⟩
 split at h
 ·injection h with h;subst h;exact⟨hl,by simp only;omega⟩
 split at h
 ·cases h
 split at h
 ·split at h
  ·cases h
  injection h with h;subst h;exact⟨hl,by simp only;omega⟩
 split at h
 ·split at h
  ·cases h
  rename_i h9
  injection h with h;subst h
  have ht:=LS hv (AG s.files w.at_ p).1
  have hs:=K0 (AT s.files (AG s.files w.at_ p).1).target
  refine⟨by simp only;omega,?_⟩
  simp only[List.length_append]
  have:(8 - w.links) * 200=(8 - (w.links+1)) * 200+200:=by
   rw[show 8 - w.links=(8 - (w.links+1))+1 by omega,Nat.add_mul]
  omega
 injection h with h;subst h;exact⟨hl,by simp only;omega⟩
theorem U2{s:Spc}{start:A8}{p:AB}{fl:Bool}(h1:¬p=⟨#[]⟩)(h2:128<p.size):BU s start p fl=(Cx,36):=by unfold BU;rw[if_neg h1,if_pos h2]
section
variable {s:Spc}{start a:A8}{p:AB}{fl:Bool}(h1:¬p=⟨#[]⟩)(h2:¬128<p.size)(ha:(if Ch p=true then DK s else start)=a)
include h1 h2 ha
theorem U3(hd:Ai s.files a=false):BU s start p fl=(Cx,2):=by
 unfold BU
 rw[if_neg h1,if_neg h2,ha,if_pos hd]
variable (hd:Ai s.files a=true)
include hd
theorem K8{e:Int}{τ:Lk}(h:DL s (fl||B3 p) (FB (CP p) a)=(e,τ))(he:e≠0):BU s start p fl=(Cx,e):=by
 unfold BU
 rw[if_neg h1,if_neg h2,ha,if_neg (by simp[hd]),h,if_pos he]
theorem U4{τ:Lk}(h:DL s (fl||B3 p) (FB (CP p) a)=(0,τ))(hs:B3 p=true∧τ.ex=true∧Ai s.files τ.file=false):BU s start p fl=(Cx,20):=by
 unfold BU
 rw[if_neg h1,if_neg h2,ha,if_neg (by simp[hd]),h,if_neg (by simp),if_pos hs]
theorem NG{τ:Lk}(h:DL s (fl||B3 p) (FB (CP p) a)=(0,τ))(hs:¬(B3 p=true∧τ.ex=true∧Ai s.files τ.file=false)):BU s start p fl=(Fu s (B3 p) τ,0):=by
 unfold BU
 rw[if_neg h1,if_neg h2,ha,if_neg (by simp[hd]),h,if_neg (by simp),if_neg hs]
end
theorem bU(ps:List AB)(a d:A8)(hd:ps=[]→True):Sim ⟨ps,a,d,⟨#[]⟩,false,0⟩ (FB ps a):=by
 have _:=hd
 exact⟨rfl,rfl,rfl,fun _=>rfl,fun h=>(by cases h),fun _ _=>⟨fun _=>⟨rfl,rfl⟩,fun h=>absurd rfl h⟩⟩
def NH(s:Spc)(F:Bool)(σ0:Lk)(w:Wk):Prop:=w.links≤8∧w.name.size≤12∧∃σ,Sim w σ∧DL s F σ=DL s F σ0
theorem U5{s:Spc}(hv:SpcV s){F:Bool}{σ0:Lk}{w:Wk}{p:AB}{ps:List AB}(hps:w.ps=p::ps)(h:NH s F σ0 w):(∀e,Dc s F p ps w= .inl e→DL s F σ0=(e,N7))∧∀w',Dc s F p ps w= .inr w'→NH s F σ0 w':=by
 obtain⟨h8,hn,σ,hS,hT⟩:=h
 have hm:w.missing=false:=by
  cases hm:w.missing with
  |false=>rfl
  |true=>have:=(hS.gone hm).2.1;rw[hps]at this;cases this
 have h8σ:σ.links≤8:=by rw[←hS.links];exact h8
 have hc:=TM hv.files (fl:=F) h8σ (hS.ps.symm.trans hps)
 rcases aF hv F (p:=p) (ps:=ps) hS hm with⟨e,q1,q2⟩|⟨w1,τ,q1,q2,q3⟩
 ·refine⟨fun e' he=>?_,fun w' hw=>by rw[q1]at hw;cases hw⟩
  rw[q1]at he
  injection he with he
  subst he
  rw[←hT,hc,q2]
 refine⟨fun e' he=>by(rw[q1]at he;cases he),fun w' hw=>?_⟩
 have k1:=Pw hv.files F h8 hw
 have k2:=bT F hn hw
 rw[q1]at hw
 injection hw with hw
 subst hw
 refine⟨k1.1,k2,τ,q3,?_⟩
 rw[←hT,hc,q2]
theorem bV{s:Spc}(hv:SpcV s){F:Bool}{σ0:Lk}{w:Wk}(hps:w.ps=[])(h:NH s F σ0 w):∃σ,DL s F σ0=(0,σ)∧σ.ex= !w.missing∧(w.missing=false→σ.file=w.at_)∧∀sl,FD s sl w=Fu s sl σ:=by
 obtain⟨h8,hn,σ,hS,hT⟩:=h
 exact⟨σ,by rw[←hT];exact Pg (hS.ps.symm.trans hps),hS.ex,fun hm=>(hS.here hm).symm,fun sl=>aG hv hS hps⟩
section
theorem bW(s:Spc)(start:A8)(p:AB)(fl:Bool)(hs:SpcN s)(hv:SpcV s)(hp:p.size≤1000000):AFn Tryz.prog 52 [.agg (Ap s), .agg (AA start), .v (.string p), .v (.bool fl)] (fun r=>r= .tup [.agg (Au (BU s start p fl).1), .v (.int .i64 (BU s start p fl).2)]):=by
 have hw:=PW hv
 have hri:=bS hv
 refine enter Tryz.func52 rfl rfl rfl rfl rfl 0 rfl ?_
 refine w_ (b_ (h:=b_ (h:=AY (h:=a_ (h:=e_ (q_ (Al (w_ (m_ (h:=AW (h:=a_ (h:=e_ (?_)))))))))))))
 refine A7 rfl (fun hb1=>?_) (fun hb1=>?_)
 ·have hc1:=bp hb1
  refine w_ (AU (h:=s_ (h:=a_ (h:=e_ (A6 (Ag (A9 (?_))))))))
  refine AD ?_
  rw[show BU s start p fl=(Cx,2) from if_pos hc1]
  rfl
 have hc1:=bp hb1
 refine w_ (m_ (h:=n_ (h:=CC (h:=a_ (h:=e_ (?_))))))
 refine A7 rfl (fun hb2=>?_) (fun hb2=>?_)
 ·have hc2:=bp hb2
  refine w_ (AU (h:=s_ (h:=a_ (h:=e_ (A6 (Ag (A9 (?_))))))))
  refine AD ?_
  rw[U2 hc1 (by omega)]
  rfl
 have hc2:=bp hb2
 refine B4 (Ay (t_ (w_ (m_ (h:=?_)))))
 refine A4 rfl (AK (Tz p (by omega)) ?_)
 rintro r rfl
 refine m_ (h:=x_ (h:=x_ (h:=x_ (h:=a_ (h:=a_ (h:=a_ (h:=e_ (?_))))))))
 refine B8 (fun t=>t=⟨look [(2, .v (.string p)),(4, .bp 0 0),(5, .bp 1 0),(8, .bp 2 0),(11, .v (.bool (Ch p))),(12, .v (.bool (B3 p))),(13, .bp 3 0)],⟨[Ap s,AA start,Au Cx,Dd s (fl||B3 p) ⟨CP p,start,(0,0),⟨#[]⟩,false,0⟩],[]⟩⟩) ?_ ?_
 ·skip
  refine AP (l_ (h:=m_ (h:=l_ (h:=m_ (h:=m_ (h:=?_))))))
  refine Ar false rfl rfl (fun hb3=>?_) (fun hb3=>?_)
  ·have hc3:=bp hb3
   refine A3 (h:=AX (h:=AU (h:=AY (h:=s_ (h:=AO (?_))))))
   refine AE ?_
   (rw[hb3];exact⟨_,rfl,(wk 4 0)⟩)
  have hc3:=bp hb3
  refine m_ (h:=Af (h:=AU (h:=AY (h:=s_ (h:=AO (?_))))))
  refine AE ?_
  (rw[hb3];exact⟨_,rfl,(wk 4 0)⟩)
 rintro t rfl
 refine B8 (fun t=>∃a,(if Ch p=true then DK s else start)=a∧Ai s.files a=true∧t=⟨look [(4, .bp 0 0),(8, .bp 2 0),(12, .v (.bool (B3 p))),(13, .bp 3 0)],⟨[Ap s,AA start,Au Cx,Dd s (fl||B3 p) ⟨CP p,a,(0,0),⟨#[]⟩,false,0⟩],[]⟩⟩) ?_ ?_
 ·skip
  refine w_ (m_ (h:=e_ (?_)))
  refine A7 rfl (fun hb4=>?_) (fun hb4=>?_)
  ·have hc4:=bp hb4
   refine AP (l_ (h:=?_))
   refine A4 rfl (AK (U1 s hs.b) ?_)
   rintro r rfl
   refine f_ (h:=s_ (h:=AO (?_)))
   refine AE ?_
   exact⟨_,⟨DK s,if_pos hc4,hri,rfl⟩,(wk 4 0)⟩
  have hc4:=bp hb4
  refine w_ (?_)
  refine A4 rfl (Dy 1 rfl (.cons _ _ _ _ _ rfl (LeA.refl _) .nil) (Pv s (fl||B3 p) ⟨CP p,start,(0,0),⟨#[]⟩,false,0⟩ hs.b) ?_)
  rintro r rfl
  refine⟨rfl,?_⟩
  refine BR (h:=e_ (?_))
  refine A7 rfl (fun hb5=>?_) (fun hb5=>?_)
  ·have hc5:=bp hb5
   refine w_ (AU (h:=s_ (h:=a_ (h:=e_ (A6 (A9 (?_)))))))
   refine AD ?_
   rw[U3 hc1 (by omega) (if_neg (by simp[hc4])) (by simpa using hc5)]
   rfl
  have hc5:=bp hb5
  refine B4 (?_)
  refine AE ?_
  first|exact⟨_,⟨DK s,if_pos hc4,hri,rfl⟩,(wk 4 0)⟩|exact⟨_,⟨start,if_neg (by simp[hc4]),by simpa using hc5,rfl⟩,(wk 4 0)⟩
 rintro t ⟨a,ha,had,rfl⟩
 refine q_ (Al (?_))
 refine Bd (fun m t=>∃w,NH s (fl||B3 p) (FB (CP p) a) w∧m=(8 - w.links) * 200+w.ps.length∧m≤1600+(p.size+1)∧t=⟨look [(4, .bp 0 0),(8, .bp 2 0),(12, .v (.bool (B3 p))),(13, .bp 3 0)],⟨[Ap s,AA start,Au Cx,Dd s (fl||B3 p) w],[]⟩⟩) ((8 - 0) * 200+(CP p).length) ((wk 4 0)) (⟨_,⟨Nat.zero_le _,Nat.zero_le _,_,bU (CP p) a (0,0) (fun _=>trivial),rfl⟩,rfl,by have:=K0 p;omega,rfl⟩) ?_
 rintro m t ⟨w,hR,rfl,hm,rfl⟩
 have hml:(w.ps.map CY).length=w.ps.length:=by simp
 refine q_ (w_ (f_ (h:=l_ (h:=n_ (h:=CC (h:=e_ (?_)))))))
 refine A7 rfl (fun hb6=>?_) (fun hb6=>?_)
 ·have hc6:=bp hb6
  obtain⟨q,qs,hqs⟩:∃q qs,w.ps=q::qs:=by
   cases hq:w.ps with
   |nil=>rw[hq]at hml hc6;simp at hc6
   |cons q qs=>exact⟨q,qs,rfl⟩
  have hql:w.ps.length=qs.length+1:=by rw[hqs];rfl
  refine AM (Al (w_ (?_)))
  refine A4 rfl (Ny 3 rfl (by repeat (first|exact ArgsB.nil|refine ArgsB.cons _ _ _ _ _ rfl rfl ?_)) rfl rfl (bR s (fl||B3 p) w q qs hqs hs.b hv hR.1 (by omega)) ?_)
  rintro r row2 (⟨e,he,he0,rfl,rfl⟩|⟨w2,hw2,rfl,rfl⟩)
  ·refine⟨NF _ _ _,rfl,_,(by repeat constructor),?_⟩
   refine a_ (h:=e_ (w_ (m_ (h:=BN (h:=e_ (?_))))))
   refine A7 rfl (fun hb7=>?_) (fun hb7=>?_)
   ·have hc7:=bp hb7
    refine w_ (AU (h:=m_ (h:=s_ (h:=a_ (h:=e_ (A6 (Ag (A9 (Ag (A9 (?_)))))))))))
    refine AD ?_
    rw[K8 hc1 (by omega) ha had ((U5 hv hqs hR).1 e he) he0]
    rfl
   have hc7:=bp hb7
   exact absurd hc7 he0
  refine⟨NF _ _ _,rfl,_,(by repeat constructor),?_⟩
  refine a_ (h:=e_ (w_ (m_ (h:=BN (h:=e_ (?_))))))
  refine A7 rfl (fun hb8=>?_) (fun hb8=>?_)
  ·have hc8:=bp hb8
   exact absurd rfl hc8
  have hc8:=bp hb8
  refine B4 (Ay (?_))
  refine AE ?_
  exact⟨(8 - w2.links) * 200+w2.ps.length,_,(by have:=(Pw hv.files _ hR.1 hw2).2;omega),⟨w2,(U5 hv hqs hR).2 w2 hw2,rfl,by have:=(Pw hv.files _ hR.1 hw2).2;omega,rfl⟩,(wk 4 0)⟩
 have hc6:=bp hb6
 have hps:w.ps=[]:=List.eq_nil_of_length_eq_zero (by omega)
 obtain⟨σ,hT,hσx,hσf,hσe⟩:=bV hv hps hR
 refine BK (Aj (Aj (BL (t_ (q_ (?_))))))
 refine Gu (⟨look [(8, .bp 2 0),(12, .v (.bool (B3 p))),(13, .bp 3 0),(63, .v (.bool (B3 p&&(!w.missing&& !Ai s.files w.at_))))],⟨[Ap s,AA start,Au Cx,Dd s (fl||B3 p) w],[]⟩⟩) ?_ ?_
 ·skip
  refine AP (m_ (h:=m_ (h:=?_)))
  refine Ar true rfl rfl (fun hb9=>?_) (fun hb9=>?_)
  ·have hc9:=bp hb9
   refine f_ (h:=l_ (h:=BR (h:=AX (h:=m_ (h:=?_)))))
   refine Ar true rfl rfl (fun hb10=>?_) (fun hb10=>?_)
   ·have hc10:=bp hb10
    refine B0 (Dy 1 rfl (.cons _ _ _ _ _ rfl (LeA.refl _) .nil) (Pv s (fl||B3 p) w hs.b) ?_)
    rintro r rfl
    refine⟨rfl,?_⟩
    refine BR (h:=AX (h:=AO (?_)))
    refine AE ?_
    first|(exfalso;first|contradiction|omega)|exact As 4 0 rfl rfl rfl rfl (by repeat (first|exact Sub.nil|refine Sub.cons _ _ _ rfl rfl ?_|refine Sub.any _ _ ?_|refine Sub.sl _ _ _ _ _ rfl ?_|refine Sub.slnil _ _ _ rfl ?_|(apply Sub.of;(focus exact rfl);(focus exact LeA.of_eq (vb (by first|(rw[hb9];rfl)|(rw[hb9,hb10];rfl))));(focus exact rfl))))
   have hc10:=bp hb10
   refine A3 (h:=A3 (h:=Af (h:=AO (?_))))
   refine AE ?_
   first|(exfalso;first|contradiction|omega)|exact As 4 0 rfl rfl rfl rfl (by repeat (first|exact Sub.nil|refine Sub.cons _ _ _ rfl rfl ?_|refine Sub.any _ _ ?_|refine Sub.sl _ _ _ _ _ rfl ?_|refine Sub.slnil _ _ _ rfl ?_|(apply Sub.of;(focus exact rfl);(focus exact LeA.of_eq (vb (by first|(rw[hb9];rfl)|(rw[hb9,hb10];rfl))));(focus exact rfl))))
  have hc9:=bp hb9
  refine A3 (h:=A3 (h:=A3 (h:=Af (h:=m_ (h:=A3 (h:=A3 (h:=Af (h:=AO (?_)))))))))
  refine AE ?_
  first|(exfalso;first|contradiction|omega)|exact As 4 0 rfl rfl rfl rfl (by repeat (first|exact Sub.nil|refine Sub.cons _ _ _ rfl rfl ?_|refine Sub.any _ _ ?_|refine Sub.sl _ _ _ _ _ rfl ?_|refine Sub.slnil _ _ _ rfl ?_|(apply Sub.of;(focus exact rfl);(focus exact LeA.of_eq (vb (by first|(rw[hb9];rfl)|(rw[hb9,hb10];rfl))));(focus exact rfl))))
 skip
 refine A7 rfl (fun hb11=>?_) (fun hb11=>?_)
 ·have hc11:=bp hb11
  refine w_ (AU (h:=s_ (h:=a_ (h:=e_ (A6 (A9 (?_)))))))
  refine AD ?_
  rw[U4 hc1 (by omega) ha had hT (by simp only[Bool.and_eq_true,Bool.not_eq_true']at hc11;exact⟨hc11.1,by rw[hσx,hc11.2.1];rfl,by rw[hσf hc11.2.1];exact hc11.2.2⟩)]
  rfl
 have hc11:=bp hb11
 refine AM (w_ (m_ (h:=?_)))
 refine A4 rfl (Dy 1 rfl (.cons _ _ _ _ _ rfl (LeA.refl _) (.cons _ _ _ _ _ rfl (LeA.refl _) .nil)) (bO s (fl||B3 p) (B3 p) w hs hw (by have:=hR.2.1;omega)) ?_)
 rintro r rfl
 refine⟨rfl,?_⟩
 refine s_ (h:=a_ (h:=e_ (A6 (?_))))
 refine AD ?_
 rw[NG hc1 (by omega) ha had hT (fun h=>by
  obtain⟨h1,h2,h3⟩:=h
  rw[hσx]at h2
  have hm2:w.missing=false:=by simpa using h2
  rw[hσf hm2]at h3
  rw[h1,h2,h3]at hc11
  cases hc11),←hσe]
 rfl
end
section
theorem Px{s:Spc}(hs:SpcB s)(hv:SpcV s)(a:A8):AFn Tryz.prog 100 [.agg (Ap s), .agg (AA a)] (fun r=>r= .agg (AA (CS s s.mounts.length a))):=
 (Vn s a hs).mono fun r hr=>by rw[hr,YX hv]
end
def Lf(σ:Lk):List AV:=Au ⟨σ.dir,σ.name,σ.file,σ.ex,false,⟨#[]⟩⟩
theorem Fw{s:Spc}(hv:FlsV s.files){F:Bool}{q:AB}{qs:List AB}{da:A8}{na:AB}{a:A8}{ea:Bool}{lk:Nat}(h8:lk≤8):(∀e,CE s F q qs a lk= .inl e→DL s F ⟨q::qs,da,na,a,ea,lk⟩=(e,N7))∧∀τ,CE s F q qs a lk= .inr τ→τ.links≤8∧DL s F ⟨q::qs,da,na,a,ea,lk⟩=DL s F τ∧E3 τ<(8 - lk) * 200+(qs.length+1):=by
 have hc:=TM hv (fl:=F) (σ:=⟨q::qs,da,na,a,ea,lk⟩) (p:=q) (ps:=qs) h8 rfl
 refine⟨fun e he=>?_,fun τ hτ=>?_⟩
 ·rw[hc];simp only[he]
 obtain⟨h1,h2⟩:=Pe hv h8 hτ
 refine⟨h1,?_,h2⟩
 rw[hc];simp only[hτ]
section
theorem U6(s:Spc)(hs:SpcB s)(hv:SpcV s):AFn Tryz.prog 99 [.agg (Ap s)] (fun r=>r= .agg (AA (DK s))):=by
 refine enter Tryz.func99 rfl rfl rfl rfl rfl 0 rfl ?_
 refine w_ (b_ (h:=AY (h:=e_ (w_ (l_ (h:=AU (h:=?_)))))))
 refine A4 rfl (AK (Px hs hv (0,1)) ?_)
 rintro r rfl
 refine s_ (h:=e_ (A6 (?_)))
 refine AD ?_
 rfl
theorem U7(s:Spc)(start:A8)(p:AB)(fl:Bool)(hs:SpcN s)(hv:SpcV s)(hp:p.size≤100000):AFn Tryz.prog 56 [.agg (Ap s), .agg (AA start), .v (.string p), .v (.bool fl)] (fun r=>r= .tup [.agg (Au (BU s start p fl).1), .v (.int .i64 (BU s start p fl).2)]):=by
 have hw:=PW hv
 have hsp:=K0 p
 refine enter Tryz.func56 rfl rfl rfl rfl rfl 0 rfl ?_
 refine w_ (b_ (h:=b_ (h:=AY (h:=a_ (h:=e_ (w_ (m_ (h:=?_))))))))
 refine A4 rfl (AK (Pa p hp) ?_)
 rintro r ⟨ps,hps,rfl⟩
 obtain rfl:=Pd hps
 clear hps
 refine m_ (h:=x_ (h:=x_ (h:=x_ (h:=a_ (h:=a_ (h:=a_ (h:=e_ (q_ (w_ (m_ (h:=AW (h:=e_ (?_)))))))))))))
 refine A7 rfl (fun hb1=>?_) (fun hb1=>?_)
 ·have hc1:=bp hb1
  refine w_ (AU (h:=s_ (h:=a_ (h:=e_ (A6 (A9 (?_)))))))
  refine AD ?_
  rw[show BU s start p fl=(Cx,2) from if_pos hc1]
  rfl
 have hc1:=bp hb1
 refine AM (q_ (w_ (m_ (h:=n_ (h:=CC (h:=e_ (?_)))))))
 refine A7 rfl (fun hb2=>?_) (fun hb2=>?_)
 ·have hc2:=bp hb2
  refine w_ (AU (h:=s_ (h:=a_ (h:=e_ (A6 (A9 (?_)))))))
  refine AD ?_
  rw[U2 hc1 (by omega)]
  rfl
 have hc2:=bp hb2
 refine AM (w_ (l_ (h:=AY (h:=s_ (h:=e_ (?_))))))
 refine B8 (fun t=>∃a,(if Ch p=true then DK s else start)=a∧t=⟨look [(3, .v (.bool fl)),(4, .bp 0 0),(8, .bp 2 0),(10, .sl 1 ((CP p).map CY) none),(12, .v (.bool (B3 p))),(13, .bp 3 0)],⟨[Ap s,AA start,Au Cx,AA a],[]⟩⟩) ?_ ?_
 ·skip
  refine w_ (m_ (h:=e_ (?_)))
  refine A7 rfl (fun hb3=>?_) (fun hb3=>?_)
  ·have hc3:=bp hb3
   refine AP (l_ (h:=?_))
   refine A4 rfl (AK (U6 s hs.b hv) ?_)
   rintro r rfl
   refine s_ (h:=AO (?_))
   refine AE ?_
   exact⟨_,⟨DK s,if_pos hc3,rfl⟩,(wk 4 0)⟩
  have hc3:=bp hb3
  refine B4 (?_)
  refine AE ?_
  first|exact⟨_,⟨DK s,if_pos hc3,rfl⟩,(wk 4 0)⟩|exact⟨_,⟨start,if_neg (by simp[hc3]),rfl⟩,(wk 4 0)⟩
 rintro t ⟨a0,ha,rfl⟩
 refine q_ (w_ (f_ (h:=l_ (h:=l_ (h:=?_)))))
 refine A4 rfl (AK (Fl s.files a0 hs.b.files) ?_)
 rintro r rfl
 refine BR (h:=e_ (?_))
 refine A7 rfl (fun hb4=>?_) (fun hb4=>?_)
 ·have hc4:=bp hb4
  refine w_ (AU (h:=s_ (h:=a_ (h:=e_ (A6 (A9 (?_)))))))
  refine AD ?_
  rw[U3 hc1 (by omega) ha (by simpa using hc4)]
  rfl
 have hc4:=bp hb4
 have had:Ai s.files a0=true:=by simpa using hc4
 refine AM (w_ (l_ (h:=l_ (h:=AU (h:=AY (h:=s_ (h:=e_ (w_ (a_ (h:=e_ (?_)))))))))))
 refine B8 (fun t=>∃(τ:Lk) (d:A8),DL s (fl||B3 p) (FB (CP p) a0)=(0,τ)∧τ.name.size≤1000∧t=⟨look [(4, .bp 0 0),(8, .bp 2 0),(12, .v (.bool (B3 p))),(14, .bp 4 0)],⟨[Ap s,AA start,Au Cx,AA d,Lf τ],[]⟩⟩) ?_ ?_
 ·skip
  refine Al (?_)
  refine Bd (fun m t=>∃(σ:Lk) (d:A8),σ.links≤8∧σ.name.size≤12∧DL s (fl||B3 p) σ=DL s (fl||B3 p) (FB (CP p) a0)∧m=E3 σ∧m≤1729∧t=⟨look [(3, .v (.bool fl)),(4, .bp 0 0),(8, .bp 2 0),(10, .sl 1 (σ.ps.map CY) none),(12, .v (.bool (B3 p))),(13, .bp 3 0),(14, .bp 4 0),(15, .v (.int .i64 (σ.links:Int)))],⟨[Ap s,AA start,Au Cx,AA d,Lf σ],[]⟩⟩) (E3 (FB (CP p) a0)) ((wk 5 0)) (⟨_,a0,Nat.zero_le _,Nat.zero_le _,rfl,rfl,by show(8 - 0) * 200+(CP p).length≤1729;omega,rfl⟩) ?_
  rintro m t ⟨⟨ps0,da,na,a,ea,lk⟩,d,h8,hna,hT,rfl,hm,rfl⟩
  have hm:(8 - lk) * 200+ps0.length≤1729:=hm
  have h8:lk≤8:=h8
  have hml:(ps0.map CY).length=ps0.length:=by simp
  refine q_ (w_ (m_ (h:=n_ (h:=CC (h:=e_ (?_))))))
  refine A7 rfl (fun hb5=>?_) (fun hb5=>?_)
  ·have hc5:=bp hb5
   obtain⟨q,qs,hps⟩:∃q qs,ps0=q::qs:=by
    cases ps0 with
    |nil=>simp at hc5
    |cons q qs=>exact⟨q,qs,rfl⟩
   subst hps
   have hml:(qs.map CY).length=qs.length:=by simp
   have hmq:(8 - lk) * 200+(qs.length+1)≤1729:=hm
   have htg:=LS hv.files (AG s.files a q).1
   have htp:=K0 (AT s.files (AG s.files a q).1).target
   refine AM (Al (w_ (m_ (h:=?_))))
   refine A4 rfl (Ck (n:=0) rfl rfl rfl rfl ?_)
   refine l_ (h:=a_ (h:=e_ (?_)))
   refine Gu (⟨look [(3, .v (.bool fl)),(4, .bp 0 0),(8, .bp 2 0),(10, .sl 1 (qs.map CY) none),(12, .v (.bool (B3 p))),(13, .bp 3 0),(14, .bp 4 0),(15, .v (.int .i64 (lk:Int))),(16, .v (.string q))],⟨[Ap s,AA start,Au Cx,AA d,Lf ⟨q::qs,da,na,a,ea,lk⟩],[]⟩⟩) ?_ ?_
   ·skip
    refine AP (m_ (h:=?_))
    refine A4 rfl (Np (l:=1) rfl rfl rfl (by simp) ?_)
    refine a_ (h:=AO (?_))
    refine AE ?_
    first|(exfalso;first|contradiction|omega)|exact As 5 0 rfl rfl rfl rfl (by repeat (first|exact Sub.nil|refine Sub.cons _ _ _ rfl rfl ?_|refine Sub.any _ _ ?_|refine Sub.sl _ _ _ _ _ rfl ?_|refine Sub.slnil _ _ _ rfl ?_|(apply Sub.of;(focus exact rfl);(focus exact LeA.of_eq (vb (by rfl)));(focus exact rfl))))
   skip
   refine w_ (f_ (h:=l_ (h:=s_ (h:=e_ (q_ (w_ (f_ (h:=l_ (h:=l_ (h:=?_))))))))))
   refine A4 rfl (AK (Fl s.files a hs.b.files) ?_)
   rintro r rfl
   refine BR (h:=e_ (?_))
   refine A7 rfl (fun hb6=>?_) (fun hb6=>?_)
   ·have hc6:=bp hb6
    have hst:CE s (fl||B3 p) q qs a lk= .inl 20:=by unfold CE;rw[if_pos hc6]
    refine w_ (AU (h:=s_ (h:=a_ (h:=e_ (A6 (A9 (Ag (A9 (Ag (A9 (?_)))))))))))
    refine AD ?_
    rw[K8 hc1 (by omega) ha had (hT.symm.trans ((Fw (F:=fl||B3 p) (da:=da) (na:=na) (ea:=ea) hv.files h8).1 _ hst)) (by decide)]
    rfl
   have hc6:=bp hb6
   refine AM (q_ (w_ (m_ (h:=n_ (h:=CC (h:=e_ (?_)))))))
   refine A7 rfl (fun hb7=>?_) (fun hb7=>?_)
   ·have hc7:=bp hb7
    have hst:CE s (fl||B3 p) q qs a lk= .inl 36:=by unfold CE;rw[if_neg (by simp[hc6]),if_pos (by omega)]
    refine w_ (AU (h:=s_ (h:=a_ (h:=e_ (A6 (A9 (Ag (A9 (Ag (A9 (?_)))))))))))
    refine AD ?_
    rw[K8 hc1 (by omega) ha had (hT.symm.trans ((Fw (F:=fl||B3 p) (da:=da) (na:=na) (ea:=ea) hv.files h8).1 _ hst)) (by decide)]
    rfl
   have hc7:=bp hb7
   have hq12:q.size≤12:=by omega
   refine AM (q_ (w_ (m_ (h:=AW (h:=m_ (h:=?_))))))
   refine Ar false rfl rfl (fun hb8=>?_) (fun hb8=>?_)
   ·have hc8:=bp hb8
    refine A3 (h:=A3 (h:=AX (h:=e_ (C1 (h:=q_ (w_ (m_ (h:=AW (h:=e_ (?_))))))))))
    refine A7 rfl (fun hb9=>?_) (fun hb9=>?_)
    ·have hc9:=bp hb9
     rw[hc8]at hc9
     exact absurd hc9 (by decide)
    have hc9:=bp hb9
    have hst:CE s (fl||B3 p) q qs a lk= .inr ⟨qs,a,⟨#[]⟩,a,true,lk⟩:=by unfold CE;rw[if_neg (by simp[hc6]),if_neg (by omega),if_pos hc8]
    refine AM (w_ (l_ (h:=l_ (h:=AU (h:=s_ (h:=e_ (BK (Aj (BL (?_))))))))))
    refine AE ?_
    obtain⟨g1,g2,g3⟩:=(Fw (F:=fl||B3 p) (da:=da) (na:=na) (ea:=ea) hv.files h8).2 _ hst
    exact⟨_,_,g3,⟨_,_,g1,(by first|exact Nat.zero_le _|exact hq12),g2.symm.trans hT,rfl,Nat.le_trans (Nat.le_of_lt g3) hmq,rfl⟩,(by(try simp only[List.map_append]);exact As 5 0 rfl rfl rfl rfl ((by repeat (first|exact Sub.nil|refine Sub.cons _ _ _ rfl rfl ?_|refine Sub.any _ _ ?_|refine Sub.sl _ _ _ _ _ rfl ?_|refine Sub.slnil _ _ _ rfl ?_))))⟩
   have hc8:=bp hb8
   refine m_ (h:=AW (h:=Af (h:=e_ (?_))))
   refine A7 rfl (fun hb10=>?_) (fun hb10=>?_)
   ·have hc10:=bp hb10
    refine q_ (w_ (m_ (h:=AW (h:=e_ (?_)))))
    refine A7 rfl (fun hb11=>?_) (fun hb11=>?_)
    ·have hc11:=bp hb11
     have hst:CE s (fl||B3 p) q qs a lk= .inr ⟨qs,CS s s.mounts.length (D8 s (s.mounts.length+1) a),⟨#[]⟩,CS s s.mounts.length (D8 s (s.mounts.length+1) a),true,lk⟩:=by unfold CE;rw[if_neg (by simp[hc6]),if_neg (by omega),if_neg hc8,if_pos hc11]
     refine BM ([(0,Ap s),(3,AA a)]) 5 (h:=AF 0 (h:=AF 1 (h:=AF 2 (h:=?_))))
     refine c_ 3 rfl (AK (Ym hs.b hv (s.mounts.length+1) a (by have:=YV (s:=s) a.1;omega)) ?_)
     rintro r rfl
     refine o_ (h:=?_)
     refine c_ 4 rfl (AK (Px hs.b hv (D8 s (s.mounts.length+1) a)) ?_)
     rintro r rfl
     refine o_ (h:=?_)
     refine Az 5 rfl (Av rfl rfl rfl rfl rfl rfl (by repeat constructor) (by repeat constructor) ?_)
     refine o_ (h:=z_ (h:=t_ (w_ (l_ (h:=l_ (h:=AU (h:=s_ (h:=e_ (BK (Aj (BL (?_))))))))))))
     refine AE ?_
     obtain⟨g1,g2,g3⟩:=(Fw (F:=fl||B3 p) (da:=da) (na:=na) (ea:=ea) hv.files h8).2 _ hst
     exact⟨_,_,g3,⟨_,_,g1,(by first|exact Nat.zero_le _|exact hq12),g2.symm.trans hT,rfl,Nat.le_trans (Nat.le_of_lt g3) hmq,rfl⟩,(by(try simp only[List.map_append]);exact As 5 0 rfl rfl rfl rfl ((by repeat (first|exact Sub.nil|refine Sub.cons _ _ _ rfl rfl ?_|refine Sub.any _ _ ?_|refine Sub.sl _ _ _ _ _ rfl ?_|refine Sub.slnil _ _ _ rfl ?_))))⟩
    have hc11:=bp hb11
    exact absurd hc10 hc11
   have hc10:=bp hb10
   refine AM (w_ (f_ (h:=l_ (h:=l_ (h:=m_ (h:=?_))))))
   refine A4 rfl (AK (G8 s.files a q hs.b.files) ?_)
   rintro r rfl
   refine m_ (h:=x_ (h:=x_ (h:=AY (h:=s_ (h:=a_ (h:=e_ (q_ (w_ (m_ (h:=BN (h:=e_ (?_))))))))))))
   refine A7 rfl (fun hb12=>?_) (fun hb12=>?_)
   ·have hc12:=bp hb12
    refine q_ (w_ (m_ (h:=n_ (h:=CC (h:=m_ (h:=?_))))))
    refine Ar false rfl rfl (fun hb13=>?_) (fun hb13=>?_)
    ·have hc13:=bp hb13
     have hne:qs≠[]:=fun e=>by rw[e]at hc13;simp at hc13
     have hst:CE s (fl||B3 p) q qs a lk= .inl 2:=by unfold CE;rw[if_neg (by simp[hc6]),if_neg (by omega),if_neg hc8,if_neg hc10,if_pos hc12,if_pos (.inl hne)]
     refine A3 (h:=A3 (h:=A3 (h:=AX (h:=e_ (C1 (h:=w_ (AU (h:=s_ (h:=a_ (h:=e_ (A6 (A9 (A9 (Ag (A9 (Ag (A9 (?_))))))))))))))))))
     refine AD ?_
     rw[K8 hc1 (by omega) ha had (hT.symm.trans ((Fw (F:=fl||B3 p) (da:=da) (na:=na) (ea:=ea) hv.files h8).1 _ hst)) (by decide)]
     rfl
    have hc13:=bp hb13
    have hne:¬qs≠[]:=fun e=>e (List.eq_nil_of_length_eq_zero (by omega))
    refine m_ (h:=?_)
    refine B0 (AK (OF q (by omega)) ?_)
    rintro r rfl
    refine BR (h:=Af (h:=e_ (?_)))
    refine A7 rfl (fun hb14=>?_) (fun hb14=>?_)
    ·have hc14:=bp hb14
     have hst:CE s (fl||B3 p) q qs a lk= .inl 2:=by unfold CE;rw[if_neg (by simp[hc6]),if_neg (by omega),if_neg hc8,if_neg hc10,if_pos hc12,if_pos (.inr hc14)]
     refine w_ (AU (h:=s_ (h:=a_ (h:=e_ (A6 (A9 (A9 (Ag (A9 (Ag (A9 (?_))))))))))))
     refine AD ?_
     rw[K8 hc1 (by omega) ha had (hT.symm.trans ((Fw (F:=fl||B3 p) (da:=da) (na:=na) (ea:=ea) hv.files h8).1 _ hst)) (by decide)]
     rfl
    have hc14:=bp hb14
    have hst:CE s (fl||B3 p) q qs a lk= .inr ⟨[],a,q,(0,0),false,lk⟩:=by unfold CE;rw[if_neg (by simp[hc6]),if_neg (by omega),if_neg hc8,if_neg hc10,if_pos hc12,if_neg (fun e=>e.elim hne (by simp[hc14]))]
    have hfin:=hT.symm.trans (((Fw (F:=fl||B3 p) (da:=da) (na:=na) (ea:=ea) hv.files h8).2 _ hst).2.1.trans (Pg rfl))
    refine AM (w_ (l_ (h:=m_ (h:=AU (h:=s_ (h:=e_ (BK (Aj (KP rfl (Aj (BL (?_))))))))))))
    refine AE ?_
    exact⟨_,⟨_,_,hfin,(by first|exact Nat.le_trans hna (by decide)|exact Nat.le_trans hq12 (by decide)),rfl⟩,(wk 5 0)⟩
   have hc12:=bp hb12
   refine AM (w_ (f_ (h:=l_ (h:=l_ (h:=?_)))))
   refine A4 rfl (AK (DW s.files (AG s.files a q).1 hs.b.files) ?_)
   rintro r rfl
   refine m_ (h:=x_ (h:=x_ (h:=AY (h:=s_ (h:=a_ (h:=e_ (q_ (?_))))))))
   refine Gu (⟨look [(3, .v (.bool fl)),(4, .bp 0 0),(8, .bp 2 0),(10, .sl 1 (qs.map CY) none),(12, .v (.bool (B3 p))),(13, .bp 3 0),(14, .bp 4 0),(15, .v (.int .i64 (lk:Int))),(16, .v (.string q)),(17, .bp 5 0),(19, .bp 6 0),(130, .v (.bool (decide ((AT s.files (AG s.files a q).1).kind=3)&&(decide (0<((qs.map CY).length:Int))||(fl||B3 p)))))],⟨[Ap s,AA start,Au Cx,AA a,Lf ⟨q::qs,da,na,a,ea,lk⟩,AA (AG s.files a q).1,Aa (AT s.files (AG s.files a q).1)],[]⟩⟩) ?_ ?_
   ·skip
    refine AP (f_ (h:=l_ (h:=AW (h:=m_ (h:=?_)))))
    refine Ar true rfl rfl (fun hb15=>?_) (fun hb15=>?_)
    ·have hc15:=bp hb15
     refine m_ (h:=n_ (h:=CC (h:=m_ (h:=?_))))
     refine Ar false rfl rfl (fun hb16=>?_) (fun hb16=>?_)
     ·have hc16:=bp hb16
      refine A3 (h:=AX (h:=m_ (h:=A3 (h:=AX (h:=AX (h:=AO (?_)))))))
      refine AE ?_
      first|(exfalso;first|contradiction|omega)|exact As 7 0 rfl rfl rfl rfl (by repeat (first|exact Sub.nil|refine Sub.cons _ _ _ rfl rfl ?_|refine Sub.any _ _ ?_|refine Sub.sl _ _ _ _ _ rfl ?_|refine Sub.slnil _ _ _ rfl ?_|(apply Sub.of;(focus exact rfl);(focus exact LeA.of_eq (vb (by first|(rw[hb15];rfl)|(rw[hb15,hb16];rfl)|(rw[hb15,hb16,hb17];rfl))));(focus exact rfl))))
     have hc16:=bp hb16
     refine m_ (h:=Af (h:=m_ (h:=?_)))
     refine Ar false rfl rfl (fun hb17=>?_) (fun hb17=>?_)
     ·have hc17:=bp hb17
      refine A3 (h:=AX (h:=AX (h:=AO (?_))))
      refine AE ?_
      first|(exfalso;first|contradiction|omega)|exact As 7 0 rfl rfl rfl rfl (by repeat (first|exact Sub.nil|refine Sub.cons _ _ _ rfl rfl ?_|refine Sub.any _ _ ?_|refine Sub.sl _ _ _ _ _ rfl ?_|refine Sub.slnil _ _ _ rfl ?_|(apply Sub.of;(focus exact rfl);(focus exact LeA.of_eq (vb (by first|(rw[hb15];rfl)|(rw[hb15,hb16];rfl)|(rw[hb15,hb16,hb17];rfl))));(focus exact rfl))))
     have hc17:=bp hb17
     refine m_ (h:=Af (h:=AX (h:=AO (?_))))
     refine AE ?_
     first|(exfalso;first|contradiction|omega)|exact As 7 0 rfl rfl rfl rfl (by repeat (first|exact Sub.nil|refine Sub.cons _ _ _ rfl rfl ?_|refine Sub.any _ _ ?_|refine Sub.sl _ _ _ _ _ rfl ?_|refine Sub.slnil _ _ _ rfl ?_|(apply Sub.of;(focus exact rfl);(focus exact LeA.of_eq (vb (by first|(rw[hb15];rfl)|(rw[hb15,hb16];rfl)|(rw[hb15,hb16,hb17];rfl))));(focus exact rfl))))
    have hc15:=bp hb15
    refine A3 (h:=A3 (h:=A3 (h:=A3 (h:=EO (h:=A3 (h:=A3 (h:=EO (h:=A3 (h:=Af (h:=AO (?_)))))))))))
    refine AE ?_
    first|(exfalso;first|contradiction|omega)|exact As 7 0 rfl rfl rfl rfl (by repeat (first|exact Sub.nil|refine Sub.cons _ _ _ rfl rfl ?_|refine Sub.any _ _ ?_|refine Sub.sl _ _ _ _ _ rfl ?_|refine Sub.slnil _ _ _ rfl ?_|(apply Sub.of;(focus exact rfl);(focus exact LeA.of_eq (vb (by first|(rw[hb15];rfl)|(rw[hb15,hb16];rfl)|(rw[hb15,hb16,hb17];rfl))));(focus exact rfl))))
   skip
   refine A7 rfl (fun hb18=>?_) (fun hb18=>?_)
   ·have hc18:=bp hb18
    have hlk:(AT s.files (AG s.files a q).1).kind=3∧(qs≠[]∨(fl||B3 p)=true):=by
     rw[Bool.and_eq_true,decide_eq_true_eq,Bool.or_eq_true,decide_eq_true_eq]at hc18
     exact⟨hc18.1,hc18.2.imp (fun h e=>by rw[e]at h;simp at h) id⟩
    refine q_ (w_ (m_ (h:=AW (h:=e_ (?_)))))
    refine A7 rfl (fun hb19=>?_) (fun hb19=>?_)
    ·have hc19:=bp hb19
     have hst:CE s (fl||B3 p) q qs a lk= .inl 40:=by unfold CE;rw[if_neg (by simp[hc6]),if_neg (by omega),if_neg hc8,if_neg hc10,if_neg (by simp[hc12]),if_pos hlk,if_pos (by omega)]
     refine w_ (AU (h:=s_ (h:=a_ (h:=e_ (A6 (A9 (A9 (Ag (A9 (Ag (A9 (?_))))))))))))
     refine AD ?_
     rw[K8 hc1 (by omega) ha had (hT.symm.trans ((Fw (F:=fl||B3 p) (da:=da) (na:=na) (ea:=ea) hv.files h8).1 _ hst)) (by decide)]
     rfl
    have hc19:=bp hb19
    refine AM (w_ (m_ (h:=?_)))
    refine A4 rfl (Ht rfl rfl (by omega) ?_)
    refine a_ (h:=e_ (w_ (f_ (h:=l_ (h:=?_)))))
    refine A4 rfl (AK (Pa (AT s.files (AG s.files a q).1).target (by omega)) ?_)
    rintro r ⟨ps,hps,rfl⟩
    obtain rfl:=Pd hps
    clear hps
    refine m_ (h:=x_ (h:=x_ (h:=x_ (h:=a_ (h:=a_ (h:=a_ (h:=e_ (q_ (w_ (m_ (h:=e_ (?_))))))))))))
    refine A7 rfl (fun hb20=>?_) (fun hb20=>?_)
    ·have hc20:=bp hb20
     have hst:CE s (fl||B3 p) q qs a lk= .inr ⟨CP (AT s.files (AG s.files a q).1).target++qs,DK s,⟨#[]⟩,DK s,true,lk+1⟩:=by unfold CE;rw[if_neg (by simp[hc6]),if_neg (by omega),if_neg hc8,if_neg hc10,if_neg (by simp[hc12]),if_pos hlk,if_neg (by omega),if_pos hc20]
     refine AP (l_ (h:=?_))
     refine A4 rfl (AK (U6 s hs.b hv) ?_)
     rintro r rfl
     refine s_ (h:=e_ (w_ (m_ (h:=Fi (h:=m_ (h:=Fi (h:=a_ (h:=e_ (w_ (l_ (h:=l_ (h:=AU (h:=s_ (h:=e_ (BK (Aj (BL (?_))))))))))))))))))
     refine AE ?_
     obtain⟨g1,g2,g3⟩:=(Fw (F:=fl||B3 p) (da:=da) (na:=na) (ea:=ea) hv.files h8).2 _ hst
     exact⟨_,_,g3,⟨_,_,g1,(by first|exact Nat.zero_le _|exact hq12),g2.symm.trans hT,rfl,Nat.le_trans (Nat.le_of_lt g3) hmq,rfl⟩,(by(try simp only[List.map_append]);exact As 5 0 rfl rfl rfl rfl ((by repeat (first|exact Sub.nil|refine Sub.cons _ _ _ rfl rfl ?_|refine Sub.any _ _ ?_|refine Sub.sl _ _ _ _ _ rfl ?_|refine Sub.slnil _ _ _ rfl ?_))))⟩
    have hc20:=bp hb20
    have hst:CE s (fl||B3 p) q qs a lk= .inr ⟨CP (AT s.files (AG s.files a q).1).target++qs,a,⟨#[]⟩,a,true,lk+1⟩:=by unfold CE;rw[if_neg (by simp[hc6]),if_neg (by omega),if_neg hc8,if_neg hc10,if_neg (by simp[hc12]),if_pos hlk,if_neg (by omega),if_neg (by simp[hc20])]
    refine AM (w_ (m_ (h:=Fi (h:=m_ (h:=Fi (h:=a_ (h:=e_ (w_ (l_ (h:=l_ (h:=AU (h:=s_ (h:=e_ (BK (Aj (BL (?_)))))))))))))))))
    refine AE ?_
    obtain⟨g1,g2,g3⟩:=(Fw (F:=fl||B3 p) (da:=da) (na:=na) (ea:=ea) hv.files h8).2 _ hst
    exact⟨_,_,g3,⟨_,_,g1,(by first|exact Nat.zero_le _|exact hq12),g2.symm.trans hT,rfl,Nat.le_trans (Nat.le_of_lt g3) hmq,rfl⟩,(by(try simp only[List.map_append]);exact As 5 0 rfl rfl rfl rfl ((by repeat (first|exact Sub.nil|refine Sub.cons _ _ _ rfl rfl ?_|refine Sub.any _ _ ?_|refine Sub.sl _ _ _ _ _ rfl ?_|refine Sub.slnil _ _ _ rfl ?_))))⟩
   have hc18:=bp hb18
   have hlk:¬((AT s.files (AG s.files a q).1).kind=3∧(qs≠[]∨(fl||B3 p)=true)):=fun h=>by
    rw[decide_eq_true h.1,Bool.true_and,Bool.or_eq_false_iff]at hc18
    rcases h.2 with e|e
    ·exact e (List.eq_nil_of_length_eq_zero (by have:=of_decide_eq_false hc18.1;omega))
    rw[hc18.2]at e;cases e
   have hst:CE s (fl||B3 p) q qs a lk= .inr ⟨qs,a,q,CS s s.mounts.length (AG s.files a q).1,true,lk⟩:=by unfold CE;rw[if_neg (by simp[hc6]),if_neg (by omega),if_neg hc8,if_neg hc10,if_neg (by simp[hc12]),if_neg hlk]
   refine AM (BM ([(0,Ap s),(3,AA a),(5,AA (AG s.files a q).1)]) 6 (h:=AF 0 (h:=AN 1 (h:=AF 2 (h:=AF 3 (h:=?_))))))
   refine c_ 4 rfl (AK (Px hs.b hv (AG s.files a q).1) ?_)
   rintro r rfl
   refine o_ (h:=EP 5 (h:=?_))
   refine Az 6 rfl (Av rfl rfl rfl rfl rfl rfl (by repeat constructor) (by repeat constructor) ?_)
   refine o_ (h:=z_ (h:=Ay (?_)))
   refine AE ?_
   obtain⟨g1,g2,g3⟩:=(Fw (F:=fl||B3 p) (da:=da) (na:=na) (ea:=ea) hv.files h8).2 _ hst
   exact⟨_,_,g3,⟨_,_,g1,(by first|exact Nat.zero_le _|exact hq12),g2.symm.trans hT,rfl,Nat.le_trans (Nat.le_of_lt g3) hmq,rfl⟩,(by(try simp only[List.map_append]);exact As 5 0 rfl rfl rfl rfl ((by repeat (first|exact Sub.nil|refine Sub.cons _ _ _ rfl rfl ?_|refine Sub.any _ _ ?_|refine Sub.sl _ _ _ _ _ rfl ?_|refine Sub.slnil _ _ _ rfl ?_))))⟩
  have hc5:=bp hb5
  have hc5:¬(0:Int)<((ps0.map CY).length:Int):=hc5
  have e5:ps0=[]:=List.eq_nil_of_length_eq_zero (by omega)
  subst e5
  have hfin:=hT.symm.trans (Pg (s:=s) (fl:=fl||B3 p) (σ:=⟨[],da,na,a,ea,lk⟩) rfl)
  refine BK (Aj (Aj (BL (?_))))
  refine AE ?_
  exact⟨_,⟨_,_,hfin,(by first|exact Nat.le_trans hna (by decide)|exact Nat.le_trans hq12 (by decide)),rfl⟩,(wk 5 0)⟩
 rintro t ⟨τ,d,hT,hnm,rfl⟩
 refine q_ (?_)
 refine Gu (⟨look [(4, .bp 0 0),(8, .bp 2 0),(12, .v (.bool (B3 p))),(14, .bp 4 0),(171, .v (.bool (B3 p&&(τ.ex&& !Ai s.files τ.file))))],⟨[Ap s,AA start,Au Cx,AA d,Lf τ],[]⟩⟩) ?_ ?_
 ·skip
  refine AP (m_ (h:=m_ (h:=?_)))
  refine Ar true rfl rfl (fun hb21=>?_) (fun hb21=>?_)
  ·have hc21:=bp hb21
   refine f_ (h:=l_ (h:=AX (h:=m_ (h:=?_))))
   refine Ar true rfl rfl (fun hb22=>?_) (fun hb22=>?_)
   ·have hc22:=bp hb22
    have hx:τ.ex=true:=hb22
    refine f_ (h:=l_ (h:=f_ (h:=l_ (h:=?_))))
    refine B0 (AK (Fl s.files τ.file hs.b.files) ?_)
    rintro r rfl
    refine BR (h:=AX (h:=AO (?_)))
    refine AE ?_
    first|(exfalso;first|contradiction|omega)|exact As 5 0 rfl rfl rfl rfl (by repeat (first|exact Sub.nil|refine Sub.cons _ _ _ rfl rfl ?_|refine Sub.any _ _ ?_|refine Sub.sl _ _ _ _ _ rfl ?_|refine Sub.slnil _ _ _ rfl ?_|(apply Sub.of;(focus exact rfl);(focus exact LeA.of_eq (vb (by first|(rw[hb21];rfl)|(rw[hb21,hx];rfl))));(focus exact rfl))))
   have hc22:=bp hb22
   have hx:τ.ex=false:=hb22
   refine A3 (h:=A3 (h:=A3 (h:=A3 (h:=A3 (h:=A3 (h:=Af (h:=AO (?_))))))))
   refine AE ?_
   first|(exfalso;first|contradiction|omega)|exact As 5 0 rfl rfl rfl rfl (by repeat (first|exact Sub.nil|refine Sub.cons _ _ _ rfl rfl ?_|refine Sub.any _ _ ?_|refine Sub.sl _ _ _ _ _ rfl ?_|refine Sub.slnil _ _ _ rfl ?_|(apply Sub.of;(focus exact rfl);(focus exact LeA.of_eq (vb (by first|(rw[hb21];rfl)|(rw[hb21,hx];rfl))));(focus exact rfl))))
  have hc21:=bp hb21
  refine A3 (h:=A3 (h:=Af (h:=m_ (h:=A3 (h:=A3 (h:=A3 (h:=A3 (h:=A3 (h:=A3 (h:=Af (h:=AO (?_))))))))))))
  refine AE ?_
  first|(exfalso;first|contradiction|omega)|exact As 5 0 rfl rfl rfl rfl (by repeat (first|exact Sub.nil|refine Sub.cons _ _ _ rfl rfl ?_|refine Sub.any _ _ ?_|refine Sub.sl _ _ _ _ _ rfl ?_|refine Sub.slnil _ _ _ rfl ?_|(apply Sub.of;(focus exact rfl);(focus exact LeA.of_eq (vb (by first|(rw[hb21];rfl)|(rw[hb21,hx];rfl))));(focus exact rfl))))
 skip
 refine A7 rfl (fun hb23=>?_) (fun hb23=>?_)
 ·have hc23:=bp hb23
  refine w_ (AU (h:=s_ (h:=a_ (h:=e_ (A6 (A9 (?_)))))))
  refine AD ?_
  rw[U4 hc1 (by omega) ha had hT (by simp only[Bool.and_eq_true,Bool.not_eq_true']at hc23;exact hc23)]
  rfl
 have hc23:=bp hb23
 refine AM (w_ (m_ (h:=f_ (h:=s_ (h:=e_ (q_ (w_ (l_ (h:=f_ (h:=l_ (h:=?_)))))))))))
 refine A4 rfl (AK (Yk hs.b hv τ.dir) ?_)
 rintro r rfl
 refine m_ (h:=x_ (h:=x_ (h:=a_ (h:=a_ (h:=e_ (w_ (m_ (h:=e_ (?_)))))))))
 refine A7 rfl (fun hb24=>?_) (fun hb24=>?_)
 ·have hc24:=bp hb24
  refine w_ (m_ (h:=f_ (h:=s_ (h:=e_ (w_ (f_ (h:=l_ (h:=BN (h:=e_ (?_))))))))))
  refine A7 rfl (fun hb25=>?_) (fun hb25=>?_)
  ·have hc25:=bp hb25
   refine AP (m_ (h:=f_ (h:=l_ (h:=?_))))
   refine A4 rfl (AK (T5 (BS s τ.dir).1 τ.name (by have:=hw τ.dir;omega) (by omega)) ?_)
   rintro r rfl
   refine f_ (h:=s_ (h:=e_ (w_ (l_ (h:=s_ (h:=a_ (h:=e_ (A6 (?_)))))))))
   refine AD ?_
   rw[NG hc1 (by omega) ha had hT (fun h=>by rw[h.1,h.2.1,h.2.2]at hc23;cases hc23),show Fu s (B3 p) τ=⟨τ.dir,τ.name,τ.file,τ.ex,B3 p,Co (BS s τ.dir).1 τ.name⟩ by unfold Fu;rw[if_pos hc24,if_neg hc25]]
   rfl
  have hc25:=bp hb25
  refine AM (w_ (l_ (h:=s_ (h:=a_ (h:=e_ (A6 (?_)))))))
  refine AD ?_
  rw[NG hc1 (by omega) ha had hT (fun h=>by rw[h.1,h.2.1,h.2.2]at hc23;cases hc23),show Fu s (B3 p) τ=⟨τ.dir,τ.name,τ.file,τ.ex,B3 p,(BS s τ.dir).1⟩ by unfold Fu;rw[if_pos hc24,if_pos hc25]]
  rfl
 have hc24:=bp hb24
 refine AM (w_ (l_ (h:=s_ (h:=a_ (h:=e_ (A6 (?_)))))))
 refine AD ?_
 rw[NG hc1 (by omega) ha had hT (fun h=>by rw[h.1,h.2.1,h.2.2]at hc23;cases hc23),show Fu s (B3 p) τ=⟨τ.dir,τ.name,τ.file,τ.ex,B3 p,⟨#[]⟩⟩ by unfold Fu;rw[if_neg (by simp[hc24])]]
 rfl
end
end Go.Proofs.YtbglbmnhgbgelaaGreatDoor
